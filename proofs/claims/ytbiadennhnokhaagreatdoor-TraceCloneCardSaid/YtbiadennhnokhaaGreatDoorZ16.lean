import Derived.Test.YtbiadennhnokhaaGreatDoorZ15
import Derived.RangeFuncNested
import Derived.RangeFuncCalls
import Derived.OrdersHeld
import Derived.OrdersIn
import Derived.RegionTactic
import Derived.RangeFuncBound
import Derived.RangeFuncLeaves
import Derived.Shelf.Abstract
import Derived.Shelf.RegionOpen
import Derived.WalkKit
import Derived.OwnWalkIn
import Derived.TacticsInMore
import Derived.LoopNIn
import Derived.LoopIn
import Derived.Test.YtbiadennhnokhaaGreatDoorZ01
import Derived.Test.YtbiadennhnokhaaGreatDoorShelf
import Derived.Deep.AppendLies
import Derived.Deep.RegionHeld3
import Derived.Lib.OwnBridge
import Derived.Test.YtbiadennhnokhaaGreatDoorZ11
import Derived.Maps.AppendAt
/- hierarchy: are declarations well formed. -/
namespace Go.Proofs.YtbiadennhnokhaaGreatDoor
open Go.RowKit
set_option linter.unusedSimpArgs false

def badD (n : Nat) (v : Vr) : Bool := decide (v.sc < -1) || decide ((n : Int) ≤ v.sc) || decide (v.sg < 0)
theorem hi_declv (pt : Nat) (x : Vr) (a : Option Addr) (n cap : Nat) (w : World) (hc : w.cell? ⟨pt, 0, none⟩ = some (.slice a n cap)) :
    Calls Tryz.prog 259 #[vrV x, .pointer (some ⟨pt, 0, none⟩)] w fun e w' => e = .returned (.bool (badD n x)) ∧ Below w.heap.size w w' := by
  have hlt := cell_lt hc
  have hne : pt ≠ w.heap.size := Nat.ne_of_lt hlt
  obtain ⟨nm, ty, sc, sg, rg, mb, lb⟩ := x
  by_cases h1 : sc < -1
  · have b1 : decide (sc < -1) = true := by simpa using h1
    have HR := Lib.hid (show true = badD n ⟨nm, ty, sc, sg, rg, mb, lb⟩ by simp [badD, b1])
    clear h1
    go_enter Tryz.func259, Tryz.ntmps259
    go_wp2_with fail
    go_ret
    exact ⟨ret_bool HR.out, (Below.refl _ _).alloc (Nat.le_refl _) _⟩
  · have b1 : decide (sc < -1) = false := by simpa using h1
    by_cases h2 : (n : Int) ≤ sc
    · have b2 : decide ((n : Int) ≤ sc) = true := by simpa using h2
      have HR := Lib.hid (show true = badD n ⟨nm, ty, sc, sg, rg, mb, lb⟩ by simp [badD, b2])
      clear h1 h2
      go_enter Tryz.func259, Tryz.ntmps259
      go_wp2_with fail
      go_ret
      exact ⟨ret_bool HR.out, (Below.refl _ _).alloc (Nat.le_refl _) _⟩
    · have b2 : decide ((n : Int) ≤ sc) = false := by simpa using h2
      by_cases h3 : sg < 0
      · have b3 : decide (sg < 0) = true := by simpa using h3
        have HR := Lib.hid (show true = badD n ⟨nm, ty, sc, sg, rg, mb, lb⟩ by simp [badD, b3])
        clear h1 h2 h3
        go_enter Tryz.func259, Tryz.ntmps259
        go_wp2_with fail
        go_ret
        exact ⟨ret_bool HR.out, (Below.refl _ _).alloc (Nat.le_refl _) _⟩
      · have b3 : decide (sg < 0) = false := by simpa using h3
        have HR := Lib.hid (show false = badD n ⟨nm, ty, sc, sg, rg, mb, lb⟩ by simp [badD, b1, b2, b3])
        clear h1 h2 h3
        go_enter Tryz.func259, Tryz.ntmps259
        go_wp2_with fail
        go_ret
        exact ⟨ret_bool HR.out, (Below.refl _ _).alloc (Nat.le_refl _) _⟩
/-- the scopes from the k-th on -/
def scOk (k : Nat) : List Sc → Bool
  | [] => true
  | s :: t => decide (-1 ≤ s.2.2) && decide (s.2.2 < (k : Int)) && scOk (k + 1) t
theorem scOk_zip : ∀ (S : List Sc) (k : Nat), (S.zipIdx k).all (fun x => decide (-1 ≤ x.1.2.2) && decide (x.1.2.2 < (x.2 : Int))) = scOk k S
  | [], _ => rfl
  | s :: t, k => by rw [List.zipIdx_cons, List.all_cons, scOk_zip t (k + 1)]; rfl
theorem declF_eq (S : List Sc) (V : List Vr) : declF S V = (scOk 0 S && !V.any (badD S.length)) := by
  unfold declF
  rw [scOk_zip]
  congr 1
  rw [List.not_any_eq_all_not]
  congr 1
  funext v
  unfold badD
  rw [Bool.eq_iff_iff]
  simp only [Bool.and_eq_true, decide_eq_true_iff, Bool.not_eq_true', Bool.or_eq_false_iff, decide_eq_false_iff_not]
  omega
theorem box1 {w W : World} {x : Value} {T : TypeId} (hb : Below (w.alloc (.cells #[x] T)).heap.size (w.alloc (.cells #[x] T)) W) : W.cell? ⟨w.heap.size, 0, none⟩ = some x ∧ w.heap.size < W.heap.size := by
  have h1 : w.heap.size < (w.alloc (.cells #[x] T)).heap.size := by simp
  have h2 := hb.size
  refine ⟨?_, by omega⟩
  rw [hb.cell (p := ⟨w.heap.size, 0, none⟩) h1]
  exact (OwnRow.fresh w #[x] T).cell (j := 0) rfl
set_option maxHeartbeats 800000 in
set_option maxRecDepth 100000 in
theorem hi_declared (v v2 : Value) (S : List Sc) (V : List Vr) (w : World) (hs : SlR w v S.length (scs S)) (hv : SlR w v2 V.length (vrs V)) (hl : S.length ≤ 1000000) :
    Calls Tryz.prog 202 #[v, v2] w fun e w' => e = .returned (.bool (declF S V)) ∧ Below w.heap.size w w' := by
  have HEQ := Lib.hid (declF_eq S V)
  obtain ⟨a, cap, rfl, hc, hm⟩ := hs.shape
  have HS := Lib.hid hs
  have HV := Lib.hid hv
  clear hs hv hc hm
  have HX := Lib.hid (fun W hW => con_dcl w.heap.size (badD S.length) v2 V W (HV.out.below (ext_alloc (o := .cells #[.slice a S.length cap] 22) hW)) (fun x hx U hU => hi_declv w.heap.size x a S.length cap U (by
    have h1 := box1 hW
    exact (hU.cell (p := ⟨w.heap.size, 0, none⟩) h1.2).trans h1.1)))
  go_enter Tryz.func202, Tryz.ntmps202
  go_wp2_with fail
  have HB0 := Lib.hid (Below.refl (w.alloc (.cells #[.slice a S.length cap] 22)).heap.size (w.alloc (.cells #[.slice a S.length cap] 22)))
  go_loopw [9] (fun i wr => ∃ k : Nat, k ≤ S.length ∧ i = .int .i64 k ∧ scOk k (S.drop k) = scOk 0 S ∧ Below (w.alloc (.cells #[.slice a S.length cap] 22)).heap.size (w.alloc (.cells #[.slice a S.length cap] 22)) wr) (fun i _ => S.length - (intOf i).toNat)
  case atStart => exact ⟨0, Nat.zero_le _, rfl, rfl, HB0.out⟩
  case round =>
    obtain ⟨k, hk, rfl, hgo, hb⟩ := hrel
    have HB := Lib.hid hb
    have HGO := Lib.hid hgo
    obtain ⟨c0, hz⟩ := box1 hb
    clear hgo hb
    by_cases hlt : k < S.length
    · obtain ⟨b, o, rfl, hcell⟩ := (HS.out.below (ext_alloc HB.out)).scs hlt
      have HGO2 := Lib.hid (show (decide (-1 ≤ S[k].2.2) && decide (S[k].2.2 < (k : Int)) && scOk (k + 1) (S.drop (k + 1))) = scOk 0 S by
        rw [← HGO.out, List.drop_eq_getElem_cons hlt]; rfl)
      generalize S[k] = x at hcell HGO2
      obtain ⟨nm, ty, pa⟩ := x
      have d0 : wr.cell? ⟨b, o + k * 3, none⟩ = some (.string (bsB nm)) := hcell 0 _ rfl
      have d1 : wr.cell? ⟨b, o + k * 3 + 1, none⟩ = some (.int .i64 ty) := hcell 1 _ rfl
      have d2 : wr.cell? ⟨b, o + k * 3 + 2, none⟩ = some (.int .i64 pa) := hcell 2 _ rfl
      clear hcell
      dsimp only at HGO2
      by_cases h1 : pa < -1
      · have b1 : decide (pa < -1) = true := by simpa using h1
        have HR := Lib.hid (show false = declF S V by
          rw [HEQ.out, ← HGO2.out, show decide (-1 ≤ pa) = false by simp; omega]; rfl)
        clear h1
        go_wp2_with fail
        go_ret
        exact ⟨ret_bool HR.out, ext_alloc (HB.out.alloc HB.out.size _)⟩
      · have b1 : decide (pa < -1) = false := by simpa using h1
        by_cases h2 : (k : Int) ≤ pa
        · have b2 : decide ((k : Int) ≤ pa) = true := by simpa using h2
          have HR := Lib.hid (show false = declF S V by
            rw [HEQ.out, ← HGO2.out, show decide (pa < (k : Int)) = false by simp; omega, Bool.and_false]; rfl)
          clear h1 h2
          go_wp2_with fail
          go_ret
          exact ⟨ret_bool HR.out, ext_alloc (HB.out.alloc HB.out.size _)⟩
        · have b2 : decide ((k : Int) ≤ pa) = false := by simpa using h2
          have HGO3 := Lib.hid (show scOk (k + 1) (S.drop (k + 1)) = scOk 0 S by
            rw [← HGO2.out, show decide (-1 ≤ pa) = true by simp; omega, show decide (pa < (k : Int)) = true by simp; omega]; rfl)
          clear h1 h2
          go_wp2_with fail
          go_roundw
          case rel => exact ⟨k + 1, by omega, by go_num, HGO3.out, HB.out.alloc HB.out.size _⟩
          case measure => simp [intOf]; omega
    · obtain rfl : k = S.length := by omega
      have HR := Lib.hid (show (!V.any (badD S.length)) = declF S V by
        rw [HEQ.out, ← HGO.out, List.drop_length]; rfl)
      generalize V.any (badD S.length) = r at HX HR
      go_wp2_with fail
      refine (HX.out _ HB.out).mono ?_
      rintro e w1 ⟨rfl, hb1⟩
      have HB1 := Lib.hid (ext_trans (ext_alloc HB.out) hb1)
      clear hb1
      go_wp2_with fail
      go_ret
      exact ⟨ret_bool HR.out, HB1.out⟩
end Go.Proofs.YtbiadennhnokhaaGreatDoor
/- Ranges over functions: a law for iterators whose rounds are numbered. -/
/- A region that draws its order, in a round of a range over a function: its plain walk serves. -/
namespace Go.Proofs.YtbiadennhnokhaaGreatDoor
open Go.RowKit

theorem opIn_of_wp {l n : Nat} {P : Program} {o : Oper} {a : Act} {w : World} {K K' : Act → World → Prop} {Q : Exit → Act → World → Prop} (hd : ∀ c, o.op ≠ .defer c) (h : o.wp P a w K Q) (hK : ∀ a w, K a w → K' a w) : o.wpIn (Fence.wide.inRound l) n P a w K' Q := by
  unfold Oper.wp at h
  unfold Oper.wpIn
  refine ⟨fun _ _ => trivial, ?_⟩
  rw [show (Fence.wide.inRound l).round = some l from rfl, Oper.semAt_eq _ _ o hd]
  generalize (execOp a.eval o).run P w = r at h
  cases r with
  | ok x w' =>
    cases x with
    | value v => exact hK _ _ h
    | skip => exact hK _ _ h
    | defer d => exact hK _ _ h
    | enter f args =>
      refine ⟨(fun h0 => by cases h0), (CallsIn.inRound l (callsIn_wide.2 h)).mono fun e w'' he => ?_⟩
      cases e with
      | returned v => exact hK _ _ he
      | panicked c => exact he
      | outgrown => exact he
    | row r args =>
      refine ⟨(fun h0 => by cases h0), fun c cs _ => ?_⟩
      obtain ⟨v, w2, hv, hs⟩ := h c cs
      exact ⟨v, w2, hK _ _ hv, stepsIn_wide.2 hs⟩
    | _ => exact h.elim
  | halt x w' =>
    cases x <;> exact h
theorem noDefer {ops : Array Oper} (h : ops.all (fun o => match o.op with | .defer _ => false | _ => true) = true) : ∀ (i : Nat) (o : Oper), ops[i]? = some o → ∀ c, o.op ≠ .defer c := by
  intro i o ho c hc
  rw [Array.all_eq_true] at h
  obtain ⟨hi, e⟩ := Array.getElem?_eq_some_iff.1 ho
  have := h i hi
  rw [e] at this
  simp [hc] at this
theorem anyIn_of_any {l n : Nat} {P : Program} {md : Region.Mode} {ops : Array Oper} {Q : Exit → Act → World → Prop} (hd : ∀ (i : Nat) (o : Oper), ops[i]? = some o → ∀ c, o.op ≠ .defer c) (hl : ¬ LetsOut Q) :
    ∀ (fuel : Nat) (listed : Array Bool) (a : Act) (w : World), wpAny P md ops Q fuel listed a w → wpAnyIn (Fence.wide.inRound l) n P md ops Q fuel listed a w
  | 0, _, _, _, h => h
  | fuel + 1, listed, a, w, h => by
    refine ⟨h.1, fun i hi => ?_⟩
    have h2 := h.2 i hi
    unfold wpOp at h2
    unfold wpOpIn
    cases ho : ops[i]? with
    | none =>
      rw [ho] at h2
      exact anyIn_of_any hd hl fuel _ _ _ h2
    | some o =>
      rw [ho] at h2
      simp only at h2 ⊢
      split
      · rename_i hw
        rw [if_pos hw] at h2
        rcases h2 with h2 | ⟨-, h2⟩
        · exact opIn_of_wp (hd i o ho) h2 fun a w h => anyIn_of_any hd hl fuel _ _ _ h
        · exact absurd h2 hl
      · rename_i hw
        rw [if_neg hw] at h2
        exact ⟨fun _ _ => trivial, anyIn_of_any hd hl fuel _ _ _ h2⟩
end Go.Proofs.YtbiadennhnokhaaGreatDoor

/- A range over an iterator that keeps its place in a box of its own; lexer.steps. -/
namespace Go.Proofs.YtbiadennhnokhaaGreatDoor
open Go.RowKit Go.Shelf
attribute [local go_sem] Oper.semAt_some
set_option linter.unusedSimpArgs false

/-- all rows of cells stay, but for those of type T; so does what lies below B -/
structure TurnI (B : Nat) (T : TypeId) (W V : World) : Prop where
  os : V.os = W.os
  tape : V.tape = W.tape
  output : V.output = W.output
  size : W.heap.size ≤ V.heap.size
  low : ∀ b, b < B → V.heap[b]? = W.heap[b]?
  cells : ∀ (b : Nat) (C : Array Value) (T' : TypeId) (fr : Nat × Nat), T' ≠ T → W.heap[b]? = some (.cells C T' fr) → V.heap[b]? = some (.cells C T' fr)
/-- and so does what is no row -/
structure TurnJ (B : Nat) (T : TypeId) (W V : World) : Prop where
  i : TurnI B T W V
  others : ∀ (b : Nat) (o : Obj), o.isCells = false → W.heap[b]? = some o → V.heap[b]? = some o
/-- all rows of cells stay -/
structure Same0 (W V : World) : Prop where
  size : W.heap.size ≤ V.heap.size
  cells : ∀ (b : Nat) (C : Array Value) (T : TypeId) (fr : Nat × Nat), W.heap[b]? = some (.cells C T fr) → V.heap[b]? = some (.cells C T fr)
theorem TurnJ.drew (B : Nat) (T : TypeId) (W : World) (n : Nat) : TurnJ B T W (W.drewN n) := ⟨⟨rfl, rfl, rfl, Nat.le_refl _, fun _ _ => rfl, fun _ _ _ _ _ h => h⟩, fun _ _ _ h => h⟩
theorem TurnJ.below {B : Nat} {T : TypeId} {W V : World} (hB : B ≤ W.heap.size) (h : Below W.heap.size W V) : TurnJ B T W V :=
  ⟨⟨h.os, h.tape, h.output, h.size, fun b hb => h.block b (by omega), fun b C T' fr _ hb => by rw [h.block b (Array.getElem?_eq_some_iff.1 hb).1]; exact hb⟩, fun b o _ hb => by rw [h.block b (Array.getElem?_eq_some_iff.1 hb).1]; exact hb⟩
theorem TurnJ.trans {B : Nat} {T : TypeId} {X Y Z : World} (h : TurnJ B T X Y) (k : TurnJ B T Y Z) : TurnJ B T X Z :=
  ⟨⟨k.i.os.trans h.i.os, k.i.tape.trans h.i.tape, k.i.output.trans h.i.output, Nat.le_trans h.i.size k.i.size, fun b hb => (k.i.low b hb).trans (h.i.low b hb), fun b C T' fr hT hb => k.i.cells b C T' fr hT (h.i.cells b C T' fr hT hb)⟩, fun b o ho hb => k.others b o ho (h.others b o ho hb)⟩
theorem TurnJ.setCell {B : Nat} {T : TypeId} {W : World} {b : Nat} {C : Array Value} {fr : Nat × Nat} (hb : W.heap[b]? = some (.cells C T fr)) (hB : B ≤ b) (j : Nat) (u : Value) : TurnJ B T W (W.setCell ⟨b, j, none⟩ u) := by
  refine ⟨⟨rfl, rfl, rfl, by simp, fun i hi => Below.heap_setCell _ _ _ _ (by show i ≠ b; omega), fun i C' T' fr' hT hi => ?_⟩, fun i o ho hi => ?_⟩
  · have hne : i ≠ b := by
      rintro rfl
      rw [hb] at hi
      injection hi with hi
      injection hi with _ hi _
      exact hT hi.symm
    rw [Below.heap_setCell _ _ _ _ hne]
    exact hi
  · have hne : i ≠ b := by
      rintro rfl
      rw [hb] at hi
      injection hi with hi
      subst hi
      cases ho
    rw [Below.heap_setCell _ _ _ _ hne]
    exact hi
theorem TurnI.putObj {B : Nat} {T : TypeId} {W : World} {l : Nat} {o : Obj} (hl : W.heap[l]? = some o) (ho : o.isCells = false) (hB : B ≤ l) (o' : Obj) : TurnI B T W (W.putObj l o') := by
  have hlt := (Array.getElem?_eq_some_iff.1 hl).1
  have hg := grownBy_putObj' W l o'
  refine ⟨hg.os, hg.tape, hg.output, hg.size, fun b hb => World.putObj_heap_other (by omega), fun b C T' fr _ hb => ?_⟩
  have hne : b ≠ l := by
    rintro rfl
    rw [hl] at hb
    injection hb with hb
    subst hb
    cases ho
  rw [World.putObj_heap_other hne]
  exact hb
theorem Same0.putObj {W : World} {l : Nat} {o : Obj} (hl : W.heap[l]? = some o) (ho : o.isCells = false) (o' : Obj) : Same0 W (W.putObj l o') := by
  refine ⟨(grownBy_putObj' W l o').size, fun b C T' fr hb => ?_⟩
  have hne : b ≠ l := by
    rintro rfl
    rw [hl] at hb
    injection hb with hb
    subst hb
    cases ho
  rw [World.putObj_heap_other hne]
  exact hb

/-- ranging over an iterator whose rounds are numbered, which may write rows of type T of its own -/
theorem rangeB {F : Fence} {n : Nat} {P : Program} {g : Operand} {ps : Array Tmp} {assign body : Code} {Q : Exit → Act → World → Prop} {a : Act} {w : World}
    (hro : F.round = none) (h1 : 1 ≤ n) {gf : Nat} {lb : Array Value} (hg : a.eval g = .func (.func gf) #[] lb) (hFg : F.fn gf) (eg : ∀ args w, (callFunc gf args).run P w = .ok (.enter gf args) w)
    {encs : Nat → Array Value} {Kp : World → World → Prop} {N : Nat} {T : TypeId} {B0 : Nat} (hB0 : B0 ≤ w.heap.size)
    (hiter : ∀ (l : Nat) (J : Nat → World → Prop) (W : World), Below w.heap.size w W → (∀ k X Y, J k X → TurnJ B0 T X Y → J k Y) →
      (∀ k W1, J k W1 → k < N → YieldAt F (n - 1 - 1) P l (encs k) W1 fun e W' => e = .returned (.bool true) ∧ J (k + 1) W' ∧ Kp W1 W') → J 0 W →
      CallsIn F (n - 1) P gf (#[.func (.yield l) #[] #[]] ++ lb) W fun e W' => (∃ v, e = .returned v) ∧ J N W')
    (hKt : ∀ {A B C : World}, Kp A B → Kp B C → Kp A C) (hK0 : ∀ W V, Same0 W V → Kp W V) (hps : ∀ k, (encs k).size = ps.size)
    (I : Nat → World → Prop) (hI : ∀ k W V, I k W → TurnI B0 T W V → I k V) (h0 : I 0 w)
    (hround : ∀ (l k : Nat) (W : World), w.heap.size ≤ l → I k W → k < N →
      assign.wpIn (F.inRound l) (n - 1 - 1) P (Exit.then (fun a1 W1 => KeepsFrom w.heap.size W W1 ∧ Kp W W1 ∧ ∀ W2, Same0 W1 W2 → TurnI B0 T W1 W2 → body.wpIn (F.inRound l) (n - 1 - 1) P (fun e _ W3 => e = .normal ∧ KeepsFrom w.heap.size W2 W3 ∧ Kp W2 W3 ∧ I (k + 1) W3) a1 W2) (fun _ _ _ => False))
        { tmps := (ps.zip (encs k)).foldl (fun t (p, v) => t.setIfInBounds p v) a.tmps, defers := [] } W)
    (hdone : ∀ (D : Nat) (W : World), w.heap.size ≤ D → I N W → W.heap[D]? = some (.deferred (some [])) → Q .normal { a with defers := { target := .collected D, args := #[] } :: a.defers } W) :
    (Code.rangeFunc g ps assign body).wpIn F n P Q a w := by
  refine wpIn_rangeFunc fun fn hfn => ?_
  rw [hro]
  let rec' : LoopState → Option Code → Loop := fun st pe => { state := st, pending := pe, fn, tmps := a.tmps, params := ps, assign, body, defers := w.heap.size }
  let D := w.heap.size
  let l := w.heap.size + 1
  let X1 : World := (w.alloc (.deferred (some []))).alloc (.loop (rec' .ready none))
  have hz1 : (w.alloc (.deferred (some []))).heap.size = w.heap.size + 1 := World.size_alloc _ _
  have hL1 : ((w.alloc (.deferred (some []))).alloc (.loop (rec' .ready none))).heap[l]? = some (.loop (rec' .ready none)) := by
    have := World.alloc_heap_new (w.alloc (.deferred (some []))) (.loop (rec' .ready none))
    rwa [hz1] at this
  have hD1 : ((w.alloc (.deferred (some []))).alloc (.loop (rec' .ready none))).heap[D]? = some (.deferred (some [])) := (Below.heap_alloc _ _ _ (by rw [hz1]; exact Nat.lt_succ_self _)).trans (World.alloc_heap_new w _)
  have hB1 : Below w.heap.size w ((w.alloc (.deferred (some []))).alloc (.loop (rec' .ready none))) := (((Below.refl _ w).alloc (Nat.le_refl _) _).alloc (by simp) _)
  have hI1 : I 0 ((w.alloc (.deferred (some []))).alloc (.loop (rec' .ready none))) := hI 0 _ _ h0 (TurnJ.below hB0 hB1).i
  refine ⟨l, [{ target := .collected D, args := #[] }], X1, { target := .fn (.func gf) lb, args := #[.func (.yield l) #[] #[]] }, X1, gf, #[.func (.yield l) #[] #[]] ++ lb, X1, run_enterLoop_outer _ _ _ _ _, ?_, ?_, ?_, fun _ => h1, ?_⟩
  · simp only [resolve, hg]
    simp [go_sem]
  · intro f' hf'
    simp [Target.leads] at hf'
    subst hf'
    exact hFg
  · simp [invoke, go_sem, eg]
  refine (hiter l (fun k W => I k W ∧ W.heap[l]? = some (.loop (rec' .ready none)) ∧ W.heap[D]? = some (.deferred (some []))) _ hB1
    (fun k X Y h t => ⟨hI k X Y h.1 t.i, t.others _ _ rfl h.2.1, t.others _ _ rfl h.2.2⟩) ?_ ⟨hI1, hL1, hD1⟩).mono ?_
  · rintro k W ⟨hi, hl, hd⟩ hk
    refine ⟨fn, _, assign, body, run_yield (P := P) (args := encs k) hl (hps k), roundIn_of_wpIn hfn (wpIn_mono (hround l k W (Nat.le_succ _) hi hk) ?_)⟩
    rintro e a1 W1 hp
    cases e with
    | normal =>
      obtain ⟨k1, p1, hbody⟩ := hp
      have hl1 := k1.same _ _ (Nat.le_succ _) hl rfl
      have hd1 := k1.same _ _ (Nat.le_refl _) hd rfl
      have s12 := Same0.putObj hl1 rfl (.loop { rec' .ready none with state := .busy })
      have hl2 : (W1.putObj l (.loop { rec' .ready none with state := .busy })).heap[l]? = some (.loop { rec' .ready none with state := .busy }) := World.putObj_heap_same (Array.getElem?_eq_some_iff.1 hl1).1
      have hd2 : (W1.putObj l (.loop { rec' .ready none with state := .busy })).heap[D]? = some (.deferred (some [])) := (World.putObj_heap_other (Nat.ne_of_lt (Nat.lt_succ_self _))).trans hd1
      refine ⟨_, run_beginRound hl1 rfl, wpIn_mono (hbody _ s12 (TurnI.putObj hl1 rfl (Nat.le_trans hB0 (Nat.le_succ _)) _)) ?_⟩
      rintro e3 a3 W3 ⟨rfl, k3, p3, i3⟩
      have hl3 := k3.same _ _ (Nat.le_succ _) hl2 rfl
      have hd3 := k3.same _ _ (Nat.le_refl _) hd2 rfl
      exact ⟨_, _, run_endRound (P := P) none hl3, rfl, ⟨hI _ _ _ i3 (TurnI.putObj hl3 rfl (Nat.le_trans hB0 (Nat.le_succ _)) _), World.putObj_heap_same (Array.getElem?_eq_some_iff.1 hl3).1, (World.putObj_heap_other (Nat.ne_of_lt (Nat.lt_succ_self _))).trans hd3⟩,
        hKt p1 (hKt (hK0 _ _ s12) (hKt p3 (hK0 _ _ (Same0.putObj hl3 rfl _))))⟩
    | ret => exact hp.elim
    | exit id => exact hp.elim
    | goto t => exact hp.elim
    | panic ch => exact hp.elim
    | outgrown => exact hp.elim
  · rintro e W2 ⟨⟨v, rfl⟩, hi, hl, hd⟩
    exact ⟨none, _, run_endLoop (P := P) hl (by simp [rec']), hdone D _ (Nat.le_refl _) (hI _ _ _ hi (TurnI.putObj hl rfl (Nat.le_trans hB0 (Nat.le_succ _)) _)) ((World.putObj_heap_other (Nat.ne_of_lt (Nat.lt_succ_self _))).trans hd)⟩
/-- ranging over an iterator whose rounds are numbered, which may write rows of type T of its own -/
theorem rangeN {F : Fence} {n : Nat} {P : Program} {g : Operand} {ps : Array Tmp} {assign body : Code} {Q : Exit → Act → World → Prop} {a : Act} {w : World}
    (hro : F.round = none) (h1 : 1 ≤ n) {gf : Nat} {lb : Array Value} (hg : a.eval g = .func (.func gf) #[] lb) (hFg : F.fn gf) (eg : ∀ args w, (callFunc gf args).run P w = .ok (.enter gf args) w)
    {encs : Nat → Array Value} {Kp : World → World → Prop} {N : Nat} {T : TypeId}
    (hiter : ∀ (l : Nat) (J : Nat → World → Prop) (W : World), Below w.heap.size w W → (∀ k X Y, J k X → TurnJ w.heap.size T X Y → J k Y) →
      (∀ k W1, J k W1 → k < N → YieldAt F (n - 1 - 1) P l (encs k) W1 fun e W' => e = .returned (.bool true) ∧ J (k + 1) W' ∧ Kp W1 W') → J 0 W →
      CallsIn F (n - 1) P gf (#[.func (.yield l) #[] #[]] ++ lb) W fun e W' => (∃ v, e = .returned v) ∧ J N W')
    (hKt : ∀ {A B C : World}, Kp A B → Kp B C → Kp A C) (hK0 : ∀ W V, Same0 W V → Kp W V) (hps : ∀ k, (encs k).size = ps.size)
    (I : Nat → World → Prop) (hI : ∀ k W V, I k W → TurnI w.heap.size T W V → I k V) (h0 : I 0 w)
    (hround : ∀ (l k : Nat) (W : World), w.heap.size ≤ l → I k W → k < N →
      assign.wpIn (F.inRound l) (n - 1 - 1) P (Exit.then (fun a1 W1 => KeepsFrom w.heap.size W W1 ∧ Kp W W1 ∧ ∀ W2, Same0 W1 W2 → TurnI w.heap.size T W1 W2 → body.wpIn (F.inRound l) (n - 1 - 1) P (fun e _ W3 => e = .normal ∧ KeepsFrom w.heap.size W2 W3 ∧ Kp W2 W3 ∧ I (k + 1) W3) a1 W2) (fun _ _ _ => False))
        { tmps := (ps.zip (encs k)).foldl (fun t (p, v) => t.setIfInBounds p v) a.tmps, defers := [] } W)
    (hdone : ∀ (D : Nat) (W : World), w.heap.size ≤ D → I N W → W.heap[D]? = some (.deferred (some [])) → Q .normal { a with defers := { target := .collected D, args := #[] } :: a.defers } W) :
    (Code.rangeFunc g ps assign body).wpIn F n P Q a w :=
  rangeB (hB0 := Nat.le_refl _) hro h1 hg hFg eg hiter hKt hK0 hps I hI h0 hround hdone
end Go.Proofs.YtbiadennhnokhaaGreatDoor
/- hierarchy: the iterator over the scopes that contain a scope. -/
namespace Go.Proofs.YtbiadennhnokhaaGreatDoor
open Go.RowKit Go.Shelf
attribute [local go_sem] Oper.semAt_some
set_option linter.unusedSimpArgs false

/-- k steps up from scope i -/
def upI (S : List Sc) (i : Int) : Nat → Int
  | 0 => i
  | k + 1 => parS S (upI S i k).toNat
theorem upI_front (S : List Sc) (i : Int) : ∀ k, upI S i (k + 1) = upI S (parS S i.toNat) k
  | 0 => rfl
  | k + 1 => by rw [upI, upI_front S i k]; rfl
theorem up_spec {S : List Sc} (hF : Fst (parS S) S.length) : ∀ (f : Nat) (i : Int), i < (f : Int) → -1 ≤ i → i < (S.length : Int) →
    (∀ k, k < (upL S f i).length → 0 ≤ upI S i k ∧ upI S i k < (S.length : Int) ∧ (upL S f i)[k]? = some (upI S i k).toNat) ∧ upI S i (upL S f i).length = -1
  | 0, i, h1, h2, h3 => ⟨fun k hk => by simp [upL] at hk, by show i = -1; omega⟩
  | f + 1, i, h1, h2, h3 => by
    by_cases h0 : i < 0
    · have e : upL S (f + 1) i = [] := by rw [upL, if_pos h0]
      rw [e]
      exact ⟨fun k hk => by simp at hk, by show i = -1; omega⟩
    · have hn : i.toNat < S.length := by omega
      have hp : parS S i.toNat = S[i.toNat].2.2 := by simp [parS, List.getD, hn]
      have e : upL S (f + 1) i = i.toNat :: upL S f (parS S i.toNat) := by
        rw [upL, if_neg h0, List.getElem?_eq_getElem hn, hp]
      have hq := hF i.toNat hn
      obtain ⟨h4, h5⟩ := up_spec hF f (parS S i.toNat) (by omega) hq.1 (by omega)
      rw [e]
      refine ⟨fun k hk => ?_, by rw [List.length_cons, upI_front]; exact h5⟩
      cases k with
      | zero => exact ⟨by show 0 ≤ i; omega, h3, rfl⟩
      | succ k =>
        rw [upI_front, List.getElem?_cons_succ]
        exact h4 k (by simpa using hk)
theorem cells_of {w : World} {b o : Nat} {u : Value} (h : w.cell? ⟨b, o, none⟩ = some u) : ∃ C T fr, w.heap[b]? = some (.cells C T fr) ∧ C[o]? = some u := by
  unfold World.cell? at h
  cases hb : w.heap[b]? with
  | none => simp [hb] at h
  | some x =>
    simp only [hb] at h
    cases x with
    | cells C T fr => exact ⟨C, T, fr, rfl, by simpa using h⟩
    | _ => simp at h
theorem cell_of {w : World} {b o : Nat} {u : Value} {C : Array Value} {T : TypeId} {fr : Nat × Nat} (h : w.heap[b]? = some (.cells C T fr)) (hu : C[o]? = some u) : w.cell? ⟨b, o, none⟩ = some u := by simp [World.cell?, h, hu]
theorem Same0.cell {w W : World} (h : Same0 w W) {b o : Nat} {u : Value} (hc : w.cell? ⟨b, o, none⟩ = some u) : W.cell? ⟨b, o, none⟩ = some u := by
  obtain ⟨C, T, fr, h1, h2⟩ := cells_of hc
  exact cell_of (h.cells _ _ _ _ h1) h2
theorem SlR.same0 {w W : World} {v : Value} {n : Nat} {xs : List Value} (h : SlR w v n xs) (hs : Same0 w W) : SlR W v n xs := by
  obtain ⟨a, cap, hv, h1, h2, h3, h4⟩ := h
  refine ⟨a, cap, hv, h1, h2, h3, fun hn => ?_⟩
  obtain ⟨b, o, ha, hc⟩ := h4 hn
  exact ⟨b, o, ha, fun j u hj => hs.cell (hc j u hj)⟩
theorem Same0.refl (w : World) : Same0 w w := ⟨Nat.le_refl _, fun _ _ _ _ h => h⟩
theorem Same0.trans {a b c : World} (h : Same0 a b) (k : Same0 b c) : Same0 a c := ⟨Nat.le_trans h.size k.size, fun _ _ _ _ hi => k.cells _ _ _ _ (h.cells _ _ _ _ hi)⟩
theorem Same0.of_below {a b : World} (h : Below a.heap.size a b) : Same0 a b := ⟨h.size, fun i _ _ _ hi => by rw [h.block i (Array.getElem?_eq_some_iff.1 hi).1]; exact hi⟩
theorem Same0.turn {w0 W V : World} {B : Nat} {T : TypeId} (h : Same0 w0 W) (hB : w0.heap.size ≤ B) (ht : TurnI B T W V) : Same0 w0 V :=
  ⟨Nat.le_trans h.size ht.size, fun b C T' fr hb => by rw [ht.low b (by have := (Array.getElem?_eq_some_iff.1 hb).1; omega)]; exact h.cells _ _ _ _ hb⟩
/-- what the body of a range keeps: the old cells, and the new ones but for those of two types -/
def KpU (N : Nat) (T1 T2 : TypeId) (W V : World) : Prop := ∀ (b : Nat) (C : Array Value) (T : TypeId) (fr : Nat × Nat), (b < N ∨ (T ≠ T1 ∧ T ≠ T2)) → W.heap[b]? = some (.cells C T fr) → V.heap[b]? = some (.cells C T fr)
theorem KpU.trans {N : Nat} {T1 T2 : TypeId} {A B C : World} (h : KpU N T1 T2 A B) (k : KpU N T1 T2 B C) : KpU N T1 T2 A C := fun b D T fr hT hb => k b D T fr hT (h b D T fr hT hb)
theorem KpU.same0 {N : Nat} {T1 T2 : TypeId} {W V : World} (h : Same0 W V) : KpU N T1 T2 W V := fun b C T fr _ hb => h.cells b C T fr hb
theorem KpU.below {N : Nat} {T1 T2 : TypeId} {W V : World} (h : Below W.heap.size W V) : KpU N T1 T2 W V := KpU.same0 (Same0.of_below h)
theorem KpU.old {w0 W V : World} {T1 T2 : TypeId} (h : Same0 w0 W) (k : KpU w0.heap.size T1 T2 W V) (hz : W.heap.size ≤ V.heap.size) : Same0 w0 V :=
  ⟨Nat.le_trans h.size hz, fun b C T fr hb => k b C T fr (.inl (Array.getElem?_eq_some_iff.1 hb).1) (h.cells _ _ _ _ hb)⟩
end Go.Proofs.YtbiadennhnokhaaGreatDoor
/- hierarchy: the iterator over the scopes that contain a scope. -/
namespace Go.Proofs.YtbiadennhnokhaaGreatDoor
open Go.RowKit Go.Shelf
attribute [local go_sem] Oper.semAt_some
set_option linter.unusedSimpArgs false

theorem heap_set1 {W : World} {b : Nat} {x x' : Value} {T : TypeId} (h : W.heap[b]? = some (.cells #[x] T (0, 0))) : (W.setCell ⟨b, 0, none⟩ x').heap[b]? = some (.cells #[x'] T (0, 0)) := by
  simp [World.setCell, Array.getElem?_modify, h]
theorem heap_far1 {W : World} {b b' : Nat} {x' : Value} {o : Obj} (hne : b ≠ b') (h : W.heap[b]? = some o) : (W.setCell ⟨b', 0, none⟩ x').heap[b]? = some o := by
  rw [Below.heap_setCell _ _ _ _ hne]
  exact h
theorem one_free {W : World} {b : Nat} {x : Value} {T : TypeId} (h : W.heap[b]? = some (.cells #[x] T (0, 0))) : W.cell? ⟨b, 0, none⟩ = some x ∧ W.frozen? ⟨b, 0, none⟩ = false := ⟨by simp [World.cell?, h], by simp [World.frozen?, h]⟩
def upE (L : List Nat) (k : Nat) : Array Value := #[.int .i64 ((L.getD k 0 : Nat) : Int)]
def measU (bi : Nat) (w : World) : Nat := match w.cell? ⟨bi, 0, none⟩ with
  | some v => (intOf v + 1).toNat
  | none => 0
set_option maxRecDepth 100000 in
set_option maxHeartbeats 2000000 in
theorem up1_in (n : Nat) (hn : 2 ≤ n) (lp bi bs B N : Nat) (T1 T2 : TypeId) (hT1 : T1 ≠ 3 ∧ T1 ≠ 22) (hT2 : T2 ≠ 3 ∧ T2 ≠ 22) (S : List Sc) (i0 : Int) (v : Value) (w0 W : World) (J : Nat → World → Prop)
    (hF : Fst (parS S) S.length) (hi0 : -1 ≤ i0) (hi1 : i0 < (S.length : Int)) (hNw : N = w0.heap.size) (hB : N ≤ B) (hBi : B ≤ bi) (hbs : bs ≠ bi) (hs : SlR w0 v S.length (scs S)) (h0w : Same0 w0 W)
    (hJ : ∀ k X Y, J k X → TurnJ B 3 X Y → J k Y)
    (hY : ∀ k W1, J k W1 → k < (upL S (i0.toNat + 1) i0).length → YieldAt Fence.wide (n - 1) Tryz.prog lp (upE (upL S (i0.toNat + 1) i0) k) W1 fun e W' => e = .returned (.bool true) ∧ J (k + 1) W' ∧ (KpU N T1 T2 W1 W' ∧ W1.heap.size ≤ W'.heap.size))
    (hci : W.heap[bi]? = some (.cells #[.int .i64 i0] 3 (0, 0))) (hcs : W.heap[bs]? = some (.cells #[v] 22 (0, 0))) (h0 : J 0 W) :
    CallsIn Fence.wide n Tryz.prog 286 #[.func (.yield lp) #[] #[], .pointer (some ⟨bi, 0, none⟩), .pointer (some ⟨bs, 0, none⟩)] W fun e W' => (∃ v, e = .returned v) ∧ J (upL S (i0.toNat + 1) i0).length W' := by
  have hro : Fence.wide.round = none := rfl
  obtain ⟨hsp, hend⟩ := up_spec hF (i0.toNat + 1) i0 (by omega) hi0 hi1
  have HSP := Lib.hid hsp
  have HEND := Lib.hid hend
  clear hsp hend
  generalize upL S (i0.toNat + 1) i0 = L at *
  obtain ⟨a, cap, rfl, hcp, hm⟩ := hs.shape
  unfold maxLen at hm
  have HS := Lib.hid hs
  have HJ := Lib.hid hJ
  have HY := Lib.hid hY
  have HF := Lib.hid hF
  have HCI := Lib.hid hci
  have HCS := Lib.hid hcs
  have H0W := Lib.hid h0w
  have HT := Lib.hid (And.intro hT1 hT2)
  have HN := Lib.hid hNw
  have HI := Lib.hid (And.intro hi0 hi1)
  clear hs hJ hY hF hci hcs h0w hT1 hT2 hNw hi0 hi1
  refine callsIn_of_wp Tryz.func286 rfl trivial ?_ hro
  simp only [Tryz.ntmps286, List.size_toArray, List.length_cons, List.length_nil, Nat.reduceAdd, Nat.reduceSub, Array.replicate_succ, Array.replicate_zero, List.push_toArray, List.append_toArray, List.nil_append, List.cons_append]
  gi_wp2
  gi_loopw [4] (fun _ wr => ∃ k : Nat, k ≤ L.length ∧ J k wr ∧ Same0 w0 wr ∧ wr.heap[bi]? = some (.cells #[.int .i64 (upI S i0 k)] 3 (0, 0)) ∧ wr.heap[bs]? = some (.cells #[.slice a S.length cap] 22 (0, 0)))
    (fun _ wr => measU bi wr)
  case atStart => exact ⟨0, Nat.zero_le _, h0, H0W.out, HCI.out, HCS.out⟩
  case round =>
    obtain ⟨k, hk, hjk, hsa, hbi, hbs2⟩ := hrel
    obtain ⟨ci, fi⟩ := one_free hbi
    obtain ⟨cs, fs⟩ := one_free hbs2
    have HBI := Lib.hid hbi
    have HBS := Lib.hid hbs2
    have HSA := Lib.hid hsa
    have HJK := Lib.hid hjk
    have hme : measU bi wr = (upI S i0 k + 1).toNat := by unfold measU; rw [ci]; rfl
    have HME := Lib.hid hme
    clear hbi hbs2 hsa hme
    by_cases hlt : k < L.length
    · obtain ⟨q0, q1, q2⟩ := HSP.out k hlt
      obtain ⟨fn, tmps, assign, body, hy, hR⟩ := HY.out k wr hjk hlt
      have HR := Lib.hid hR
      have HLD := Lib.hid (show (L.getD k 0 : Nat) = (upI S i0 k).toNat by rw [List.getD, q2]; rfl)
      have HNX := Lib.hid (show upI S i0 (k + 1) = parS S (upI S i0 k).toNat from rfl)
      obtain ⟨m, hm2⟩ := Int.eq_ofNat_of_zero_le q0
      rw [hm2] at q1 HNX ci HBI HME HLD
      rw [Int.toNat_natCast] at HNX HLD
      have hmS : m < S.length := by omega
      unfold upE at hy
      rw [HLD.out] at hy
      clear q0 q2 hR hjk hm2 q1
      have h1n : 1 ≤ n := by omega
      gi_wp2
      refine HR.out.mono ?_
      rintro e W3 ⟨rfl, hj3, hk3, hz3⟩
      have HJ3 := Lib.hid hj3
      have HSA3 := Lib.hid (show Same0 w0 W3 from KpU.old HSA.out (HN.out ▸ hk3) hz3)
      have HBI3 := Lib.hid (hk3 bi _ 3 _ (.inr ⟨fun e => HT.out.1.1 e.symm, fun e => HT.out.2.1 e.symm⟩) HBI.out)
      have HBS3 := Lib.hid (hk3 bs _ 22 _ (.inr ⟨fun e => HT.out.1.2 e.symm, fun e => HT.out.2.2 e.symm⟩) HBS.out)
      clear hj3 hk3 hz3 ci fi cs fs hy
      obtain ⟨ci, fi⟩ := one_free HBI3.out
      obtain ⟨cs, fs⟩ := one_free HBS3.out
      obtain ⟨b, o, rfl, hcell⟩ := (HS.out.same0 HSA3.out).scs hmS
      have hps : parS S m = S[m].2.2 := by simp [parS, List.getD, hmS]
      have HQ := Lib.hid (HF.out m hmS)
      rw [hps] at HNX HQ
      generalize S[m] = x at hcell HNX HQ
      obtain ⟨nm, ty, pa⟩ := x
      dsimp only at HNX HQ
      have d2 : W3.cell? ⟨b, o + m * 3 + 2, none⟩ = some (.int .i64 pa) := hcell 2 _ rfl
      clear hcell hps
      gi_wp2
      go_roundw
      case rel => exact ⟨k + 1, hlt, HJ.out _ _ _ HJ3.out (TurnJ.setCell HBI3.out hBi 0 _), HSA3.out.turn (HN.out ▸ hB) (TurnJ.setCell (T := 3) HBI3.out hBi 0 _).i, by rw [HNX.out]; exact heap_set1 HBI3.out, heap_far1 hbs HBS3.out⟩
      case measure =>
        rw [HME.out]
        have e : ((W3.setCell ⟨bi, 0, none⟩ (.int .i64 pa)).cell? ⟨bi, 0, none⟩) = some (.int .i64 pa) := (one_free (heap_set1 (x' := .int .i64 pa) HBI3.out)).1
        unfold measU
        rw [e]
        have := HQ.out
        simp [intOf]; omega
    · obtain rfl : k = L.length := by omega
      have hend := HEND.out
      rw [hend] at ci
      clear hend
      gi_wp2
      go_end0
      exact ⟨⟨_, rfl⟩, HJK.out⟩
end Go.Proofs.YtbiadennhnokhaaGreatDoor
/- hierarchy: the path of a scope of declarations. -/
namespace Go.Proofs.YtbiadennhnokhaaGreatDoor
open Go.RowKit Go.Shelf
attribute [local go_sem] Oper.semAt_some
set_option linter.unusedSimpArgs false

def strV (s : Bs) : Value := .string (bsB s)
def strs (l : List Bs) : List Value := l.map strV
theorem str_info : (Tryz.prog.info? 9).map (fun i => (i.zero, i.size, i.bytes)) = some (some (.string ⟨#[]⟩), 1, 16) := by kernel_rfl
theorem own_turn {W V : World} {B B' e size n : Nat} {v : Value} {xs : List Value} {T : TypeId} (h : W.ownsRow B e size v n xs) (ht : TurnI B' T W V) (hne : e ≠ T) : V.ownsRow B e size v n xs := by
  obtain ⟨h1, h2⟩ := h
  refine ⟨h1, ?_⟩
  rcases h2 with h2 | ⟨g, cap, cur, e0, hb, hg, hr⟩
  · exact .inl h2
  · exact .inr ⟨g, cap, cur, e0, hb, ht.cells _ _ _ _ hne hg, hr⟩
theorem own_same0 {W V : World} {B e size n : Nat} {v : Value} {xs : List Value} (h : W.ownsRow B e size v n xs) (ht : Same0 W V) : V.ownsRow B e size v n xs := by
  obtain ⟨h1, h2⟩ := h
  refine ⟨h1, ?_⟩
  rcases h2 with h2 | ⟨g, cap, cur, e0, hb, hg, hr⟩
  · exact .inl h2
  · exact .inr ⟨g, cap, cur, e0, hb, ht.cells _ _ _ _ hg, hr⟩
theorem below_turn {B : Nat} {w W V : World} {T : TypeId} (h : Below B w W) (ht : TurnI B T W V) : Below B w V :=
  ⟨ht.os.trans h.os, ht.tape.trans h.tape, ht.output.trans h.output, Nat.le_trans h.size ht.size, fun b hb => (ht.low b hb).trans (h.block b hb)⟩
/-- what lies in memory while a path is collected -/
structure PtI (w : World) (v : Value) (nms : List Bs) (vo : Value) (W : World) : Prop where
  bs : W.heap[w.heap.size]? = some (.cells #[v] 22 (0, 0))
  bo : W.heap[w.heap.size + 1]? = some (.cells #[vo] 171 (0, 0))
  o : W.ownsRow w.heap.size 9 1 vo nms.length (strs nms)
  b : Below w.heap.size w W
theorem PtI.turn {w W V : World} {v vo : Value} {nms : List Bs} (h : PtI w v nms vo W) (ht : TurnI w.heap.size 3 W V) : PtI w v nms vo V :=
  ⟨ht.cells _ _ _ _ (by decide) h.bs, ht.cells _ _ _ _ (by decide) h.bo, own_turn h.o ht (by decide), below_turn h.b ht⟩
theorem PtI.same {w W V : World} {v vo : Value} {nms : List Bs} (h : PtI w v nms vo W) (hb : Below W.heap.size W V) : PtI w v nms vo V :=
  ⟨(Same0.of_below hb).cells _ _ _ _ h.bs, (Same0.of_below hb).cells _ _ _ _ h.bo, own_same0 h.o (Same0.of_below hb), h.b.trans (hb.mono h.b.size)⟩
def nmS (S : List Sc) (j : Nat) : Bs := (S.getD j ([], 0, 0)).1
/-- a name is appended -/
theorem PtI.add {w W W' : World} {v vo v' : Value} {nms : List Bs} {nm : Bs} (h : PtI w v nms vo W) (ho : W'.ownsRow w.heap.size 9 1 v' (nms.length + 1) (strs nms ++ [strV nm])) (hg : W.grownBy W' vo.ownBlock) :
    PtI w v (nms ++ [nm]) v' (W'.setCell ⟨w.heap.size + 1, 0, none⟩ v') ∧ W'.cell? ⟨w.heap.size, 0, none⟩ = some v ∧ W'.frozen? ⟨w.heap.size + 1, 0, none⟩ = false ∧ W'.cell? ⟨w.heap.size + 1, 0, none⟩ = some vo ∧
      KpU w.heap.size 9 171 W (W'.setCell ⟨w.heap.size + 1, 0, none⟩ v') ∧ W.heap.size ≤ (W'.setCell ⟨w.heap.size + 1, 0, none⟩ v').heap.size ∧ KeepsOthers W (W'.setCell ⟨w.heap.size + 1, 0, none⟩ v') := by
  have hne : ∀ (i : Nat) (D : Array Value) (T : TypeId) (fr : Nat × Nat), W.heap[i]? = some (.cells D T fr) → T ≠ 9 → W'.heap[i]? = some (.cells D T fr) := by
    intro i D T fr hi hT
    rw [hg.block i (Array.getElem?_eq_some_iff.1 hi).1 (fun q => by
      rcases h.o.2 with ⟨rfl, -⟩ | ⟨g', cap', cur, rfl, -, hgb, -⟩
      · cases q
      · injection q with q
        subst q
        rw [hgb] at hi
        injection hi with hi
        injection hi with _ h5 _
        exact hT h5.symm)]
    exact hi
  have h1 := hne _ _ _ _ h.bs (by decide)
  have h2 := hne _ _ _ _ h.bo (by decide)
  obtain ⟨c1, f1⟩ := one_free h1
  obtain ⟨c2, f2⟩ := one_free h2
  have hb : Below w.heap.size w W' := h.b.grown hg (h.b.size) (fun k hk => (h.o.lt _ hk).1)
  refine ⟨⟨heap_far1 (by omega) h1, heap_set1 h2, ?_, hb.setCell (p := ⟨w.heap.size + 1, 0, none⟩) (by show w.heap.size ≤ w.heap.size + 1; omega) _⟩, c1, f2, c2, ?_, ?_, ?_⟩
  · rw [List.length_append, List.length_singleton]
    have e : strs (nms ++ [nm]) = strs nms ++ [strV nm] := by simp [strs]
    rw [e]
    refine ownsRow_setCell_other (a := ⟨w.heap.size + 1, 0, none⟩) ho (fun q => ?_) _
    rcases ho.2 with ⟨rfl, -⟩ | ⟨g', cap', cur, rfl, -, hgb, -⟩
    · cases q
    · injection q with q
      subst q
      rw [hgb] at h2
      injection h2 with h2
      injection h2 with _ h5 _
      exact absurd h5 (by decide)
  · intro b C T fr hT hb'
    rcases hT with hT | ⟨hT1, hT2⟩
    · have e1 : W'.heap[b]? = W.heap[b]? := hg.block b (Array.getElem?_eq_some_iff.1 hb').1 (fun q => by have := (h.o.lt _ q.symm).1; omega)
      exact heap_far1 (by omega) (e1.trans hb')
    · have h3 := hne _ _ _ _ hb' hT1
      refine heap_far1 ?_ h3
      rintro rfl
      rw [h2] at h3
      injection h3 with h3
      injection h3 with _ h5 _
      exact hT2 h5.symm
  · have := hg.size
    simpa using this
  · refine (KeepsOthers.of_grownBy hg fun j o ej hj => ?_).trans (KeepsOthers.setCell _ _ _)
    rcases h.o.2 with ⟨rfl, _⟩ | ⟨g, cap, cur, rfl, _, hgb, _⟩
    · simp [Value.ownBlock] at ej
    · obtain rfl : g = j := by simpa [Value.ownBlock] using ej
      rw [hgb] at hj; cases hj; rfl
/-- what a path is so far -/
def PathI (w : World) (v : Value) (S : List Sc) (L : List Nat) (k : Nat) (W : World) : Prop := ∃ vo, PtI w v ((L.take k).map (nmS S)) vo W
end Go.Proofs.YtbiadennhnokhaaGreatDoor
/- slices.Clone of variables; hierarchy.number. -/
namespace Go.Proofs.YtbiadennhnokhaaGreatDoor
open Go.RowKit Go.WideMaps
set_option linter.unusedSimpArgs false

theorem vrs_nil_of (l : List Vr) (h : l.length = 0) : vrs l = [] := by rw [List.length_eq_zero_iff.1 h]; rfl
set_option maxHeartbeats 400000 in
set_option maxRecDepth 100000 in
theorem clone_vr (v : Value) (l : List Vr) (w : World) (hs : SlR w v l.length (vrs l)) (hn : l.length ≤ 1000000) :
    Calls Tryz.prog 164 #[v] w fun e w' => ∃ v', e = .returned v' ∧ w'.ownsRow w.heap.size 42 7 v' l.length (vrs l) ∧ Below w.heap.size w w' := by
  obtain ⟨a, cap, rfl, hc, hm, hz, hat⟩ := hs
  have hs : SlR w (.slice a l.length cap) l.length (vrs l) := ⟨a, cap, rfl, hc, hm, hz, hat⟩
  cases a with
  | none =>
    have hcap := hz rfl
    subst hcap
    have hq := Lib.run_eql_slice_nil (P := Tryz.prog) w 23 42 none l.length 0 0 0 Tryz.underlying23
    have h0 : l.length = 0 := by omega
    have HL := Lib.hid (vrs_nil_of l h0)
    have H0 := Lib.hid h0
    clear hs hz hat h0
    go_enter Tryz.func164, Tryz.ntmps164
    go_wp2_with fail
    go_ret
    exact ⟨_, rfl, by rw [HL.out, H0.out]; exact World.ownsRow_nil _ _ _ _, Below.refl _ _⟩
  | some ad =>
    have hq := Lib.run_eql_slice_nil (P := Tryz.prog) w 23 42 (some ad) l.length cap 0 0 Tryz.underlying23
    obtain ⟨i0, hi, iz0, iz1, iz2⟩ := info_parts (P := Tryz.prog) vr_info
    have hbw : Below w.heap.size w (w.alloc (.cells #[] 42)) := (Below.refl _ _).alloc (Nat.le_refl _) _
    have HN := Lib.hid ((hs.below hbw).news (vrs_nil_of l))
    have hown : (w.alloc (.cells #[] 42)).ownsRow w.heap.size 42 7 (.slice (some ⟨w.heap.size, 0, none⟩) 0 0) 0 [] := World.ownsRow_lit w #[] 0 (Nat.le_refl _) (by simp [maxLen]) (by simp)
    have HOWN := Lib.hid hown
    clear hs hz hat hbw hown
    go_enter Tryz.func164, Tryz.ntmps164
    go_wp2_with (at_builtin; refine wpList_append_own _ rfl _ _ 23 rfl w.heap.size 42 i0 (.agg #[.string ⟨#[]⟩, .int .i64 0, .int .i64 0, .int .i64 0, .bool false, .int .i64 0, .int .i64 0]) 7 64 Tryz.underlying23 hi iz0 iz1 iz2 rfl (by decide) _ _ _ rfl HOWN.out ad l.length cap (vrs l) rfl (by rw [vrs_len]; omega) HN.out (vrs_one l) (by unfold maxLen; omega) (by omega) (by simp) ?_)
    intro v' w' ho hg _
    have HO := Lib.hid ho
    have HG := Lib.hid hg
    clear ho hg
    go_wp2_with fail
    go_ret
    exact ⟨_, rfl, by have := HO.out; simpa using this, ((Below.refl _ _).alloc (Nat.le_refl _) _).grown HG.out (by simp) (by intro k hk; simp [Value.ownBlock] at hk; omega)⟩
def ints (l : List Int) : List Value := l.map (Value.int .i64)
theorem int_info : (Tryz.prog.info? 3).map (fun i => (i.zero, i.size, i.bytes)) = some (some (.int .i64 0), 1, 8) := by kernel_rfl
theorem zeroI (w : World) : (zeroValue 3).run Tryz.prog w = .ok (.int .i64 0) w := by kernel_rfl
/-- the numbers of signals -/
def numM (fm : List Int) (x : Int) : Option Value := if x ∈ fm then some (.int .i64 (fm.idxOf x : Int)) else none
theorem numM_snoc {fm : List Int} {x : Int} (h : x ∉ fm) (y : Int) : (if y = x then some (Value.int .i64 (fm.length : Int)) else numM fm y) = numM (fm ++ [x]) y := by
  unfold numM
  by_cases hy : y = x
  · subst hy
    rw [if_pos rfl, if_pos (by simp), List.idxOf_append, if_neg h]
    simp
  · rw [if_neg hy]
    by_cases hm : y ∈ fm
    · rw [if_pos hm, if_pos (by simp [hm]), List.idxOf_append, if_pos hm]
    · rw [if_neg hm, if_neg (by simp [hm, hy])]
theorem vrs_sg {D R : List Vr} (v : Vr) (n : Int) : (vrs (D ++ v :: R)).set (D.length * 7 + 3) (.int .i64 n) = vrs (D ++ { v with sg := n } :: R) := by
  have hl : (vrs D).length = D.length * 7 := by rw [vrs_len, Nat.mul_comm]
  rw [vrs_app, vrs_app, vrs_cons, vrs_cons, ← hl]
  simp only [vrC, List.cons_append, List.nil_append]
  rw [List.set_append_right _ _ (by omega), Nat.add_sub_cancel_left]
  simp only [List.set_cons_succ, List.set_cons_zero]
/-- what lies in memory while signals are numbered -/
structure NmI (base n : Nat) (v : Value) (bm : Nat) (D R : List Vr) (fm : List Int) (vf : Value) (w W : World) : Prop where
  o : W.ownsRow base 42 7 v n (vrs (D ++ R))
  f : W.ownsRow base 3 1 vf fm.length (ints fm)
  m : KMap (intEnc (P := Tryz.prog) (K := 3) Tryz.underlying3) W bm fm.length (numM fm)
  b : Below base w W
  z : base ≤ bm
theorem own_apart {w : World} {B B' e e' size size' n n' : Nat} {v v' : Value} {xs xs' : List Value} (h : w.ownsRow B e size v n xs) (h' : w.ownsRow B' e' size' v' n' xs') (hne : e ≠ e') : v.ownBlock = none ∨ v.ownBlock ≠ v'.ownBlock := by
  rcases h.2 with ⟨rfl, -⟩ | ⟨g, cap, cur, rfl, -, hg, -⟩
  · exact .inl rfl
  · refine .inr fun e => ?_
    rcases h'.2 with ⟨rfl, -⟩ | ⟨g2, cap2, cur2, rfl, -, hg2, -⟩
    · cases e
    · injection e with e
      subst e
      rw [hg] at hg2
      injection hg2 with hg2
      injection hg2 with _ h5 _
      exact hne h5
theorem NmI.put {base n g cap bm : Nat} {D R : List Vr} {x : Vr} {fm : List Int} {vf : Value} {w W : World} (h : NmI base n (.slice (some ⟨g, 0, none⟩) n cap) bm D (x :: R) fm vf w W) (q : Int) :
    NmI base n (.slice (some ⟨g, 0, none⟩) n cap) bm (D ++ [{ x with sg := q }]) R fm vf w (W.setCell ⟨g, D.length * 7 + 3, none⟩ (.int .i64 q)) := by
  have h1 := own_set h.o (D.length * 7 + 3) (.int .i64 q)
  rw [vrs_sg] at h1
  refine ⟨by rw [List.append_assoc]; exact h1, ownsRow_setCell_other (a := ⟨g, D.length * 7 + 3, none⟩) h.f ?_ _, h.m.setCell (fun e => ?_) _, h.b.setCell (p := ⟨g, D.length * 7 + 3, none⟩) (h.o.lt _ rfl).1 _, h.z⟩
  · intro e
    rcases h.f.2 with ⟨e0, -⟩ | ⟨g', cap', cur, e0, -, hgb, -⟩
    · rw [e0] at e; cases e
    · rw [e0] at e
      injection e with e
      subst e
      rcases h.o.2 with ⟨e1, -⟩ | ⟨g2, cap2, cur2, e1, -, hgb2, -⟩
      · cases e1
      · injection e1 with e1 _ _
        injection e1 with e1
        injection e1 with e1 _ _
        subst e1
        rw [hgb] at hgb2
        injection hgb2 with hgb2
        injection hgb2 with _ h5 _
        exact absurd h5 (by decide)
  · have := h.m.ne_row h.o
    exact this (by rw [e]; rfl)
theorem NmI.new {base n bm : Nat} {w : World} (hz : base ≤ w.heap.size) {v : Value} {D R : List Vr} {x : Int} {fm : List Int} {vf vf' : Value} {W W1 W2 : World} (h : NmI base n v bm D R fm vf w W) (hx : x ∉ fm)
    (hm : KMap (intEnc (P := Tryz.prog) (K := 3) Tryz.underlying3) W1 bm (fm.length + 1) (fun y => if y = x then some (.int .i64 (fm.length : Int)) else numM fm y)) (hg : W.grownBy W1 (some bm))
    (hf : W2.ownsRow base 3 1 vf' (fm.length + 1) (ints fm ++ [.int .i64 x])) (hg2 : (W1.alloc (.cells #[.int .i64 x] 3)).grownBy W2 vf.ownBlock) : NmI base n v bm D R (fm ++ [x]) vf' w W2 := by
  have hal : Below W1.heap.size W1 (W1.alloc (.cells #[.int .i64 x] 3)) := (Below.refl _ _).alloc (Nat.le_refl _) _
  have ho1 : (W1.alloc (.cells #[.int .i64 x] 3)).ownsRow base 42 7 v n (vrs (D ++ R)) := own_same0 (h.o.kept hg (.inr fun e => h.m.ne_row h.o e.symm)) (Same0.of_below hal)
  have hf1 : (W1.alloc (.cells #[.int .i64 x] 3)).ownsRow base 3 1 vf fm.length (ints fm) := own_same0 (h.f.kept hg (.inr fun e => h.m.ne_row h.f e.symm)) (Same0.of_below hal)
  have hb1 : Below base w W1 := h.b.grown hg (Nat.le_trans hz h.b.size) (fun k hk => by injection hk with hk; have := h.z; omega)
  have hm1 := hm.below hal hm.lt
  refine ⟨ho1.kept hg2 (own_apart ho1 hf1 (by decide)), by rw [List.length_append, List.length_singleton]; simpa [ints] using hf, ?_, ((hb1.alloc (Nat.le_trans hz hb1.size) _).grown hg2 (by have := hb1.size; simp; omega) (fun k hk => (hf1.lt _ hk).1)), h.z⟩
  have hm2 := hm1.kept hg2 (hm1.ne_row hf1)
  rw [List.length_append, List.length_singleton]
  exact hm2.ext (fun y => numM_snoc hx y)
set_option maxHeartbeats 1600000 in
set_option maxRecDepth 100000 in
theorem hi_number (base : Nat) (v : Value) (l : List Vr) (w : World) (hb0 : base ≤ w.heap.size) (ho : w.ownsRow base 42 7 v l.length (vrs l)) (hn : l.length ≤ 1000) (hsg : ∀ x ∈ l, (Lit.int .i64 x.sg).wf = true) :
    Calls Tryz.prog 167 #[v] w fun e w' => ∃ vf, e = .returned vf ∧ w'.ownsRow base 42 7 v l.length (vrs (numF [] l).1) ∧ w'.ownsRow base 3 1 vf (numF [] l).2.length (ints (numF [] l).2) ∧ Below base w w' := by
  obtain ⟨i0, hi, iz0, iz1, iz2⟩ := info_parts (P := Tryz.prog) int_info
  obtain ⟨a, cap, rfl, -, -⟩ := (SlR.of_own ho).shape
  have hmm := @run_makeMap Tryz.prog
  have HI := Lib.hid (show NmI base l.length (.slice a l.length cap) w.heap.size [] l [] (.slice none 0 0) w (w.alloc (.map #[] 0)) from
    ⟨own_same0 ho (Same0.of_below ((Below.refl _ _).alloc (Nat.le_refl _) _)), World.ownsRow_nil _ _ _ _, KMap.made _ w, (Below.refl _ _).alloc hb0 _, hb0⟩)
  have HSG := Lib.hid hsg
  clear ho hsg
  go_enter Tryz.func167, Tryz.ntmps167
  go_wp2_with fail
  clear hmm
  go_loopw [3, 6, 7, 11] (fun vf _ _ i wr => ∃ (k : Nat) (D R : List Vr) (fm : List Int), i = .int .i64 k ∧ D.length = k ∧ k + R.length = l.length ∧ fm.length ≤ k ∧ (∀ x ∈ R, x ∈ l) ∧ numF [] l = (D ++ (numF fm R).1, (numF fm R).2) ∧ NmI base l.length (.slice a l.length cap) w.heap.size D R fm vf w wr) (fun _ _ _ i _ => l.length - (intOf i).toNat)
  case atStart => exact ⟨0, [], l, [], rfl, rfl, by simp, Nat.le_refl _, fun _ h => h, rfl, HI.out⟩
  case round =>
    obtain ⟨k, D, R, fm, rfl, hD, hR, hf, hin, hnu, hI⟩ := hrel
    have HII := Lib.hid hI
    obtain ⟨fa, fc, rfl, -, -⟩ := (SlR.of_own hI.f).shape
    have HN := Lib.hid hn
    cases R with
    | nil =>
      have hkl : k = l.length := by simpa using hR
      have HNU := Lib.hid hnu
      clear hD hR hf hin hI hnu
      subst hkl
      go_wp2_with fail
      go_ret
      refine ⟨_, rfl, ?_, ?_, HII.out.b⟩
      · rw [HNU.out]
        exact HII.out.o
      · rw [HNU.out]
        exact HII.out.f
    | cons x R =>
      have hlt : k < l.length := by simp at hR; omega
      have HR := Lib.hid hR
      have HD := Lib.hid hD
      have HIN := Lib.hid hin
      have HNU := Lib.hid hnu
      have hwx := HSG.out x (hin x (by simp))
      have hog := hI.o
      rcases hog.2 with ⟨-, h0⟩ | ⟨g, cap', cur, e0, -⟩
      · omega
      injection e0 with e0 _ e1
      subst e0 e1
      have hso : SO base g l.length cap wr (D ++ x :: R) := hog
      have d3 := hso.at.2.2.2.1
      have f3 := own_frozen hog (k * 7 + 3)
      rw [hD] at d3
      have HLK := Lib.hid (hI.m.look (t := 93) Tryz.underlying93 (zeroI wr) x.sg hwx)
      have hfk := hf
      clear hD hR hin hnu hI hog hso
      obtain ⟨nm, ty, sc, sg, rg, mb, lb⟩ := x
      dsimp only at d3 HLK hwx
      by_cases hc : sg ∈ fm
      · obtain ⟨q, hq⟩ : ∃ q, fm.idxOf sg = q := ⟨_, rfl⟩
        have hlk : (Instr.lookup 93 (.map (some w.heap.size)) (.int .i64 sg) true).run Tryz.prog wr = .ok (.tuple #[.int .i64 (q : Int), .bool true]) wr := by
          have := HLK.out
          unfold numM at this
          rw [if_pos hc, hq] at this
          exact this
        have HNX := Lib.hid (show numF [] l = ((D ++ [⟨nm, ty, sc, (q : Int), rg, mb, lb⟩]) ++ (numF fm R).1, (numF fm R).2) by
          rw [HNU.out, numF_in (by simpa using hc), hq]
          simp)
        have HP := Lib.hid (HII.out.put (q : Int))
        rw [HD.out] at HP
        clear hc hq HLK hwx
        go_wp2_with fail
        go_roundw
        case rel => exact ⟨k + 1, _, R, fm, by go_num, by simp [HD.out], by have := HR.out; simp at this; omega, by omega, fun y hy => HIN.out y (List.mem_cons_of_mem _ hy), HNX.out, HP.out⟩
        case measure => simp [intOf]; omega
      · have hlk : (Instr.lookup 93 (.map (some w.heap.size)) (.int .i64 sg) true).run Tryz.prog wr = .ok (.tuple #[.int .i64 0, .bool false]) wr := by
          have := HLK.out
          unfold numM at this
          rw [if_neg hc] at this
          exact this
        have HNX := Lib.hid (show numF [] l = ((D ++ [⟨nm, ty, sc, (fm.length : Int), rg, mb, lb⟩]) ++ (numF (fm ++ [sg]) R).1, (numF (fm ++ [sg]) R).2) by
          rw [HNU.out, numF_new (by simpa using hc)]
          simp)
        have HC := Lib.hid hc
        have HWX := Lib.hid hwx
        clear hc HLK hwx
        go_wp2_with (first
          | (at_builtin; refine wpList_append_own_at _ rfl _ _ 38 rfl base 3 i0 (.int .i64 0) 1 8 Tryz.underlying38 hi iz0 iz1 iz2 rfl (by decide) _ _ _ rfl HF3.out ⟨w3.heap.size, 0, none⟩ 1 1 [.int .i64 sg] rfl rfl HNW.out (by simp [Value.oneCell']) (by unfold maxLen; omega) (by omega) (by simp; omega) ?_)
          | (refine wpList_putK _ rfl _ _ _ 93 rfl 3 Tryz.underlying93 w.heap.size fm.length _ rfl HII.out.m (by unfold maxLen; omega) sg (.int .i64 (fm.length : Int)) rfl rfl HWX.out ?_; intro w3 hm3 hg3; have ho3 : SO base g l.length cap w3 (D ++ ⟨nm, ty, sc, sg, rg, mb, lb⟩ :: R) := HII.out.o.kept hg3 (.inr fun e => HII.out.m.ne_row HII.out.o e.symm); have d4 := ho3.at.2.2.2.1; rw [HD.out] at d4; have f4 := own_frozen ho3 (k * 7 + 3); have HNW := Lib.hid (World.news_of_block (w := w3.alloc (.cells #[.int .i64 sg] 3)) (cs := #[.int .i64 sg]) (t := 3) (fr := (0, 0)) (by exact heap_alloc_new _ _)); have hzz : base ≤ w3.heap.size := Nat.le_trans hb0 (Nat.le_trans HII.out.b.size hg3.size); have HF3 := Lib.hid (own_same0 (HII.out.f.kept hg3 (.inr fun e => HII.out.m.ne_row HII.out.f e.symm)) (Same0.of_below ((Below.refl w3.heap.size w3).alloc (Nat.le_refl _) (.cells #[.int .i64 sg] 3)))); have HM3 := Lib.hid hm3; have HG3 := Lib.hid hg3; clear hm3 hg3 ho3))
        intro v8 w8 ho8 hg8 _ _
        have HI8 := Lib.hid (HII.out.new hb0 HC.out HM3.out HG3.out ho8 hg8)
        clear ho8 hg8 d4 f4 d3 f3 hlk
        have ho9 : SO base g l.length cap w8 (D ++ ⟨nm, ty, sc, sg, rg, mb, lb⟩ :: R) := HI8.out.o
        have f9 := own_frozen ho9 (k * 7 + 3)
        have d9 := ho9.at.2.2.2.1
        rw [HD.out] at d9
        have HP := Lib.hid (HI8.out.put (fm.length : Int))
        rw [HD.out] at HP
        clear ho9
        go_wp2_with fail
        go_roundw
        case rel => exact ⟨k + 1, _, R, fm ++ [sg], by go_num, by simp [HD.out], by have := HR.out; simp at this; omega, by simp; omega, fun y hy => HIN.out y (List.mem_cons_of_mem _ hy), HNX.out, HP.out⟩
        case measure => simp [intOf]; omega
end Go.Proofs.YtbiadennhnokhaaGreatDoor
