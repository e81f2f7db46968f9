import Derived.Test.YtlbcfmhpkcpmaaaGreatDoorDec3
import Derived.Lib.AppendStr
import Derived.Lib.Strings
namespace Go.Proofs.YtlbcfmhpkcpmaaaGreatDoor
open Go.RowKit

theorem dec_text (neg : Bool) (v : Value) (l : List UInt8) (ex : Int) (w : World) (hg : Glob w) (h : SlR w v l.length (bys l)) (hl : l.length ≤ 1000) (hlo : -2000000000 ≤ ex) (hhi : ex ≤ 2000000000) :
    Calls Tryz.prog 139 #[.agg #[.bool neg, v, .int .i64 ex]] w fun e w' => e = .returned (.tuple #[.string ⟨(numText (neg, l, ex)).1.toArray⟩, .int .i64 (numText (neg, l, ex)).2]) ∧ Below w.heap.size w w' := by
  cases l with
  | nil =>
    obtain ⟨a, cap, rfl, hm, hz⟩ := h.zero
    exact dec_text_nil _ _ _ _ _
  | cons x l =>
    by_cases hbig : 17 < (x :: l).length ∨ ex + (x :: l).length - 1 < -400 ∨ 400 < ex + (x :: l).length - 1
    · obtain ⟨b, o, cap, rfl, hlc, hm, hc⟩ := h.at (by simp)
      have hn : numText (neg, x :: l, ex) = ([], 9) := by
        unfold numText
        rw [if_neg (by simp), if_pos hbig]
      rw [hn]
      exact dec_text_big _ _ _ _ _ _ (by simp) hl hlo hhi hbig
    · have hn : (numText (neg, x :: l, ex)).2 = 0 := by
        unfold numText
        rw [if_neg (by simp), if_neg hbig]
      rw [hn]
      simp only [List.length_cons] at hbig
      exact dec_text_ok _ _ _ _ _ _ hg h (by omega) (by omega) (by omega)

/-- the state of a scan: the string, the place, and what has been read -/
structure ScanSt (w0 w : World) (s : ByteArray) (k : Nat) (neg : Bool) (dv : Value) (ds : List UInt8) (ex : Int) : Prop where
  below : Below w0.heap.size w0 w
  size : w0.heap.size + 4 ≤ w.heap.size
  str : w.cell? ⟨w0.heap.size, 0, none⟩ = some (.string s)
  res : OwnRow w (w0.heap.size + 1) [.bool false, .slice none 0 0, .int .i64 0]
  num : OwnRow w (w0.heap.size + 2) [.bool neg, dv, .int .i64 ex]
  at_ : OwnRow w (w0.heap.size + 3) [.int .i64 k]
  own : w.ownsRow (w0.heap.size + 4) 5 1 dv ds.length (bys ds)

theorem OwnRow.grown {w w' : World} {b : Nat} {xs : List Value} {row : Option Nat} (h : OwnRow w b xs) (hg : w.grownBy w' row) (hb : b < w.heap.size) (hne : some b ≠ row) : OwnRow w' b xs :=
  fun j v hj => ⟨(World.cell?_of_block (w := w) (hg.block b hb hne)).trans (h j v hj).1, (World.frozen?_of_block (w := w) (hg.block b hb hne)).trans (h j v hj).2⟩

/-- a step that turns only the place -/
theorem ScanSt.moved {w0 w w' : World} {s : ByteArray} {k k' : Nat} {neg : Bool} {dv : Value} {ds : List UInt8} {ex : Int} (h : ScanSt w0 w s k neg dv ds ex)
    (hg : w.grownBy w' (some (w0.heap.size + 3))) (hc : w'.cell? ⟨w0.heap.size + 3, 0, none⟩ = some (.int .i64 k')) (hf : w'.frozen? ⟨w0.heap.size + 3, 0, none⟩ = false) : ScanSt w0 w' s k' neg dv ds ex := by
  have hsz := h.size
  refine ⟨h.below.grown hg (by omega) (fun k hk => by injection hk with hk; omega), Nat.le_trans h.size hg.size, ?_, h.res.grown hg (by omega) (by simp), h.num.grown hg (by omega) (by simp), ?_, h.own.kept hg ?_⟩
  · exact (World.cell?_of_block (w := w) (hg.block w0.heap.size (by omega) (by simp))).trans h.str
  · intro j v hj
    cases j with
    | zero => obtain rfl := Option.some.inj hj; exact ⟨hc, hf⟩
    | succ j => simp at hj
  · right
    intro e
    have := h.own.lt _ e
    omega
theorem ScanSt.drewN {w0 w : World} {s : ByteArray} {k : Nat} {neg : Bool} {dv : Value} {ds : List UInt8} {ex : Int} (h : ScanSt w0 w s k neg dv ds ex) (n : Nat) : ScanSt w0 (w.drewN n) s k neg dv ds ex :=
  ⟨⟨h.below.os, h.below.tape, h.below.output, h.below.size, h.below.block⟩, h.size, h.str, h.res, h.num, h.at_, h.own⟩

/-- does one of the bytes stand at k -/
def oneHit (set : List UInt8) (s : ByteArray) (k : Nat) : Bool := match s.data.toList[k]? with | some c => set.contains c | none => false

theorem st_one1 (w0 w : World) (s : ByteArray) (k : Nat) (neg : Bool) (dv : Value) (ds : List UInt8) (ex : Int) (h : ScanSt w0 w s k neg dv ds ex) (hs : s.size ≤ 1000) (c : UInt8) :
    Calls Tryz.prog 152 #[.string ⟨#[c]⟩, .pointer (some ⟨w0.heap.size + 3, 0, none⟩), .pointer (some ⟨w0.heap.size, 0, none⟩)] w fun e w' => e = .returned (.bool (oneHit [c] s k)) ∧ ScanSt w0 w' s (if oneHit [c] s k = true then k + 1 else k) neg dv ds ex := by
  have ha := h.at_.cell (j := 0) rfl
  have hf := h.at_.free (j := 0) (by simp)
  by_cases hk : k < s.size
  · have hg : s.data.toList[k]? = some s[k] := List.getElem?_eq_getElem (by simpa using hk)
    by_cases hc : s[k] = c
    · have hh : oneHit [c] s k = true := by simp [oneHit, hg, hc]
      rw [hh]
      refine (scan_one_yes1 s c k _ _ w hk hc hs ha h.str hf).mono ?_
      rintro e w' ⟨rfl, n, rfl⟩
      refine ⟨rfl, ScanSt.drewN (h.moved (grown_setCell (World.grownBy.refl _ _) _ _) ?_ ?_) n⟩
      · rw [World.cell?_setCell_same _ _ _ ha]; rfl
      · rw [World.frozen?_setCell]; exact hf
    · have hh : oneHit [c] s k = false := by simp [oneHit, hg, hc]
      rw [hh]
      refine (scan_one_no1 s c k _ _ w hk hc ha h.str).mono ?_
      rintro e w' ⟨rfl, n, rfl⟩
      exact ⟨rfl, h.drewN n⟩
  · have hh : oneHit [c] s k = false := by
      unfold oneHit
      rw [List.getElem?_eq_none (by simp; omega)]
    rw [hh]
    refine (scan_one_end1 s c k _ _ w (by omega) ha h.str).mono ?_
    rintro e w' ⟨rfl, n, rfl⟩
    exact ⟨rfl, h.drewN n⟩

theorem st_one2 (w0 w : World) (s : ByteArray) (k : Nat) (neg : Bool) (dv : Value) (ds : List UInt8) (ex : Int) (h : ScanSt w0 w s k neg dv ds ex) (hs : s.size ≤ 1000) (c d : UInt8) :
    Calls Tryz.prog 152 #[.string ⟨#[c, d]⟩, .pointer (some ⟨w0.heap.size + 3, 0, none⟩), .pointer (some ⟨w0.heap.size, 0, none⟩)] w fun e w' => e = .returned (.bool (oneHit [c, d] s k)) ∧ ScanSt w0 w' s (if oneHit [c, d] s k = true then k + 1 else k) neg dv ds ex := by
  have ha := h.at_.cell (j := 0) rfl
  have hf := h.at_.free (j := 0) (by simp)
  by_cases hk : k < s.size
  · have hg : s.data.toList[k]? = some s[k] := List.getElem?_eq_getElem (by simpa using hk)
    by_cases hc : s[k] = c
    · have hh : oneHit [c, d] s k = true := by simp [oneHit, hg, hc]
      rw [hh]
      refine (scan_one_yes2a s c d k _ _ w hk hc hs ha h.str hf).mono ?_
      rintro e w' ⟨rfl, n, rfl⟩
      refine ⟨rfl, ScanSt.drewN (h.moved (grown_setCell (World.grownBy.refl _ _) _ _) ?_ ?_) n⟩
      · rw [World.cell?_setCell_same _ _ _ ha]; rfl
      · rw [World.frozen?_setCell]; exact hf
    by_cases hc' : s[k] = d
    · have hh : oneHit [c, d] s k = true := by simp [oneHit, hg, hc']
      rw [hh]
      refine (scan_one_yes2b s c d k _ _ w hk hc hc' hs ha h.str hf).mono ?_
      rintro e w' ⟨rfl, n, rfl⟩
      refine ⟨rfl, ScanSt.drewN (h.moved (grown_setCell (World.grownBy.refl _ _) _ _) ?_ ?_) n⟩
      · rw [World.cell?_setCell_same _ _ _ ha]; rfl
      · rw [World.frozen?_setCell]; exact hf
    · have hh : oneHit [c, d] s k = false := by simp [oneHit, hg, hc, hc']
      rw [hh]
      refine (scan_one_no2 s c d k _ _ w hk hc hc' ha h.str).mono ?_
      rintro e w' ⟨rfl, n, rfl⟩
      exact ⟨rfl, h.drewN n⟩
  · have hh : oneHit [c, d] s k = false := by
      unfold oneHit
      rw [List.getElem?_eq_none (by simp; omega)]
    rw [hh]
    refine (scan_one_end2 s c d k _ _ w (by omega) ha h.str).mono ?_
    rintro e w' ⟨rfl, n, rfl⟩
    exact ⟨rfl, h.drewN n⟩

theorem st_digits (w0 w : World) (s : ByteArray) (k : Nat) (neg : Bool) (dv : Value) (ds : List UInt8) (ex : Int) (h : ScanSt w0 w s k neg dv ds ex) (hs : s.size ≤ 1000) (hk : k ≤ s.size) :
    Calls Tryz.prog 153 #[.pointer (some ⟨w0.heap.size + 3, 0, none⟩), .pointer (some ⟨w0.heap.size, 0, none⟩)] w fun e w' => e = .returned (.string (s.extract k (k + digRun s k))) ∧ ScanSt w0 w' s (k + digRun s k) neg dv ds ex := by
  refine (scan_digits s k _ _ w hk hs (h.at_.cell (j := 0) rfl) h.str (h.at_.free (j := 0) (by simp)) (by omega)).mono ?_
  rintro e w' ⟨rfl, hg, hc, hf⟩
  exact ⟨rfl, h.moved hg hc hf⟩
theorem ScanSt.setNum {w0 w : World} {s : ByteArray} {k : Nat} {neg neg' : Bool} {dv dv' : Value} {ds : List UInt8} {ex ex' : Int} (h : ScanSt w0 w s k neg dv ds ex) (j : Nat) (u : Value)
    (hu : [Value.bool neg, dv, .int .i64 ex].set j u = [Value.bool neg', dv', .int .i64 ex']) (hj : j < 3) (hd : dv = dv') :
    ScanSt w0 (w.setCell ⟨w0.heap.size + 2, j, none⟩ u) s k neg' dv' ds ex' := by
  subst hd
  have hsz := h.size
  have hg : w.grownBy (w.setCell ⟨w0.heap.size + 2, j, none⟩ u) (some (w0.heap.size + 2)) := grown_setCell (World.grownBy.refl _ _) _ _
  refine ⟨h.below.setCell (by simp) _, by simpa [World.setCell] using h.size, ?_, h.res.grown hg (by omega) (by simp), ?_, h.at_.grown hg (by omega) (by simp), h.own.kept hg ?_⟩
  · exact (World.cell?_of_block (w := w) (hg.block w0.heap.size (by omega) (by simp))).trans h.str
  · have := h.num.set (j := j) (by simpa using hj) u
    rwa [hu] at this
  · right
    intro e
    have := h.own.lt _ e
    omega
theorem ScanSt.app {w0 w w' : World} {s : ByteArray} {k : Nat} {neg : Bool} {dv v' : Value} {ds x : List UInt8} {ex : Int} (h : ScanSt w0 w s k neg dv ds ex)
    (hg : w.grownBy w' dv.ownBlock) {n : Nat} {xs : List Value} (ho : w'.ownsRow (w0.heap.size + 4) 5 1 v' n xs) (hn : n = (ds ++ x).length) (hx : xs = bys (ds ++ x)) :
    OwnRow w' (w0.heap.size + 2) [.bool neg, dv, .int .i64 ex] ∧ ScanSt w0 (w'.setCell ⟨w0.heap.size + 2, 1, none⟩ v') s k neg v' (ds ++ x) ex := by
  subst hn hx
  have hsz := h.size
  have hlt := h.own.lt
  have hne : ∀ b, b < w0.heap.size + 4 → some b ≠ dv.ownBlock := fun b hb e => by
    have := hlt b e.symm
    omega
  have hnum := h.num.grown hg (by omega) (hne _ (by omega))
  have hg2 : w'.grownBy (w'.setCell ⟨w0.heap.size + 2, 1, none⟩ v') (some (w0.heap.size + 2)) := grown_setCell (World.grownBy.refl _ _) _ _
  have hsz' := hg.size
  refine ⟨hnum, (h.below.grown hg (by omega) (fun k hk => by have := hlt k hk; omega)).setCell (by simp) _, by simp [World.setCell]; omega, ?_, ?_, ?_, ?_, ho.kept hg2 ?_⟩
  · exact (World.cell?_of_block (w := w') (hg2.block w0.heap.size (by omega) (by simp))).trans ((World.cell?_of_block (w := w) (hg.block w0.heap.size (by omega) (hne _ (by omega)))).trans h.str)
  · exact (h.res.grown hg (by omega) (hne _ (by omega))).grown hg2 (by omega) (by simp)
  · exact hnum.set (j := 1) (by simp) v'
  · exact (h.at_.grown hg (by omega) (hne _ (by omega))).grown hg2 (by omega) (by simp)
  · right
    intro e
    have := ho.lt _ e
    omega
theorem ScanSt.alloc {w0 w : World} {s : ByteArray} {k : Nat} {neg : Bool} {dv : Value} {ds : List UInt8} {ex : Int} (h : ScanSt w0 w s k neg dv ds ex) (o : Obj) : ScanSt w0 (w.alloc o) s k neg dv ds ex := by
  have hsz := h.size
  exact ⟨h.below.alloc (by omega) _, by simp; omega, cell_alloc h.str _, h.res.alloc (by omega) _, h.num.alloc (by omega) _, h.at_.alloc (by omega) _, h.own.alloc _⟩
theorem ScanSt.slr {w0 w : World} {s : ByteArray} {k : Nat} {neg : Bool} {dv : Value} {ds : List UInt8} {ex : Int} (h : ScanSt w0 w s k neg dv ds ex) : SlR w dv ds.length (bys ds) := SlR.of_own h.own
theorem uint8_info : (Tryz.prog.info? 5).map (fun i => (i.zero, i.size, i.bytes)) = some (some (.int .u8 0), 1, 1) := by kernel_rfl
theorem ScanSt.below_res {w0 w : World} {s : ByteArray} {k : Nat} {neg : Bool} {dv : Value} {ds : List UInt8} {ex : Int} (h : ScanSt w0 w s k neg dv ds ex) (a b c : Value) :
    Below w0.heap.size w0 (((w.setCell ⟨w0.heap.size + 1, 0, none⟩ a).setCell ⟨w0.heap.size + 1, 1, none⟩ b).setCell ⟨w0.heap.size + 1, 2, none⟩ c) :=
  ((h.below.setCell (by simp) _).setCell (by simp) _).setCell (by simp) _
theorem ScanSt.slr_res {w0 w : World} {s : ByteArray} {k : Nat} {neg : Bool} {dv : Value} {ds : List UInt8} {ex : Int} (h : ScanSt w0 w s k neg dv ds ex) (a b c : Value) :
    SlR (((w.setCell ⟨w0.heap.size + 1, 0, none⟩ a).setCell ⟨w0.heap.size + 1, 1, none⟩ b).setCell ⟨w0.heap.size + 1, 2, none⟩ c) dv ds.length (bys ds) := by
  have hne : dv.ownBlock ≠ some (w0.heap.size + 1) := fun e => by
    have := h.own.lt _ e
    omega
  exact SlR.of_own (ownsRow_setCell_other (ownsRow_setCell_other (ownsRow_setCell_other h.own hne _) hne _) hne _)
theorem bys_strCells (ds : List UInt8) (s : ByteArray) : bys ds ++ Lib.strCells s = bys (ds ++ s.data.toList) := by
  unfold bys; rw [List.map_append]; rfl
end Go.Proofs.YtlbcfmhpkcpmaaaGreatDoor
