import Derived.Test.YtimeilkelnljnaaGreatDoorAl4
import Derived.Test.YtimeilkelnljnaaGreatDoorEq
import Derived.Test.YtimeilkelnljnaaGreatDoorRefK
import Derived.Test.YtimeilkelnljnaaGreatDoorOpen
import Derived.Test.YtimeilkelnljnaaGreatDoorSig15
namespace Go.Proofs.YtimeilkelnljnaaGreatDoor
open Go.RowKit

/-! signals in memory -/
def nats (st : List Nat) : List Value := st.map fun (k : Nat) => Value.int .i64 (k : Int)
def sgC (x : Sg × Value) : List Value := [.int .i64 x.1.1, .int .i64 x.1.2.1, x.2]
def sgs (L : List (Sg × Value)) : List Value := L.flatMap sgC
theorem sgs_cons (x : Sg × Value) (L : List (Sg × Value)) : sgs (x :: L) = .int .i64 x.1.1 :: .int .i64 x.1.2.1 :: x.2 :: sgs L := rfl
theorem sgs_app (L M : List (Sg × Value)) : sgs (L ++ M) = sgs L ++ sgs M := by simp [sgs]
theorem sgs_len (L : List (Sg × Value)) : (sgs L).length = 3 * L.length := by
  induction L with
  | nil => rfl
  | cons x L ih => rw [sgs_cons, List.length_cons, List.length_cons, List.length_cons, List.length_cons, ih]; omega
theorem sgs_at : ∀ (L : List (Sg × Value)) (k : Nat) (h : k < L.length), (sgs L)[3 * k]? = some (.int .i64 L[k].1.1) ∧ (sgs L)[3 * k + 1]? = some (.int .i64 L[k].1.2.1) ∧ (sgs L)[3 * k + 2]? = some L[k].2
  | x :: L, 0, _ => ⟨rfl, rfl, rfl⟩
  | x :: L, k + 1, h => by
    have := sgs_at L k (by simpa using h)
    rw [sgs_cons, show 3 * (k + 1) = 3 * k + 1 + 1 + 1 by omega]
    simpa using this
structure Sigs (w : World) (v : Value) (L : List (Sg × Value)) : Prop where
  s : SlR w v L.length (sgs L)
  m : ∀ x ∈ L, SlR w x.2 x.1.2.2.length (chs x.1.2.2)
theorem Sigs.below {w W : World} {v : Value} {L : List (Sg × Value)} (h : Sigs w v L) (hb : Below w.heap.size w W) : Sigs W v L := ⟨h.s.below hb, fun x hx => (h.m x hx).below hb⟩
theorem Sigs.at {w : World} {a : Option Addr} {cap : Nat} {L : List (Sg × Value)} (h : Sigs w (.slice a L.length cap) L) {j : Nat} (hj : j < L.length) :
    ∃ b o, a = some ⟨b, o, none⟩ ∧ w.cell? ⟨b, o + j * 3, none⟩ = some (.int .i64 L[j].1.1) ∧ w.cell? ⟨b, o + j * 3 + 1, none⟩ = some (.int .i64 L[j].1.2.1) ∧ w.cell? ⟨b, o + j * 3 + 2, none⟩ = some L[j].2 ∧ SlR w L[j].2 L[j].1.2.2.length (chs L[j].1.2.2) := by
  obtain ⟨b, o, cap', hv, -, -, hcell⟩ := h.s.at (by omega)
  injection hv with e1 _ _
  obtain ⟨h0, h1, h2⟩ := sgs_at L j hj
  refine ⟨b, o, e1, ?_, ?_, ?_, h.m _ (List.getElem_mem hj)⟩
  · have := hcell _ _ h0; rwa [Nat.mul_comm 3 j] at this
  · have := hcell _ _ h1; rwa [Nat.mul_comm 3 j, ← Nat.add_assoc] at this
  · have := hcell _ _ h2; rwa [Nat.mul_comm 3 j, ← Nat.add_assoc] at this
def FitS (L : List (Sg × Value)) : Prop := L.length ≤ 1000000 ∧ ∀ x ∈ L, Fit x.1.2.2

def IxPost (b : Bool) (w : World) (e : Ending) (w' : World) : Prop := (∃ i : Int, e = .returned (.int .i64 i) ∧ decide (0 ≤ i) = b ∧ -1 ≤ i) ∧ Below w.heap.size w w'
theorem any_drop {p : Sg → Bool} {L : List (Sg × Value)} {j : Nat} (h : j < L.length) : (L.drop j).any (fun x => p x.1) = (p L[j].1 || (L.drop (j + 1)).any (fun x => p x.1)) := by
  rw [List.drop_eq_getElem_cons h, List.any_cons]

set_option maxHeartbeats 400000 in
set_option maxRecDepth 100000 in
theorem ix_all (pt : Nat) (p : Sg → Bool) (v : Value) (L : List (Sg × Value)) (w : World) (hs : Sigs w v L)
    (hF : ∀ x ∈ L, ∀ W, Below w.heap.size w W → Calls Tryz.prog 66 #[.agg #[.int .i64 x.1.1, .int .i64 x.1.2.1, x.2], .pointer (some ⟨pt, 0, none⟩)] W fun e w' => e = .returned (.bool (p x.1)) ∧ Below W.heap.size W w') :
    Calls Tryz.prog 61 #[v, .func (.func 66) #[] #[.pointer (some ⟨pt, 0, none⟩)]] w (IxPost (L.any fun x => p x.1) w) := by
  obtain ⟨a, cap, rfl, hc, hm⟩ := hs.s.shape
  unfold maxLen at hm
  have HS := Lib.hid hs
  have HF := Lib.hid hF
  clear hs hF
  go_enter Tryz.func61, Tryz.ntmps61
  go_wp2_with fail
  go_loopw [8] (fun i wr => ∃ j : Nat, j ≤ L.length ∧ i = .int .i64 j ∧ (L.drop j).any (fun x => p x.1) = L.any (fun x => p x.1) ∧ Below w.heap.size w wr) (fun i _ => L.length - (intOf i).toNat)
  case atStart => exact ⟨0, Nat.zero_le _, rfl, rfl, Below.refl _ _⟩
  case round =>
    obtain ⟨j, hj, rfl, hgo, hb⟩ := hrel
    have HGO := Lib.hid hgo
    have HB := Lib.hid hb
    clear hgo hb
    by_cases hlt : j < L.length
    · obtain ⟨b, o, rfl, d0, d1, d2, hd⟩ := (HS.out.below HB.out).at hlt
      have HC := Lib.hid (fun W hW => HF.out L[j] (List.getElem_mem hlt) W hW)
      have HGO2 := Lib.hid ((any_drop (p := p) hlt).symm.trans HGO.out)
      generalize L[j] = x at d0 d1 d2 hd HC HGO2
      obtain ⟨⟨xk, xn, xl⟩, xv⟩ := x
      dsimp only at d0 d1 d2 hd HC HGO2
      obtain ⟨xa, xc, rfl, -, -⟩ := hd.shape
      clear hd
      go_wp2_with fail
      refine (HC.out _ HB.out).mono ?_
      rintro e w1 ⟨rfl, hb1⟩
      have HB1 := Lib.hid (ext_trans HB.out hb1)
      clear hb1 d0 d1 d2
      cases hp : p (xk, xn, xl)
      · have HGO3 := Lib.hid (show (L.drop (j + 1)).any (fun x => p x.1) = L.any (fun x => p x.1) by rw [← HGO2.out, hp, Bool.false_or])
        clear hp
        go_wp2_with fail
        go_roundw
        case rel => exact ⟨j + 1, by omega, by go_num, HGO3.out, HB1.out⟩
        case measure => simp [intOf]; omega
      · have HR := Lib.hid (show true = L.any (fun x => p x.1) by rw [← HGO2.out, hp]; rfl)
        clear hp
        go_wp2_with fail
        go_ret
        exact ⟨⟨j, rfl, by rw [← HR.out]; simp, by omega⟩, HB1.out⟩
    · obtain rfl : j = L.length := by omega
      have HR := Lib.hid (show false = L.any (fun x => p x.1) by rw [← HGO.out, List.drop_length]; rfl)
      go_wp2_with fail
      go_ret
      exact ⟨⟨-1, rfl, by rw [← HR.out]; rfl, by omega⟩, HB.out⟩

set_option maxHeartbeats 400000 in
theorem con_all (pt : Nat) (p : Sg → Bool) (v : Value) (L : List (Sg × Value)) (w : World) (hs : Sigs w v L)
    (hF : ∀ x ∈ L, ∀ W, Below w.heap.size w W → Calls Tryz.prog 66 #[.agg #[.int .i64 x.1.1, .int .i64 x.1.2.1, x.2], .pointer (some ⟨pt, 0, none⟩)] W fun e w' => e = .returned (.bool (p x.1)) ∧ Below W.heap.size W w') :
    Calls Tryz.prog 21 #[v, .func (.func 66) #[] #[.pointer (some ⟨pt, 0, none⟩)]] w fun e w' => e = .returned (.bool (L.any fun x => p x.1)) ∧ Below w.heap.size w w' := by
  have HI := Lib.hid (ix_all pt p v L w hs hF)
  generalize (L.any fun x => p x.1) = r at HI ⊢
  obtain ⟨a, cap, rfl, hc, hm⟩ := hs.s.shape
  clear hs hF
  go_enter Tryz.func21, Tryz.ntmps21
  go_wp2_with fail
  refine HI.out.mono ?_
  rintro e w1 ⟨⟨i, rfl, hi, hi1⟩, hb⟩
  have HH := Lib.hid hi
  clear hi
  go_wp2_with fail
  go_ret
  exact ⟨ret_bool HH.out, hb⟩
end Go.Proofs.YtimeilkelnljnaaGreatDoor

namespace Go.Proofs.YtimeilkelnljnaaGreatDoor
open Go.Joins Go.ChangeShapes Go.WideShapes Go.RowKit Go.Deep

/-! arguments of type []api.Signal and []api.Derivation -/
def dvC (d : Dv) : List Value := [.int .i64 d.1, .int .i64 d.2.1, .bool d.2.2]
def dvs (l : List Dv) : List Value := l.flatMap dvC
theorem dvs_app (l m : List Dv) : dvs (l ++ m) = dvs l ++ dvs m := by simp [dvs]
theorem dvs_cons (d : Dv) (l : List Dv) : dvs (d :: l) = .int .i64 d.1 :: .int .i64 d.2.1 :: .bool d.2.2 :: dvs l := rfl
theorem dvs_len (l : List Dv) : (dvs l).length = 3 * l.length := by
  induction l with
  | nil => rfl
  | cons x l ih => rw [dvs_cons, List.length_cons, List.length_cons, List.length_cons, List.length_cons, ih]; omega
theorem dvs_at : ∀ (l : List Dv) (k : Nat) (h : k < l.length), (dvs l)[3 * k]? = some (.int .i64 l[k].1) ∧ (dvs l)[3 * k + 1]? = some (.int .i64 l[k].2.1) ∧ (dvs l)[3 * k + 2]? = some (.bool l[k].2.2)
  | x :: l, 0, _ => ⟨rfl, rfl, rfl⟩
  | x :: l, k + 1, h => by
    have := dvs_at l k (by simpa using h)
    rw [dvs_cons, show 3 * (k + 1) = 3 * k + 1 + 1 + 1 by omega]
    simpa using this
theorem sigs_of {w : World} {a : Addr} : ∀ {m : Nat}, (∀ i, i < m → ∃ x : Sg × Value, w.cell? (a.add (i * 3)) = some (.int .i64 x.1.1) ∧ w.cell? (a.add (i * 3 + 1)) = some (.int .i64 x.1.2.1) ∧ w.cell? (a.add (i * 3 + 2)) = some x.2 ∧ SlR w x.2 x.1.2.2.length (chs x.1.2.2)) →
    ∃ L : List (Sg × Value), L.length = m ∧ (∀ j u, (sgs L)[j]? = some u → w.cell? (a.add j) = some u) ∧ ∀ x ∈ L, SlR w x.2 x.1.2.2.length (chs x.1.2.2)
  | 0, _ => ⟨[], rfl, fun j u h => by simp [sgs] at h, by simp⟩
  | m + 1, h => by
    obtain ⟨L, hl, hc, hm⟩ := sigs_of (m := m) fun i hi => h i (by omega)
    obtain ⟨x, h0, h1, h2, h3⟩ := h m (by omega)
    refine ⟨L ++ [x], by simp [hl], fun j u hj => ?_, fun y hy => ?_⟩
    · rw [sgs_app] at hj
      by_cases hlt : j < (sgs L).length
      · rw [List.getElem?_append_left hlt] at hj
        exact hc j u hj
      · rw [List.getElem?_append_right (by omega)] at hj
        have hcl := sgs_len L
        have hj2 : (sgC x)[j - (sgs L).length]? = some u := by simpa [sgs] using hj
        have hjl := (List.getElem?_eq_some_iff.1 hj2).1
        simp [sgC] at hjl
        rcases (show j = m * 3 ∨ j = m * 3 + 1 ∨ j = m * 3 + 2 by omega) with h' | h' | h'
        · subst h'
          rw [show m * 3 - (sgs L).length = 0 by omega] at hj2
          obtain rfl := Option.some.inj hj2
          exact h0
        · subst h'
          rw [show m * 3 + 1 - (sgs L).length = 1 by omega] at hj2
          obtain rfl := Option.some.inj hj2
          exact h1
        · subst h'
          rw [show m * 3 + 2 - (sgs L).length = 2 by omega] at hj2
          obtain rfl := Option.some.inj hj2
          exact h2
    · rcases List.mem_append.1 hy with hy | hy
      · exact hm y hy
      · rw [List.mem_singleton] at hy
        subst hy
        exact h3
theorem dvs_of {w : World} {a : Addr} : ∀ {m : Nat}, (∀ i, i < m → ∃ x : Dv, w.cell? (a.add (i * 3)) = some (.int .i64 x.1) ∧ w.cell? (a.add (i * 3 + 1)) = some (.int .i64 x.2.1) ∧ w.cell? (a.add (i * 3 + 2)) = some (.bool x.2.2)) →
    ∃ L : List Dv, L.length = m ∧ ∀ j u, (dvs L)[j]? = some u → w.cell? (a.add j) = some u
  | 0, _ => ⟨[], rfl, fun j u h => by simp [dvs] at h⟩
  | m + 1, h => by
    obtain ⟨L, hl, hc⟩ := dvs_of (m := m) fun i hi => h i (by omega)
    obtain ⟨x, h0, h1, h2⟩ := h m (by omega)
    refine ⟨L ++ [x], by simp [hl], fun j u hj => ?_⟩
    rw [dvs_app] at hj
    by_cases hlt : j < (dvs L).length
    · rw [List.getElem?_append_left hlt] at hj
      exact hc j u hj
    · rw [List.getElem?_append_right (by omega)] at hj
      have hcl := dvs_len L
      have hj2 : (dvC x)[j - (dvs L).length]? = some u := by simpa [dvs] using hj
      have hjl := (List.getElem?_eq_some_iff.1 hj2).1
      simp [dvC] at hjl
      rcases (show j = m * 3 ∨ j = m * 3 + 1 ∨ j = m * 3 + 2 by omega) with h' | h' | h'
      · subst h'
        rw [show m * 3 - (dvs L).length = 0 by omega] at hj2
        obtain rfl := Option.some.inj hj2
        exact h0
      · subst h'
        rw [show m * 3 + 1 - (dvs L).length = 1 by omega] at hj2
        obtain rfl := Option.some.inj hj2
        exact h1
      · subst h'
        rw [show m * 3 + 2 - (dvs L).length = 2 by omega] at hj2
        obtain rfl := Option.some.inj hj2
        exact h2

theorem open_sigs {H : Type} {enc : TypeId × Value → H} {w : World} {base : Nat} {spare : Nat → Bool} {held : Bool} {fuel : Nat} {cs : List Value} {x : DataW H × List MemPlace}
    (h : DataW.trod enc Tryz.prog w base spare held fuel 22 cs = some x) : ∃ (v : Value) (L : List (Sg × Value)), cs = [v] ∧ Sigs w v L := by
  rcases open_slice_fields Tryz.underlying22 Tryz.underlying37 (by kernel_rfl) (by kernel_rfl) h with ⟨rfl, -⟩ | ⟨a, len, cap, m, D, Pl, rfl, hb, hl, hm, hmm, -, hi⟩
  · exact ⟨_, [], rfl, SlR.nil _, by simp⟩
  · have hlm : len ≤ m := by rw [hmm]; split <;> omega
    obtain ⟨L, hll, hc, hr⟩ := sigs_of (w := w) (a := a) (m := len) fun i him => by
      obtain ⟨ys, n, -, -, -, hf⟩ := hi i (by omega)
      obtain ⟨v0, y0, hc0, -, ht0⟩ := hf 0 _ rfl
      obtain ⟨v1, y1, hc1, -, ht1⟩ := hf 1 _ rfl
      obtain ⟨v2, y2, hc2, -, ht2⟩ := hf 2 _ rfl
      obtain ⟨k, e0, -, -⟩ := DataW.trod_int Tryz.underlying3 ht0
      obtain ⟨q, e1, -, -⟩ := DataW.trod_int Tryz.underlying3 ht1
      obtain ⟨u, l, e2, hsl⟩ := open_changes ht2
      simp only [List.cons.injEq, and_true] at e0 e1 e2
      subst e0 e1 e2
      exact ⟨((k, q, l), _), hc0, hc1, hc2, hsl⟩
    subst hll
    refine ⟨_, L, rfl, ⟨some a, cap, rfl, hl, hm, fun h => by simp at h, fun hn => ?_⟩, hr⟩
    have hpos : 0 < L.length := by simpa using hn
    have hsp : a.spot = none := by
      have h0 := hc 0 _ (sgs_at L 0 hpos).1
      have := spot_none h0
      simpa [Addr.add] using this
    obtain ⟨b, o, sp⟩ := a
    simp only at hsp
    subst hsp
    exact ⟨b, o, rfl, fun j u hj => by have := hc j u hj; rwa [addr_add] at this⟩
theorem open_ders {H : Type} {enc : TypeId × Value → H} {w : World} {base : Nat} {spare : Nat → Bool} {held : Bool} {fuel : Nat} {cs : List Value} {x : DataW H × List MemPlace}
    (h : DataW.trod enc Tryz.prog w base spare held fuel 26 cs = some x) : ∃ (v : Value) (L : List Dv), cs = [v] ∧ SlR w v L.length (dvs L) := by
  rcases open_slice_fields Tryz.underlying26 Tryz.underlying34 (by kernel_rfl) (by kernel_rfl) h with ⟨rfl, -⟩ | ⟨a, len, cap, m, D, Pl, rfl, hb, hl, hm, hmm, -, hi⟩
  · exact ⟨_, [], rfl, SlR.nil _⟩
  · have hlm : len ≤ m := by rw [hmm]; split <;> omega
    obtain ⟨L, hll, hc⟩ := dvs_of (w := w) (a := a) (m := len) fun i him => by
      obtain ⟨ys, n, -, -, -, hf⟩ := hi i (by omega)
      obtain ⟨v0, y0, hc0, -, ht0⟩ := hf 0 _ rfl
      obtain ⟨v1, y1, hc1, -, ht1⟩ := hf 1 _ rfl
      obtain ⟨v2, y2, hc2, -, ht2⟩ := hf 2 _ rfl
      obtain ⟨k, e0, -, -⟩ := DataW.trod_int Tryz.underlying3 ht0
      obtain ⟨q, e1, -, -⟩ := DataW.trod_int Tryz.underlying3 ht1
      obtain ⟨b, e2, -⟩ := DataW.trod_bool Tryz.underlying4 ht2
      simp only [List.cons.injEq, and_true] at e0 e1 e2
      subst e0 e1 e2
      exact ⟨(k, q, b), hc0, hc1, hc2⟩
    subst hll
    refine ⟨_, L, rfl, some a, cap, rfl, hl, hm, fun h => by simp at h, fun hn => ?_⟩
    have hpos : 0 < L.length := by simpa using hn
    have hsp : a.spot = none := by
      have h0 := hc 0 _ (dvs_at L 0 hpos).1
      have := spot_none h0
      simpa [Addr.add] using this
    obtain ⟨b, o, sp⟩ := a
    simp only at hsp
    subst hsp
    exact ⟨b, o, rfl, fun j u hj => by have := hc j u hj; rwa [addr_add] at this⟩
end Go.Proofs.YtimeilkelnljnaaGreatDoor

namespace Go.Proofs.YtimeilkelnljnaaGreatDoor
open Go.RowKit

set_option maxHeartbeats 400000 in
theorem al_typed (s : Sg) (v : Value) (w : World) (hv : ∃ a n c, v = .slice a n c) : Calls Tryz.prog 57 #[.agg #[.int .i64 s.1, .int .i64 s.2.1, v]] w fun e w' => e = .returned (.bool (tyS s)) ∧ Below w.heap.size w w' := by
  obtain ⟨a, n, c, rfl⟩ := hv
  go_enter Tryz.func57, Tryz.ntmps57
  go_wp2_with fail
  refine (val_ValidType s.1 s.2.1 _).mono ?_
  rintro e w1 ⟨rfl, hb⟩
  go_wp2_with fail
  go_ret
  exact ⟨rfl, ext_alloc hb⟩

set_option maxHeartbeats 400000 in
set_option maxRecDepth 100000 in
theorem al_all1V (pt : Nat) (s : Sg) (v : Value) (w : World) (hp : w.cell? ⟨pt, 0, none⟩ = some (.func (.func 23) #[] #[])) (hv : ∃ a n c, v = .slice a n c)
    (hF : ∀ W, Below w.heap.size w W → Calls Tryz.prog 23 #[.agg #[.int .i64 s.1, .int .i64 s.2.1, v]] W fun e w' => e = .returned (.bool (svS s)) ∧ Below W.heap.size W w') :
    Calls Tryz.prog 66 #[.agg #[.int .i64 s.1, .int .i64 s.2.1, v], .pointer (some ⟨pt, 0, none⟩)] w fun e w' => e = .returned (.bool (!svS s)) ∧ Below w.heap.size w w' := by
  obtain ⟨a, n, c, rfl⟩ := hv
  have HF := Lib.hid hF
  have hp' := cell_alloc hp (.cells #[.int .i64 s.1, .int .i64 s.2.1, .slice a n c] 37)
  clear hF hp
  go_enter Tryz.func66, Tryz.ntmps66
  go_wp2_with fail
  refine (HF.out _ ((Below.refl _ _).alloc (Nat.le_refl _) _)).mono ?_
  rintro e w1 ⟨rfl, hb⟩
  go_wp2_with fail
  go_ret
  exact ⟨rfl, ext_alloc hb⟩

set_option maxHeartbeats 400000 in
set_option maxRecDepth 100000 in
theorem al_allV (v : Value) (L : List (Sg × Value)) (w : World) (hs : Sigs w v L)
    (hF : ∀ x ∈ L, ∀ W, Below w.heap.size w W → Calls Tryz.prog 23 #[.agg #[.int .i64 x.1.1, .int .i64 x.1.2.1, x.2]] W fun e w' => e = .returned (.bool (svS x.1)) ∧ Below W.heap.size W w') :
    Calls Tryz.prog 34 #[v, (.func (.func 23) #[] #[])] w fun e w' => e = .returned (.bool (L.all fun x => svS x.1)) ∧ Below w.heap.size w w' := by
  have hb0 : Below w.heap.size w (w.alloc (.cells #[(.func (.func 23) #[] #[])] 45)) := (Below.refl _ _).alloc (Nat.le_refl _) _
  have hc0 := (OwnRow.fresh w #[(.func (.func 23) #[] #[])] 45).cell (j := 0) rfl
  have HC := Lib.hid (con_all w.heap.size (fun s => !svS s) v L _ (hs.below hb0) (fun x hx W hW => by
    have hcell := (hW.cell (p := ⟨w.heap.size, 0, none⟩) (by simp)).trans hc0
    obtain ⟨a, c, e, -, -⟩ := ((hs.m x hx)).shape
    exact al_all1V w.heap.size x.1 x.2 W hcell ⟨_, _, _, e⟩ (fun W' hW' => hF x hx W' ((hb0.trans (hW.mono hb0.size)).trans (hW'.mono (Nat.le_trans hb0.size hW.size))))))
  have HR := Lib.hid (show (!L.any fun x => !svS x.1) = L.all fun x => svS x.1 by rw [List.not_any_eq_all_not]; simp)
  obtain ⟨a, cap, rfl, hc, hm⟩ := hs.s.shape
  clear hs hF hc0 hb0
  go_enter Tryz.func34, Tryz.ntmps34
  go_wp2_with fail
  refine HC.out.mono ?_
  rintro e w1 ⟨rfl, hb⟩
  go_wp2_with fail
  go_ret
  exact ⟨ret_bool HR.out, ext_alloc hb⟩
set_option maxHeartbeats 400000 in
set_option maxRecDepth 100000 in
theorem al_all1T (pt : Nat) (s : Sg) (v : Value) (w : World) (hp : w.cell? ⟨pt, 0, none⟩ = some (.func (.func 57) #[] #[])) (hv : ∃ a n c, v = .slice a n c)
    (hF : ∀ W, Below w.heap.size w W → Calls Tryz.prog 57 #[.agg #[.int .i64 s.1, .int .i64 s.2.1, v]] W fun e w' => e = .returned (.bool (tyS s)) ∧ Below W.heap.size W w') :
    Calls Tryz.prog 66 #[.agg #[.int .i64 s.1, .int .i64 s.2.1, v], .pointer (some ⟨pt, 0, none⟩)] w fun e w' => e = .returned (.bool (!tyS s)) ∧ Below w.heap.size w w' := by
  obtain ⟨a, n, c, rfl⟩ := hv
  have HF := Lib.hid hF
  have hp' := cell_alloc hp (.cells #[.int .i64 s.1, .int .i64 s.2.1, .slice a n c] 37)
  clear hF hp
  go_enter Tryz.func66, Tryz.ntmps66
  go_wp2_with fail
  refine (HF.out _ ((Below.refl _ _).alloc (Nat.le_refl _) _)).mono ?_
  rintro e w1 ⟨rfl, hb⟩
  go_wp2_with fail
  go_ret
  exact ⟨rfl, ext_alloc hb⟩

set_option maxHeartbeats 400000 in
set_option maxRecDepth 100000 in
theorem al_allT (v : Value) (L : List (Sg × Value)) (w : World) (hs : Sigs w v L)
    (hF : ∀ x ∈ L, ∀ W, Below w.heap.size w W → Calls Tryz.prog 57 #[.agg #[.int .i64 x.1.1, .int .i64 x.1.2.1, x.2]] W fun e w' => e = .returned (.bool (tyS x.1)) ∧ Below W.heap.size W w') :
    Calls Tryz.prog 34 #[v, (.func (.func 57) #[] #[])] w fun e w' => e = .returned (.bool (L.all fun x => tyS x.1)) ∧ Below w.heap.size w w' := by
  have hb0 : Below w.heap.size w (w.alloc (.cells #[(.func (.func 57) #[] #[])] 45)) := (Below.refl _ _).alloc (Nat.le_refl _) _
  have hc0 := (OwnRow.fresh w #[(.func (.func 57) #[] #[])] 45).cell (j := 0) rfl
  have HC := Lib.hid (con_all w.heap.size (fun s => !tyS s) v L _ (hs.below hb0) (fun x hx W hW => by
    have hcell := (hW.cell (p := ⟨w.heap.size, 0, none⟩) (by simp)).trans hc0
    obtain ⟨a, c, e, -, -⟩ := ((hs.m x hx)).shape
    exact al_all1T w.heap.size x.1 x.2 W hcell ⟨_, _, _, e⟩ (fun W' hW' => hF x hx W' ((hb0.trans (hW.mono hb0.size)).trans (hW'.mono (Nat.le_trans hb0.size hW.size))))))
  have HR := Lib.hid (show (!L.any fun x => !tyS x.1) = L.all fun x => tyS x.1 by rw [List.not_any_eq_all_not]; simp)
  obtain ⟨a, cap, rfl, hc, hm⟩ := hs.s.shape
  clear hs hF hc0 hb0
  go_enter Tryz.func34, Tryz.ntmps34
  go_wp2_with fail
  refine HC.out.mono ?_
  rintro e w1 ⟨rfl, hb⟩
  go_wp2_with fail
  go_ret
  exact ⟨ret_bool HR.out, ext_alloc hb⟩

/-- what part returns: its signal's changes are the argument's or the call's own -/
def OneOf (v : Value) (st : Sg) (r : Sg × Bool) (B : Nat) (w' : World) (v' : Value) : Prop := (v' = v ∧ r.1 = st) ∨ w'.ownsRow B 75 2 v' r.1.2.2.length (chs r.1.2.2)
def PartPost (v : Value) (st : Sg) (r : Sg × Bool) (w : World) (e : Ending) (w' : World) : Prop :=
  ∃ v', e = .returned (.tuple #[.agg #[.int .i64 r.1.1, .int .i64 r.1.2.1, v'], .bool r.2]) ∧ OneOf v st r w.heap.size w' v' ∧ Below w.heap.size w w'
theorem OneOf.slr {v v' : Value} {st : Sg} {r : Sg × Bool} {B : Nat} {w' : World} (h : OneOf v st r B w' v') (hs : SlR w' v st.2.2.length (chs st.2.2)) : SlR w' v' r.1.2.2.length (chs r.1.2.2) := by
  rcases h with ⟨rfl, e⟩ | h
  · rw [e]; exact hs
  · exact SlR.of_own h
theorem OneOf.set3 {v v' : Value} {st : Sg} {r : Sg × Bool} {B b : Nat} {w' : World} (h : OneOf v st r B w' v') (hb : b < B) (x y z : Value) : OneOf v st r B (((w'.setCell ⟨b, 0, none⟩ x).setCell ⟨b, 1, none⟩ y).setCell ⟨b, 2, none⟩ z) v' :=
  h.imp id fun h => ownsRow_set3 h hb x y z
theorem slice_zero {n : Int} {l : List Ch} {fr width : Int} (h : (sliceR 0 n l fr width).2 = 0) : ∃ p, sliceR 0 n l fr width = ((0, width, p), 0) ∧ sv 0 width p = true := by
  have hv : sv 0 n l = true := by
    cases hv : sv 0 n l
    · unfold sliceR at h
      rw [if_pos hv] at h
      cases h
    · rfl
  rcases slice_cases (from_ := fr) (width := width) hv with h' | h'
  · rw [h'] at h; cases h
  · obtain ⟨p, e1, e2, -, -⟩ := slice_ok hv h'
    exact ⟨p, e1, e2⟩

/-- the boxes of part -/
structure PaSt (w W : World) (s : List Value) (d : List Value) : Prop where
  s : OwnRow W w.heap.size s
  d : OwnRow W (w.heap.size + 1) d
  r : OwnRow W (w.heap.size + 1 + 1) [.int .i64 0, .int .i64 0, .slice none 0 0]
  b : Below w.heap.size w W
  z : w.heap.size + 1 + 1 < W.heap.size
theorem PaSt.start (w : World) (S D : Array Value) (T T2 : TypeId) : PaSt w (((w.alloc (.cells S T)).alloc (.cells D T2)).alloc (.cells #[.int .i64 0, .int .i64 0, .slice none 0 0] T)) S.toList D.toList := by
  refine ⟨?_, ?_, ?_, (((Below.refl _ _).alloc (Nat.le_refl _) _).alloc (by simp) _).alloc (by simp; omega) _, by simp⟩
  · exact ((OwnRow.fresh w S _).alloc (by simp) _).alloc (by simp; omega) _
  · have h := OwnRow.fresh (w.alloc (.cells S T)) D T2
    simp only [World.size_alloc] at h
    exact h.alloc (by simp) _
  · have h := OwnRow.fresh ((w.alloc (.cells S T)).alloc (.cells D T2)) #[.int .i64 0, .int .i64 0, .slice none 0 0] T
    simp only [World.size_alloc] at h
    exact h
theorem PaSt.later {w W W' : World} {s d : List Value} (h : PaSt w W s d) {B : Nat} (hb : Below B W W') (hB : w.heap.size + 1 + 1 < B) : PaSt w W' s d :=
  ⟨h.s.below hb (by omega), h.d.below hb (by omega), h.r.below hb hB, h.b.trans (hb.mono (by omega)), by have := hb.size; have := h.z; omega⟩
theorem PaSt.fin {w W : World} {s d : List Value} (h : PaSt w W s d) (x y z : Value) :
    (((((W.setCell ⟨w.heap.size + 1 + 1, 0, none⟩ x).setCell ⟨w.heap.size + 1 + 1, 1, none⟩ y).setCell ⟨w.heap.size + 1 + 1, 2, none⟩ z).cell? ⟨w.heap.size + 1 + 1, 0, none⟩ = some x ∧ (((W.setCell ⟨w.heap.size + 1 + 1, 0, none⟩ x).setCell ⟨w.heap.size + 1 + 1, 1, none⟩ y).setCell ⟨w.heap.size + 1 + 1, 2, none⟩ z).cell? ⟨w.heap.size + 1 + 1, 1, none⟩ = some y ∧ (((W.setCell ⟨w.heap.size + 1 + 1, 0, none⟩ x).setCell ⟨w.heap.size + 1 + 1, 1, none⟩ y).setCell ⟨w.heap.size + 1 + 1, 2, none⟩ z).cell? ⟨w.heap.size + 1 + 1, 2, none⟩ = some z)) ∧
      Below w.heap.size w (((W.setCell ⟨w.heap.size + 1 + 1, 0, none⟩ x).setCell ⟨w.heap.size + 1 + 1, 1, none⟩ y).setCell ⟨w.heap.size + 1 + 1, 2, none⟩ z) :=
  ⟨set3 (h.r.cell (j := 0) rfl) (h.r.cell (j := 1) rfl) (h.r.cell (j := 2) rfl) x y z, below_set3' h.b (by omega) _ _ _⟩
theorem PaSt.setO {w W : World} {s d : List Value} (h : PaSt w W s d) {b : Nat} (hb : w.heap.size + 1 + 1 < b) (p q r : Value) : PaSt w (((W.setCell ⟨b, 0, none⟩ p).setCell ⟨b, 1, none⟩ q).setCell ⟨b, 2, none⟩ r) s d :=
  ⟨((h.s.setOther (by omega) _ _).setOther (by omega) _ _).setOther (by omega) _ _, ((h.d.setOther (by omega) _ _).setOther (by omega) _ _).setOther (by omega) _ _,
    ((h.r.setOther (by omega) _ _).setOther (by omega) _ _).setOther (by omega) _ _, below_set3' h.b (by omega) _ _ _, by have := h.z; simpa using this⟩

set_option maxHeartbeats 1600000 in
set_option maxRecDepth 100000 in
theorem al_part (st : Sg) (v : Value) (of_ fr width : Int) (inv : Bool) (w : World) (hg : Glob w) (hs : SlR w v st.2.2.length (chs st.2.2)) (hf : Fit st.2.2) :
    Calls Tryz.prog 54 #[.agg #[.int .i64 st.1, .int .i64 st.2.1, v], .agg #[.int .i64 of_, .int .i64 fr, .bool inv], .int .i64 width] w (PartPost v st (partR st fr inv width) w) := by
  obtain ⟨k, n, l⟩ := st
  dsimp only at hs hf ⊢
  obtain ⟨a, cap, rfl, hc, hm⟩ := hs.shape
  have hst := PaSt.start w #[.int .i64 k, .int .i64 n, .slice a l.length cap] #[.int .i64 of_, .int .i64 fr, .bool inv] 37 34
  have HST := Lib.hid hst
  have HS := Lib.hid hs
  have HG := Lib.hid hg
  by_cases hk : k ≠ 0
  · have HR := Lib.hid (part_other (st := (k, n, l)) hk fr inv width)
    have hkb : (k != 0) = true := by rw [bne_iff_ne]; exact hk
    clear hk hst hs hg hf
    go_enter Tryz.func54, Tryz.ntmps54
    go_wp2_with fail
    refine bodyPost_ret (v := .tuple #[.agg #[.int .i64 k, .int .i64 n, .slice a l.length cap], .bool true]) (by simp [results, Tryz.results54, go_sem]) rfl ?_
    rw [HR.out]
    have hbb : Below w.heap.size w (((w.alloc (.cells #[.int .i64 k, .int .i64 n, .slice a l.length cap] 37)).alloc (.cells #[.int .i64 of_, .int .i64 fr, .bool inv] 34)).alloc (.cells #[.int .i64 k, .int .i64 n, .slice a l.length cap] 37)) := (((Below.refl _ _).alloc (Nat.le_refl _) _).alloc (by simp) _).alloc (by simp; omega) _
    exact ⟨_, rfl, .inl ⟨rfl, rfl⟩, hbb⟩
  obtain rfl : k = 0 := Classical.not_not.1 hk
  have HSL := Lib.hid (sig_Slice 0 n _ l fr width _ (hg.below hst.b) (hs.below hst.b) hf)
  have HPR := Lib.hid (show partR (0, n, l) fr inv width = if (sliceR 0 n l fr width).2 = 0 ∧ inv = true then
    ((invR (sliceR 0 n l fr width).1.1 (sliceR 0 n l fr width).1.2.1 (sliceR 0 n l fr width).1.2.2).1, decide ((invR (sliceR 0 n l fr width).1.1 (sliceR 0 n l fr width).1.2.1 (sliceR 0 n l fr width).1.2.2).2 = 0))
    else ((sliceR 0 n l fr width).1, decide ((sliceR 0 n l fr width).2 = 0)) by unfold partR; rw [if_neg hk])
  have HZ := Lib.hid (fun h => slice_zero (n := n) (l := l) (fr := fr) (width := width) h)
  generalize sliceR 0 n l fr width = r at HSL HPR HZ
  obtain ⟨⟨rk, rn, rl⟩, re⟩ := r
  dsimp only at HPR HSL HZ
  clear hk hst hs hg hf
  go_enter Tryz.func54, Tryz.ntmps54
  go_wp2_with fail
  refine HSL.out.mono ?_
  rintro e w1 ⟨v1, rfl, ho, hb⟩
  dsimp only at ho ⊢
  obtain ⟨a1, c1, rfl, -, -⟩ := (SlR.of_own ho).shape
  have H1 := Lib.hid (HST.out.later hb (by simp))
  have HO := Lib.hid ho
  have hz1 := H1.out.z
  have hz0 : w.heap.size + 1 < w1.heap.size := by omega
  have hz00 : w.heap.size < w1.heap.size := by omega
  have d0 := H1.out.d.cell (j := 0) rfl
  have d1 := H1.out.d.cell (j := 1) rfl
  have d2 := H1.out.d.cell (j := 2) rfl
  have r0 := H1.out.r.cell (j := 0) rfl
  have r1 := H1.out.r.cell (j := 1) rfl
  have r2 := H1.out.r.cell (j := 2) rfl
  have q0 := H1.out.r.free (j := 0) (by simp)
  have q1 := H1.out.r.free (j := 1) (by simp)
  have q2 := H1.out.r.free (j := 2) (by simp)
  clear hb ho
  by_cases hre : re = 0
  · obtain ⟨p, hp, hsp⟩ := HZ.out hre
    have e1 := congrArg (fun x : SigR => x.1.1) hp
    have e2 := congrArg (fun x : SigR => x.1.2.1) hp
    have e3 := congrArg (fun x : SigR => x.1.2.2) hp
    dsimp only at e1 e2 e3
    subst e1 e2 e3 hre
    have HF2 := Lib.hid (sv_fit hsp)
    clear hp hsp HZ
    cases inv
    · have HR := Lib.hid (HPR.out.trans (if_neg (by simp)))
      clear HPR
      go_wp2_with fail
      obtain ⟨⟨e0, e1, e2⟩, hbb⟩ := H1.out.fin (.int .i64 0) (.int .i64 rn) (.slice a1 rl.length c1)
      have e0 := cell_alloc e0 (.cells #[.int .i64 0, .int .i64 rn, .slice a1 rl.length c1] 37)
      have e1 := cell_alloc e1 (.cells #[.int .i64 0, .int .i64 rn, .slice a1 rl.length c1] 37)
      have e2 := cell_alloc e2 (.cells #[.int .i64 0, .int .i64 rn, .slice a1 rl.length c1] 37)
      refine bodyPost_ret (v := .tuple #[.agg #[.int .i64 0, .int .i64 rn, .slice a1 rl.length c1], .bool true]) (by simp [results, Tryz.results54, go_sem, e0, e1, e2]) rfl ?_
      rw [HR.out]
      exact ⟨_, rfl, .inr (ownsRow_base ((ownsRow_set3 HO.out (by simp) _ _ _).alloc _) (by first | omega | (simp; omega))), hbb.alloc hbb.size _⟩
    · have HR := Lib.hid (HPR.out.trans (if_pos (by simp)))
      have HIV := Lib.hid (fun W hW hS => sig_Invert 0 rn (.slice a1 rl.length c1) rl W hW hS HF2.out)
      obtain ⟨y, hy⟩ : ∃ y, y = invR 0 rn rl := ⟨_, rfl⟩
      rw [← hy] at HR HIV
      obtain ⟨⟨yk, yn, yl⟩, ye⟩ := y
      dsimp only at HR
      have hbx := H1.out.b.alloc H1.out.b.size (.cells #[.int .i64 0, .int .i64 rn, .slice a1 rl.length c1] 37)
      have HG2 := Lib.hid (HG.out.below hbx)
      have HS2 := Lib.hid ((SlR.of_own HO.out).below ((Below.refl w1.heap.size w1).alloc (Nat.le_refl _) (.cells #[.int .i64 0, .int .i64 rn, .slice a1 rl.length c1] 37)))
      have H1X := Lib.hid (show PaSt w (w1.alloc (.cells #[.int .i64 0, .int .i64 rn, .slice a1 rl.length c1] 37)) _ _ from H1.out.later ((Below.refl w1.heap.size w1).alloc (Nat.le_refl _) _) hz1)
      have HX := Lib.hid (OwnRow.fresh w1 #[.int .i64 0, .int .i64 rn, .slice a1 rl.length c1] 37)
      clear HPR hy hbx
      go_wp2_with fail
      refine (HIV.out _ HG2.out HS2.out).mono ?_
      rintro e w2 ⟨v2, rfl, ho2, hb2⟩
      dsimp only at ho2 ⊢
      obtain ⟨a2, c2, rfl, -, -⟩ := (SlR.of_own ho2).shape
      have H2 := Lib.hid (H1X.out.later hb2 (by simp; omega))
      have HX2 := Lib.hid (HX.out.below hb2 (by simp))
      have HO2 := Lib.hid ho2
      have H3 := Lib.hid (H2.out.setO hz1 (.int .i64 yk) (.int .i64 yn) (.slice a2 yl.length c2))
      have x0 := HX2.out.cell (j := 0) rfl
      have x1 := HX2.out.cell (j := 1) rfl
      have x2 := HX2.out.cell (j := 2) rfl
      have y0 := HX2.out.free (j := 0) (by simp)
      have y1 := HX2.out.free (j := 1) (by simp)
      have y2 := HX2.out.free (j := 2) (by simp)
      clear ho2 hb2 d0 d1 d2 r0 r1 r2 q0 q1 q2
      go_upto_region 6 with fail
      have HX3 := Lib.hid (((HX2.out.set (j := 0) (by simp) (.int .i64 yk)).set (j := 1) (by simp) (.int .i64 yn)).set (j := 2) (by simp) (.slice a2 yl.length c2))
      have HO3 := Lib.hid (ownsRow_set3 HO2.out (show w1.heap.size < _ by simp) (.int .i64 yk) (.int .i64 yn) (.slice a2 yl.length c2))
      generalize ((w2.setCell ⟨w1.heap.size, 0, none⟩ (.int .i64 yk)).setCell ⟨w1.heap.size, 1, none⟩ (.int .i64 yn)).setCell ⟨w1.heap.size, 2, none⟩ (.slice a2 yl.length c2) = w3 at H3 HX3 HO3 ⊢
      clear x0 x1 x2 y0 y1 y2
      have x0 := HX3.out.cell (j := 0) rfl
      have x1 := HX3.out.cell (j := 1) rfl
      have x2 := HX3.out.cell (j := 2) rfl
      have r0 := H3.out.r.cell (j := 0) rfl
      have r1 := H3.out.r.cell (j := 1) rfl
      have r2 := H3.out.r.cell (j := 2) rfl
      have q0 := H3.out.r.free (j := 0) (by simp)
      have q1 := H3.out.r.free (j := 1) (by simp)
      have q2 := H3.out.r.free (j := 2) (by simp)
      obtain ⟨⟨e0, e1, e2⟩, hbb⟩ := H3.out.fin (.int .i64 yk) (.int .i64 yn) (.slice a2 yl.length c2)
      by_cases hye : ye = 0
      · have HR2 := Lib.hid (HR.out.trans (show _ = (((yk, yn, yl) : Sg), true) by rw [hye]; rfl))
        have hyb : (ye == 0) = true := by rw [beq_iff_eq]; exact hye
        clear hye
        go_wp2_with fail
        refine bodyPost_ret (v := .tuple #[.agg #[.int .i64 yk, .int .i64 yn, .slice a2 yl.length c2], .bool true]) (by simp [results, Tryz.results54, go_sem, e0, e1, e2]) rfl ?_
        rw [HR2.out]
        exact ⟨_, rfl, .inr (ownsRow_base (ownsRow_set3 HO3.out (by simp; omega) _ _ _) (by first | omega | (simp; omega))), hbb⟩
      · have HR2 := Lib.hid (HR.out.trans (show _ = (((yk, yn, yl) : Sg), false) by simp [hye]))
        have hyb : (ye == 0) = false := by rw [beq_eq_false_iff_ne]; exact hye
        clear hye
        go_wp2_with fail
        refine bodyPost_ret (v := .tuple #[.agg #[.int .i64 yk, .int .i64 yn, .slice a2 yl.length c2], .bool false]) (by simp [results, Tryz.results54, go_sem, e0, e1, e2]) rfl ?_
        rw [HR2.out]
        exact ⟨_, rfl, .inr (ownsRow_base (ownsRow_set3 HO3.out (by simp; omega) _ _ _) (by first | omega | (simp; omega))), hbb⟩
  · have HR := Lib.hid (HPR.out.trans (if_neg (by simp [hre])))
    have HR2 := Lib.hid (HR.out.trans (show _ = (((rk, rn, rl) : Sg), false) by simp [hre]))
    have hrb : (re == 0) = false := by rw [beq_eq_false_iff_ne]; exact hre
    clear hre HPR HR HZ
    go_wp2_with fail
    obtain ⟨⟨e0, e1, e2⟩, hbb⟩ := H1.out.fin (.int .i64 rk) (.int .i64 rn) (.slice a1 rl.length c1)
    have e0 := cell_alloc e0 (.cells #[.int .i64 rk, .int .i64 rn, .slice a1 rl.length c1] 37)
    have e1 := cell_alloc e1 (.cells #[.int .i64 rk, .int .i64 rn, .slice a1 rl.length c1] 37)
    have e2 := cell_alloc e2 (.cells #[.int .i64 rk, .int .i64 rn, .slice a1 rl.length c1] 37)
    refine bodyPost_ret (v := .tuple #[.agg #[.int .i64 rk, .int .i64 rn, .slice a1 rl.length c1], .bool false]) (by simp [results, Tryz.results54, go_sem, e0, e1, e2]) rfl ?_
    rw [HR2.out]
    exact ⟨_, rfl, .inr (ownsRow_base ((ownsRow_set3 HO.out (by simp) _ _ _).alloc _) (by first | omega | (simp; omega))), hbb.alloc hbb.size _⟩
end Go.Proofs.YtimeilkelnljnaaGreatDoor

namespace Go.Proofs.YtimeilkelnljnaaGreatDoor
open Go.RowKit

theorem slR_size (s : ByteArray) (f n : Int) (hs : s.size ≤ maxLen) : (slR s f n).1.size ≤ maxLen := by
  unfold slR
  split
  · exact Nat.zero_le _
  · split
    · exact Nat.zero_le _
    · simp only [ByteArray.size_extract]
      omega

set_option maxHeartbeats 1600000 in
set_option maxRecDepth 100000 in
theorem al_fits (s : Sg) (u v : Value) (S : List (Sg × Value)) (d : Dv) (w : World) (hu : ∃ a n c, u = .slice a n c) (hs : Sigs w v S) (hw : ∀ x ∈ S, 0 ≤ x.1.2.1 ∧ x.1.2.1 ≤ 128) (hsw : 0 ≤ s.2.1 ∧ s.2.1 ≤ 128) :
    Calls Tryz.prog 58 #[.agg #[.int .i64 s.1, .int .i64 s.2.1, u], v, .agg #[.int .i64 d.1, .int .i64 d.2.1, .bool d.2.2]] w fun e w' => e = .returned (.bool (fitsR s (S.map Prod.fst) d)) ∧ Below w.heap.size w w' := by
  obtain ⟨k, n, l⟩ := s
  obtain ⟨o, f, i⟩ := d
  obtain ⟨ua, un, uc, rfl⟩ := hu
  obtain ⟨a, cap, rfl, hc, hm⟩ := hs.s.shape
  dsimp only at hsw ⊢
  have hb2 : Below w.heap.size w ((w.alloc (.cells #[.int .i64 k, .int .i64 n, .slice ua un uc] 37)).alloc (.cells #[.int .i64 o, .int .i64 f, .bool i] 34)) := ((Below.refl _ _).alloc (Nat.le_refl _) _).alloc (by simp) _
  have HB := Lib.hid hb2
  have HS := Lib.hid (hs.below hb2)
  have HW := Lib.hid hw
  have HSW := Lib.hid hsw
  clear hs hw hb2 hsw
  by_cases h1 : o < -1
  · have HR := Lib.hid (show false = fitsR (k, n, l) (S.map Prod.fst) (o, f, i) by unfold fitsR; rw [if_pos (.inl h1)])
    have hd : decide (o < -1) = true := by rw [decide_eq_true_iff]; exact h1
    clear h1
    go_enter Tryz.func58, Tryz.ntmps58
    go_wp2_with fail
    go_ret
    exact ⟨ret_bool HR.out, by first | exact HB.out | exact below_drewN HB.out _ | exact below_drewN (below_drewN HB.out _) _⟩
  have hd1 : decide (o < -1) = false := by rw [decide_eq_false_iff_not]; exact h1
  by_cases h2 : (S.length : Int) ≤ o
  · have HR := Lib.hid (show false = fitsR (k, n, l) (S.map Prod.fst) (o, f, i) by unfold fitsR; rw [if_pos (.inr (by rw [List.length_map]; exact h2))])
    have hd2 : decide ((S.length : Int) ≤ o) = true := by rw [decide_eq_true_iff]; exact h2
    clear h1 h2
    go_enter Tryz.func58, Tryz.ntmps58
    go_wp2_with fail
    go_ret
    exact ⟨ret_bool HR.out, by first | exact HB.out | exact below_drewN HB.out _ | exact below_drewN (below_drewN HB.out _) _⟩
  have hd2 : decide ((S.length : Int) ≤ o) = false := by rw [decide_eq_false_iff_not]; exact h2
  have hno : ¬ (o < -1 ∨ ((S.map Prod.fst).length : Int) ≤ o) := by rw [List.length_map]; exact fun h => h.elim h1 h2
  by_cases h3 : o = -1
  · subst h3
    have HR := Lib.hid (show (decide (f = 0) && !i) = fitsR (k, n, l) (S.map Prod.fst) (-1, f, i) by unfold fitsR; rw [if_neg hno, if_neg (by simp), if_pos (.inl rfl)])
    clear h1 h2 hno
    by_cases hf0 : f = 0
    · subst hf0
      have HR2 := Lib.hid (show (!i) = _ from (show (!i) = (decide ((0 : Int) = 0) && !i) by simp).trans HR.out)
      go_enter Tryz.func58, Tryz.ntmps58
      go_wp2_with fail
      go_quiet (fail)
      go_wp2_with fail
      go_ret
      exact ⟨ret_bool HR2.out, by first | exact HB.out | exact below_drewN HB.out _ | exact below_drewN (below_drewN HB.out _) _⟩
    · have hfb : (f == 0) = false := by rw [beq_eq_false_iff_ne]; exact hf0
      have HR2 := Lib.hid (show false = _ from (show false = (decide (f = 0) && !i) by simp [hf0]).trans HR.out)
      clear hf0
      go_enter Tryz.func58, Tryz.ntmps58
      go_wp2_with fail
      go_quiet (fail)
      go_wp2_with fail
      go_ret
      exact ⟨ret_bool HR2.out, by first | exact HB.out | exact below_drewN HB.out _ | exact below_drewN (below_drewN HB.out _) _⟩
  obtain ⟨j, rfl⟩ : ∃ j : Nat, o = (j : Int) := ⟨o.toNat, by omega⟩
  have hj : j < S.length := by omega
  have h3b : ((j : Int) == -1) = false := by rw [beq_eq_false_iff_ne]; exact h3
  have h3n : ((j : Int) != -1) = true := by rw [bne_iff_ne]; exact h3
  obtain ⟨b, oo, rfl, y0, y1, y2, -⟩ := HS.out.at hj
  have HX := Lib.hid (show sgAt (S.map Prod.fst) ((j : Int)).toNat = S[j].1 by rw [Int.toNat_natCast, sgAt_lt (by simpa using hj)]; simp)
  have hwx := HW.out _ (List.getElem_mem hj)
  generalize S[j] = x at y0 y1 y2 HX hwx
  obtain ⟨⟨xk, xn, xl⟩, xv⟩ := x
  dsimp only at y0 y1 y2 HX hwx
  by_cases h4 : xk ≠ k
  · have HR := Lib.hid (show false = fitsR (k, n, l) (S.map Prod.fst) ((j : Int), f, i) by unfold fitsR; rw [if_neg hno, if_pos ⟨h3, by rw [show sgAt (S.map Prod.fst) (((j : Int), f, i) : Dv).1.toNat = _ from HX.out]; exact h4⟩])
    have h4b : (xk != k) = true := by rw [bne_iff_ne]; exact h4
    clear h1 h2 h3 h4 hno
    go_enter Tryz.func58, Tryz.ntmps58
    go_wp2_with fail
    go_quiet (fail)
    go_wp2_with fail
    go_ret
    exact ⟨ret_bool HR.out, by first | exact HB.out | exact below_drewN HB.out _ | exact below_drewN (below_drewN HB.out _) _⟩
  obtain rfl : xk = k := Classical.not_not.1 h4
  have h4b : (xk != xk) = false := by simp
  by_cases h5 : xk ≠ 0
  · have HR := Lib.hid (show (decide (f = 0) && !i) = fitsR (xk, n, l) (S.map Prod.fst) ((j : Int), f, i) by unfold fitsR; rw [if_neg hno, if_neg (by rintro ⟨-, h⟩; exact h (by rw [show sgAt (S.map Prod.fst) (((j : Int), f, i) : Dv).1.toNat = _ from HX.out])), if_pos (.inr h5)])
    have h5b : (xk != 0) = true := by rw [bne_iff_ne]; exact h5
    clear h1 h2 h3 h4 h5 hno
    by_cases hf0 : f = 0
    · subst hf0
      have HR2 := Lib.hid (show (!i) = _ from (show (!i) = (decide ((0 : Int) = 0) && !i) by simp).trans HR.out)
      go_enter Tryz.func58, Tryz.ntmps58
      go_wp2_with fail
      go_quiet (fail)
      go_wp2_with fail
      go_ret
      exact ⟨ret_bool HR2.out, by first | exact HB.out | exact below_drewN HB.out _ | exact below_drewN (below_drewN HB.out _) _⟩
    · have hfb : (f == 0) = false := by rw [beq_eq_false_iff_ne]; exact hf0
      have HR2 := Lib.hid (show false = _ from (show false = (decide (f = 0) && !i) by simp [hf0]).trans HR.out)
      clear hf0
      go_enter Tryz.func58, Tryz.ntmps58
      go_wp2_with fail
      go_quiet (fail)
      go_wp2_with fail
      go_ret
      exact ⟨ret_bool HR2.out, by first | exact HB.out | exact below_drewN HB.out _ | exact below_drewN (below_drewN HB.out _) _⟩
  obtain rfl : xk = 0 := Classical.not_not.1 h5
  have HR := Lib.hid (show (decide (0 ≤ f) && decide (f ≤ xn - n)) = fitsR (0, n, l) (S.map Prod.fst) ((j : Int), f, i) by
    unfold fitsR
    rw [if_neg hno, if_neg (by rintro ⟨-, h⟩; exact h (by rw [show sgAt (S.map Prod.fst) (((j : Int), f, i) : Dv).1.toNat = _ from HX.out])), if_neg (fun h => h.elim h3 (fun h => h rfl)), show sgAt (S.map Prod.fst) (((j : Int), f, i) : Dv).1.toNat = _ from HX.out])
  have hww : IntKind.i64.wrap (xn - n) = xn - n := IntWalk.i64_in _ (by have := HSW.out; omega)
  clear h1 h2 h3 h4 h5 hno
  by_cases hf0 : 0 ≤ f
  · have hfb : decide (0 ≤ f) = true := by rw [decide_eq_true_iff]; exact hf0
    have HR2 := Lib.hid ((show decide (f ≤ xn - n) = (decide (0 ≤ f) && decide (f ≤ xn - n)) by rw [hfb, Bool.true_and]).trans HR.out)
    clear hf0
    go_enter Tryz.func58, Tryz.ntmps58
    go_wp2_with fail
    go_quiet (fail)
    go_wp2_with fail
    go_quiet (fail)
    try go_wp2_with fail
    go_ret
    exact ⟨ret_bool HR2.out, by first | exact HB.out | exact below_drewN HB.out _ | exact below_drewN (below_drewN HB.out _) _⟩
  · have hfb : decide (0 ≤ f) = false := by rw [decide_eq_false_iff_not]; exact hf0
    have HR2 := Lib.hid ((show false = (decide (0 ≤ f) && decide (f ≤ xn - n)) by rw [hfb, Bool.false_and]).trans HR.out)
    clear hf0
    go_enter Tryz.func58, Tryz.ntmps58
    go_wp2_with fail
    go_quiet (fail)
    go_wp2_with fail
    go_quiet (fail)
    try go_wp2_with fail
    go_ret
    exact ⟨ret_bool HR2.out, by first | exact HB.out | exact below_drewN HB.out _ | exact below_drewN (below_drewN HB.out _) _⟩

set_option maxHeartbeats 800000 in
set_option maxRecDepth 100000 in
theorem al_Read (d : Dv) (k n : Int) (s : ByteArray) (w : World) (hg : Glob w) (hs : s.size ≤ maxLen) :
    Calls Tryz.prog 14 #[.agg #[.int .i64 d.1, .int .i64 d.2.1, .bool d.2.2], .int .i64 k, .int .i64 n, .string s] w fun e w' => e = .returned (.string (readR d k n s)) ∧ Below w.heap.size w w' := by
  obtain ⟨o, f, i⟩ := d
  dsimp only
  have hb0 : Below w.heap.size w (w.alloc (.cells #[.int .i64 o, .int .i64 f, .bool i] 34)) := (Below.refl _ _).alloc (Nat.le_refl _) _
  have HOW := Lib.hid (OwnRow.fresh w #[.int .i64 o, .int .i64 f, .bool i] 34)
  have HG := Lib.hid (hg.below hb0)
  have HB := Lib.hid hb0
  have HT := Lib.hid (val_ValidType k n (w.alloc (.cells #[.int .i64 o, .int .i64 f, .bool i] 34)))
  have hz : w.heap.size < (w.alloc (.cells #[.int .i64 o, .int .i64 f, .bool i] 34)).heap.size := by simp
  generalize hw0 : w.alloc (.cells #[.int .i64 o, .int .i64 f, .bool i] 34) = w0 at HOW HG HB HT hz
  clear hb0 hg
  cases hv : vt k n
  · have HR := Lib.hid (show (⟨#[]⟩ : ByteArray) = readR (o, f, i) k n s by unfold readR; rw [if_pos hv])
    rw [hv] at HT
    clear hv
    go_enter Tryz.func14, Tryz.ntmps14
    go_wp2_with fail
    refine HT.out.mono ?_
    rintro e w1 ⟨rfl, hb1⟩
    go_wp2_with fail
    go_ret
    exact ⟨ret_str HR.out, ext_trans HB.out hb1⟩
  rw [hv] at HT
  by_cases ho : o = -1
  · have HR := Lib.hid (show vi k n = readR (o, f, i) k n s by unfold readR; rw [if_neg (by rw [hv]; simp), if_pos ho])
    subst ho
    clear hv
    go_enter Tryz.func14, Tryz.ntmps14
    go_wp2_with fail
    refine HT.out.mono ?_
    rintro e w1 ⟨rfl, hb1⟩
    have d0 := (HOW.out.below hb1 hz).cell (j := 0) rfl
    go_wp2_with fail
    refine (val_Initial k n _).mono ?_
    rintro e w2 ⟨rfl, hb2⟩
    go_wp2_with fail
    go_ret
    exact ⟨ret_str HR.out, ext_trans (ext_trans HB.out hb1) hb2⟩
  have hob : (o == -1) = false := by rw [beq_eq_false_iff_ne]; exact ho
  by_cases hk : k ≠ 0
  · have HR := Lib.hid (show (if vv k n s = true then s else ⟨#[]⟩) = readR (o, f, i) k n s by simp [readR, hv, ho, hk])
    have hkb : (k != 0) = true := by rw [bne_iff_ne]; exact hk
    clear hv hk
    go_enter Tryz.func14, Tryz.ntmps14
    go_wp2_with fail
    refine HT.out.mono ?_
    rintro e w1 ⟨rfl, hb1⟩
    have d0 := (HOW.out.below hb1 hz).cell (j := 0) rfl
    go_wp2_with fail
    refine (val_Valid k n s _ (HG.out.below hb1) hs).mono ?_
    rintro e w2 ⟨rfl, hb2⟩
    cases hvv : vv k n s
    · rw [if_neg (by rw [hvv]; simp)] at HR
      clear hvv
      go_wp2_with fail
      go_ret
      exact ⟨ret_str HR.out, ext_trans (ext_trans HB.out hb1) hb2⟩
    · rw [if_pos hvv] at HR
      clear hvv
      go_wp2_with fail
      go_ret
      exact ⟨ret_str HR.out, ext_trans (ext_trans HB.out hb1) hb2⟩
  obtain rfl : k = 0 := Classical.not_not.1 hk
  have HR := Lib.hid (show (if (slR s f n).2 ≠ 0 then ⟨#[]⟩ else bvX i (slR s f n).1) = readR (o, f, i) 0 n s by simp [readR, hv, ho])
  clear hv hk
  go_enter Tryz.func14, Tryz.ntmps14
  go_wp2_with fail
  refine HT.out.mono ?_
  rintro e w1 ⟨rfl, hb1⟩
  have d0 := (HOW.out.below hb1 hz).cell (j := 0) rfl
  have d1 := (HOW.out.below hb1 hz).cell (j := 1) rfl
  have hz1 : w.heap.size < w1.heap.size := by have := hb1.size; omega
  go_wp2_with fail
  refine (bits_Valid _ s _ hs).mono ?_
  rintro e w2 ⟨rfl, hb2⟩
  cases hv2 : bvIs s
  · rw [show slR s f n = (⟨#[]⟩, 1) by unfold slR; rw [if_pos hv2], if_pos (by simp)] at HR
    clear hv2
    go_wp2_with fail
    go_ret
    exact ⟨ret_str HR.out, ext_trans (ext_trans HB.out hb1) hb2⟩
  have d1 := (((HOW.out.below hb1 hz).below hb2 hz1)).cell (j := 1) rfl
  have d2 := (((HOW.out.below hb1 hz).below hb2 hz1)).cell (j := 2) rfl
  clear d0
  clear hv2
  have hz2 : w.heap.size < w2.heap.size := by have := hb2.size; omega
  go_wp2_with fail
  have hsl := slR_size s f n hs
  refine (bits_Slice s f n _ hs).mono ?_
  rintro e w3 ⟨rfl, hb3⟩
  generalize slR s f n = r at HR hsl ⊢
  obtain ⟨x, q⟩ := r
  dsimp only at HR hsl ⊢
  have d2 := (((HOW.out.below hb1 hz).below hb2 hz1).below hb3 hz2).cell (j := 2) rfl
  clear d1
  by_cases hq : q ≠ 0
  · rw [if_pos hq] at HR
    have hqb : (q != 0) = true := by rw [bne_iff_ne]; exact hq
    clear hq
    go_wp2_with fail
    go_ret
    exact ⟨ret_str HR.out, ext_trans (ext_trans (ext_trans HB.out hb1) hb2) hb3⟩
  · rw [if_neg hq] at HR
    have hqb : (q != 0) = false := by rw [bne_eq_false_iff_eq]; omega
    clear hq
    cases i
    · go_wp2_with fail
      go_ret
      exact ⟨ret_str HR.out, ext_trans (ext_trans (ext_trans HB.out hb1) hb2) hb3⟩
    · go_wp2_with fail
      refine (bits_Inverse x _ hsl).mono ?_
      rintro e w4 ⟨rfl, hb4⟩
      go_wp2_with fail
      go_ret
      exact ⟨ret_str HR.out, ext_trans (ext_trans (ext_trans (ext_trans HB.out hb1) hb2) hb3) hb4⟩
end Go.Proofs.YtimeilkelnljnaaGreatDoor
