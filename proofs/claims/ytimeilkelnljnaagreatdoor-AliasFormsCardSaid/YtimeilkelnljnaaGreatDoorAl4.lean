import Derived.Test.YtimeilkelnljnaaGreatDoorPl6
namespace Go.Proofs.YtimeilkelnljnaaGreatDoor
open Go.RowKit

/-! the plain laws of parts of signals -/
abbrev Sg := Int × Int × List Ch
abbrev Dv := Int × Int × Bool
def svS (s : Sg) : Bool := sv s.1 s.2.1 s.2.2
/-- alias.part -/
def partR (st : Sg) (fr : Int) (inv : Bool) (width : Int) : Sg × Bool :=
  if st.1 ≠ 0 then (st, true) else
  if (sliceR st.1 st.2.1 st.2.2 fr width).2 = 0 ∧ inv = true then
    ((invR (sliceR st.1 st.2.1 st.2.2 fr width).1.1 (sliceR st.1 st.2.1 st.2.2 fr width).1.2.1 (sliceR st.1 st.2.1 st.2.2 fr width).1.2.2).1,
      decide ((invR (sliceR st.1 st.2.1 st.2.2 fr width).1.1 (sliceR st.1 st.2.1 st.2.2 fr width).1.2.1 (sliceR st.1 st.2.1 st.2.2 fr width).1.2.2).2 = 0))
  else ((sliceR st.1 st.2.1 st.2.2 fr width).1, decide ((sliceR st.1 st.2.1 st.2.2 fr width).2 = 0))
def bvX (inv : Bool) (s : ByteArray) : ByteArray := if inv = true then bvInv s else s

theorem part_ok {n : Int} {l : List Ch} {fr width : Int} (inv : Bool) (h : sv 0 n l = true) (hc : SlOk n fr width) :
    ∃ p, partR (0, n, l) fr inv width = ((0, width, p), true) ∧ sv 0 width p = true ∧ p.length ≤ l.length ∧ ∀ t, val (vi 0 width) p t = bvX inv (slB fr width (val (vi 0 n) l t)) := by
  obtain ⟨p, e1, e2, e3, e4⟩ := slice_ok h hc
  unfold partR
  rw [if_neg (by simp)]
  simp only
  rw [e1]
  simp only
  cases inv
  · rw [if_neg (by simp)]
    exact ⟨p, by simp, e2, e3, fun t => by rw [e4]; rfl⟩
  · rw [if_pos (by simp)]
    obtain ⟨q, f1, f2, f3, f4⟩ := inv_ok e2
    rw [f1]
    exact ⟨q, by simp, f2, Nat.le_trans f3 e3, fun t => by rw [f4, e4]; rfl⟩
theorem part_no {n : Int} {l : List Ch} {fr width : Int} (inv : Bool) (h : sv 0 n l = true) (hc : ¬ SlOk n fr width) : (partR (0, n, l) fr inv width).2 = false := by
  have e : sliceR 0 n l fr width = ((0, 0, []), 2) := (slice_cases h).resolve_right hc
  unfold partR
  rw [if_neg (by simp)]
  simp only
  rw [e, if_neg (by rintro ⟨h, -⟩; cases h)]
  rfl
theorem part_other {st : Sg} (h : st.1 ≠ 0) (fr : Int) (inv : Bool) (width : Int) : partR st fr inv width = (st, true) := by
  unfold partR; rw [if_pos h]

/-- is a signal this part of another one -/
def hitF (st s : Sg) (inv : Bool) (fr : Nat) : Bool := (partR st fr inv s.2.1).2 && decide ((partR st fr inv s.2.1).1.2.2 = s.2.2)
theorem hit_part {st s : Sg} {inv : Bool} {fr : Nat} (h : hitF st s inv fr = true) : (partR st fr inv s.2.1).2 = true ∧ (partR st fr inv s.2.1).1.2.2 = s.2.2 := by
  unfold hitF at h
  rw [Bool.and_eq_true, decide_eq_true_iff] at h
  exact h
theorem hit_iff {n m : Int} {l q : List Ch} (h : sv 0 n l = true) (hq : sv 0 m q = true) (inv : Bool) (fr : Nat) :
    hitF (0, n, l) (0, m, q) inv fr = true ↔ SlOk n fr m ∧ ∀ t, val (vi 0 m) q t = bvX inv (slB fr m (val (vi 0 n) l t)) := by
  by_cases hc : SlOk n fr m
  · obtain ⟨p, e1, e2, -, e4⟩ := part_ok inv h hc
    unfold hitF
    simp only
    rw [e1]
    simp only [Bool.true_and, decide_eq_true_iff]
    constructor
    · rintro rfl
      exact ⟨hc, e4⟩
    · rintro ⟨-, hv⟩
      exact sv_unique (by decide) e2 hq fun t _ _ => by rw [e4, hv]
  · constructor
    · intro hh
      have := (hit_part hh).1
      rw [show (partR ((0, n, l) : Sg) fr inv ((0, m, q) : Sg).2.1).2 = false from part_no inv h hc] at this
      cases this
    · rintro ⟨hc', -⟩
      exact absurd hc' hc

theorem slB_inv {n fr m : Int} {s : ByteArray} (h : vv 0 n s = true) (hc : SlOk n fr m) : slB fr m (bvInv s) = bvInv (slB fr m s) := by
  have h2 := vv_inv h
  have h3 := vv_slB h hc
  apply ba_ext
  rw [slB_list h2 hc, bvInv_list (vv0 h3).1, slB_list h hc, bvInv_list (vv0 h).1, List.map_take, List.map_drop]
theorem slB_whole {n : Int} {s : ByteArray} (h : vv 0 n s = true) (hn : 1 ≤ n) : slB 0 n s = s := by
  apply ba_ext
  have h2 := (vv0 h).2
  rw [slB_list h ⟨by omega, hn, by omega, by omega⟩, show n.toNat - (0 : Int).toNat - n.toNat = 0 by omega, List.drop_zero, List.take_of_length_le (by rw [← ba_size]; omega)]
theorem bvX_x {n : Int} {s : ByteArray} (h : vv 0 n s = true) (a b : Bool) : bvX a (bvX b s) = bvX (a != b) s := by
  cases a <;> cases b <;> simp [bvX, bvInv_inv (vv0 h).1]
theorem slB_x {n fr m : Int} {s : ByteArray} (h : vv 0 n s = true) (hc : SlOk n fr m) (a : Bool) : slB fr m (bvX a s) = bvX a (slB fr m s) := by
  cases a
  · simp [bvX]
  · simp [bvX, slB_inv h hc]
theorem vt0 {n : Int} (h : vt 0 n = true) : 1 ≤ n ∧ n ≤ 128 := by
  unfold vt at h
  simp at h
  exact h

theorem hit_self {n : Int} {l : List Ch} (h : sv 0 n l = true) : hitF (0, n, l) (0, n, l) false 0 = true := by
  have hn := (vt0 (sv_iff.1 h).1).1
  exact (hit_iff h h false 0).2 ⟨⟨by simp, hn, by omega, by simp⟩, fun t => by
    rw [show ((0 : Nat) : Int) = 0 from rfl, slB_whole (val_vv h t) hn]; rfl⟩
theorem hit_trans {n m o : Int} {l q r : List Ch} (h : sv 0 n l = true) (hq : sv 0 m q = true) (hr : sv 0 o r = true) {i j : Bool} {f g : Nat} (h1 : hitF (0, n, l) (0, m, q) i f = true) (h2 : hitF (0, m, q) (0, o, r) j g = true) :
    hitF (0, n, l) (0, o, r) (j != i) (f + g) = true := by
  obtain ⟨c1, e1⟩ := (hit_iff h hq i f).1 h1
  obtain ⟨c2, e2⟩ := (hit_iff hq hr j g).1 h2
  have hk := fun t => slB_slB (val_vv h t) c1 c2
  refine (hit_iff h hr _ _).2 ⟨by rw [Int.natCast_add]; exact (hk 0).1, fun t => ?_⟩
  have hv := vv_slB (val_vv h t) c1
  rw [e2, e1, slB_x hv c2, (hk t).2, Int.natCast_add, bvX_x (vv_slB (val_vv h t) (hk t).1)]
theorem hit_sym {n : Int} {l q : List Ch} (h : sv 0 n l = true) (hq : sv 0 n q = true) {i : Bool} {f : Nat} (h1 : hitF (0, n, l) (0, n, q) i f = true) : hitF (0, n, q) (0, n, l) i 0 = true := by
  obtain ⟨c1, e1⟩ := (hit_iff h hq i f).1 h1
  have hn := (vt0 (sv_iff.1 h).1).1
  have hf : f = 0 := by unfold SlOk at c1; omega
  subst hf
  refine (hit_iff hq h i 0).2 ⟨c1, fun t => ?_⟩
  have hv := val_vv h t
  rw [show ((0 : Nat) : Int) = 0 from rfl] at e1 ⊢
  rw [slB_whole (val_vv hq t) hn, e1, slB_whole hv hn, bvX_x hv]
  cases i <;> rfl

/-- the first part of a stored signal that is a signal -/
def tryF (st s : Sg) (inv : Bool) : Option Nat := (List.range (st.2.1 - s.2.1 + 1).toNat).find? (hitF st s inv)
def tryD (st s : Sg) : Option (Nat × Bool) :=
  if st.1 ≠ s.1 then none
  else if s.1 ≠ 0 then (if 0 ≤ st.2.1 - s.2.1 ∧ hitF st s false 0 = true then some (0, false) else none)
  else match tryF st s false with
    | some f => some (f, false)
    | none => (tryF st s true).map fun f => (f, true)
theorem tryF_some {st s : Sg} {inv : Bool} {f : Nat} (h : tryF st s inv = some f) : hitF st s inv f = true := by
  unfold tryF at h
  exact List.find?_some h
theorem tryD_hit {st s : Sg} {f : Nat} {i : Bool} (h : tryD st s = some (f, i)) : st.1 = s.1 ∧ hitF st s i f = true ∧ (s.1 ≠ 0 → f = 0 ∧ i = false) := by
  unfold tryD at h
  split at h
  · cases h
  · rename_i hk
    have hk' : st.1 = s.1 := Classical.not_not.1 hk
    split at h
    · split at h
      · rename_i h0 h1
        injection h with h
        injection h with e1 e2
        subst e1 e2
        exact ⟨hk', h1.2, fun _ => ⟨rfl, rfl⟩⟩
      · cases h
    · rename_i h0
      refine ⟨hk', ?_, fun h' => absurd h' h0⟩
      split at h
      · rename_i g hg
        injection h with h
        injection h with e1 e2
        subst e1 e2
        exact tryF_some hg
      · cases hg : tryF st s true with
        | none => rw [hg] at h; cases h
        | some g =>
          rw [hg] at h
          injection h with h
          injection h with e1 e2
          subst e1 e2
          exact tryF_some hg
theorem tryF_ex {n m : Int} {l q : List Ch} (h : sv 0 n l = true) (hq : sv 0 m q = true) {inv : Bool} {f : Nat} (hh : hitF (0, n, l) (0, m, q) inv f = true) : (tryF (0, n, l) (0, m, q) inv).isSome = true := by
  obtain ⟨c, -⟩ := (hit_iff h hq inv f).1 hh
  unfold tryF
  rw [List.find?_isSome]
  refine ⟨f, ?_, hh⟩
  rw [List.mem_range]
  unfold SlOk at c
  simp only
  omega
/-- a signal is a part of another one -/
def Der (st s : Sg) : Prop := (tryD st s).isSome = true
theorem der_bits {n m : Int} {l q : List Ch} (h : sv 0 n l = true) (hq : sv 0 m q = true) : Der (0, n, l) (0, m, q) ↔ ∃ i f, hitF (0, n, l) (0, m, q) i f = true := by
  unfold Der
  constructor
  · intro hd
    obtain ⟨⟨f, i⟩, e⟩ := Option.isSome_iff_exists.1 hd
    exact ⟨i, f, (tryD_hit e).2.1⟩
  · rintro ⟨i, f, hh⟩
    have hs := tryF_ex h hq hh
    unfold tryD
    rw [if_neg (by simp), if_neg (by simp)]
    cases hf : tryF ((0, n, l) : Sg) (0, m, q) false with
    | some g => rfl
    | none =>
      cases i
      · rw [hf] at hs; cases hs
      · simp only [Option.isSome_map]
        exact hs
theorem vt_other {k n : Int} (h : vt k n = true) (hk : k ≠ 0) : n = 0 := by
  unfold vt at h
  simp [hk] at h
  exact h.2
theorem der_other {st s : Sg} (h : svS st = true) (hs : svS s = true) (hk : s.1 ≠ 0) : Der st s ↔ st.1 = s.1 ∧ st.2.2 = s.2.2 := by
  unfold Der tryD
  by_cases he : st.1 = s.1
  · rw [if_neg (by simp [he]), if_pos hk]
    have h0 : st.2.1 = 0 := vt_other (sv_iff.1 h).1 (by rw [he]; exact hk)
    have h1 : s.2.1 = 0 := vt_other (sv_iff.1 hs).1 hk
    have hh : hitF st s false 0 = decide (st.2.2 = s.2.2) := by
      unfold hitF
      rw [part_other (by rw [he]; exact hk)]
      simp
    rw [hh]
    by_cases hl : st.2.2 = s.2.2
    · rw [if_pos ⟨by omega, by simp [hl]⟩]
      simp [he, hl]
    · rw [if_neg (by simp [hl])]
      simp [hl]
  · rw [if_pos he]
    simp [he]
theorem svS_mk {s : Sg} (h : svS s = true) : sv s.1 s.2.1 s.2.2 = true := h
theorem der_kind {st s : Sg} (h : Der st s) : st.1 = s.1 := by
  obtain ⟨⟨f, i⟩, e⟩ := Option.isSome_iff_exists.1 h
  exact (tryD_hit e).1
theorem der_self {s : Sg} (h : svS s = true) : Der s s := by
  obtain ⟨k, n, l⟩ := s
  by_cases hk : k = 0
  · subst hk
    exact (der_bits h h).2 ⟨false, 0, hit_self h⟩
  · exact (der_other h h hk).2 ⟨rfl, rfl⟩
theorem der_trans {a b c : Sg} (ha : svS a = true) (hb : svS b = true) (hc : svS c = true) (h1 : Der a b) (h2 : Der b c) : Der a c := by
  obtain ⟨k, n, l⟩ := a
  obtain ⟨k2, n2, l2⟩ := b
  obtain ⟨k3, n3, l3⟩ := c
  obtain rfl : k = k2 := der_kind h1
  obtain rfl : k = k3 := der_kind h2
  by_cases hk : k = 0
  · subst hk
    obtain ⟨i, f, e1⟩ := (der_bits ha hb).1 h1
    obtain ⟨j, g, e2⟩ := (der_bits hb hc).1 h2
    exact (der_bits ha hc).2 ⟨_, _, hit_trans ha hb hc e1 e2⟩
  · obtain ⟨-, e1⟩ := (der_other ha hb hk).1 h1
    obtain ⟨-, e2⟩ := (der_other hb hc hk).1 h2
    exact (der_other ha hc hk).2 ⟨rfl, e1.trans e2⟩
theorem der_sym {a b : Sg} (ha : svS a = true) (hb : svS b = true) (hw : a.2.1 = b.2.1) (h : Der a b) : Der b a := by
  obtain ⟨k, n, l⟩ := a
  obtain ⟨k2, n2, l2⟩ := b
  obtain rfl : k = k2 := der_kind h
  obtain rfl : n = n2 := hw
  by_cases hk : k = 0
  · subst hk
    obtain ⟨i, f, e⟩ := (der_bits ha hb).1 h
    exact (der_bits hb ha).2 ⟨_, _, hit_sym ha hb e⟩
  · obtain ⟨-, e⟩ := (der_other ha hb hk).1 h
    exact (der_other hb ha hk).2 ⟨rfl, e.symm⟩
end Go.Proofs.YtimeilkelnljnaaGreatDoor

namespace Go.Proofs.YtimeilkelnljnaaGreatDoor
open Go.RowKit

/-! the plain laws of alias.Find -/
def sgAt (L : List Sg) (i : Nat) : Sg := L.getD i (0, 0, [])
theorem sgAt_lt {L : List Sg} {i : Nat} (h : i < L.length) : sgAt L i = L[i] := by simp [sgAt, List.getD, List.getElem?_eq_getElem h]
def mkD (k : Nat) (p : Nat × Bool) : Dv := ((k : Int), (p.1 : Int), p.2)
/-- alias.derive -/
def deriveR (L : List Sg) (st : List Nat) (s : Sg) : Option Dv :=
  if s.2.2 = [] then some (-1, 0, false) else st.findSome? fun k => (tryD (sgAt L k) s).map (mkD k)
def selfD (i : Nat) : Dv := ((i : Int), 0, false)
def stepF (L : List Sg) (σ : List Nat × List Dv) (i : Nat) : List Nat × List Dv :=
  match deriveR L σ.1 (sgAt L i) with
  | some d => (σ.1, σ.2.set i d)
  | none => (σ.1 ++ [i], σ.2.set i (selfD i))
def runF (L : List Sg) (P : List Nat) : List Nat × List Dv := P.foldl (stepF L) ([], List.replicate L.length (0, 0, false))
theorem runF_snoc (L : List Sg) (P : List Nat) (i : Nat) : runF L (P ++ [i]) = stepF L (runF L P) i := by simp [runF, List.foldl_append]
theorem stepF_len (L : List Sg) (σ : List Nat × List Dv) (i : Nat) : (stepF L σ i).2.length = σ.2.length := by
  unfold stepF
  split <;> simp
theorem stepF_sub (L : List Sg) (σ : List Nat × List Dv) (i : Nat) : (stepF L σ i).1 = σ.1 ∨ (stepF L σ i).1 = σ.1 ++ [i] := by
  unfold stepF
  split
  · exact .inl rfl
  · exact .inr rfl
theorem foldF_len (L : List Sg) : ∀ (P : List Nat) (σ : List Nat × List Dv), (P.foldl (stepF L) σ).2.length = σ.2.length
  | [], _ => rfl
  | i :: P, σ => by rw [List.foldl_cons, foldF_len L P, stepF_len]
theorem runF_len (L : List Sg) (P : List Nat) : (runF L P).2.length = L.length := by
  unfold runF; rw [foldF_len]; simp
theorem foldF_sub (L : List Sg) : ∀ (P : List Nat) (σ : List Nat × List Dv), ∃ Q, (P.foldl (stepF L) σ).1 = σ.1 ++ Q ∧ List.Sublist Q P
  | [], σ => ⟨[], by simp, List.Sublist.refl _⟩
  | i :: P, σ => by
    obtain ⟨Q, h1, h2⟩ := foldF_sub L P (stepF L σ i)
    rw [List.foldl_cons, h1]
    rcases stepF_sub L σ i with h | h
    · exact ⟨Q, by rw [h], h2.cons _⟩
    · exact ⟨i :: Q, by rw [h, List.append_assoc]; rfl, h2.cons_cons _⟩
theorem runF_sub (L : List Sg) (P : List Nat) : List.Sublist (runF L P).1 P := by
  obtain ⟨Q, h1, h2⟩ := foldF_sub L P ([], List.replicate L.length (0, 0, false))
  unfold runF
  rw [h1, List.nil_append]
  exact h2
theorem runF_app (L : List Sg) (P Q : List Nat) : runF L (P ++ Q) = Q.foldl (stepF L) (runF L P) := by simp [runF, List.foldl_append]
theorem stepF_other (L : List Sg) (σ : List Nat × List Dv) {i j : Nat} (h : i ≠ j) : (stepF L σ i).2[j]? = σ.2[j]? := by
  unfold stepF
  split <;> simp [h]
theorem foldF_other (L : List Sg) {j : Nat} : ∀ (P : List Nat) (σ : List Nat × List Dv), j ∉ P → (P.foldl (stepF L) σ).2[j]? = σ.2[j]?
  | [], _, _ => rfl
  | i :: P, σ, h => by
    rw [List.foldl_cons, foldF_other L P _ (fun h' => h (List.mem_cons_of_mem _ h')), stepF_other L σ (fun e => h (by rw [e]; exact List.mem_cons_self))]
/-- what Find notes of a signal, and when it is stored -/
theorem runF_at (L : List Sg) (P Q : List Nat) (i : Nat) (hi : i < L.length) (hP : i ∉ P) (hQ : i ∉ Q) :
    (runF L (P ++ i :: Q)).2[i]? = some ((deriveR L (runF L P).1 (sgAt L i)).getD (selfD i)) ∧
    (i ∈ (runF L (P ++ i :: Q)).1 ↔ deriveR L (runF L P).1 (sgAt L i) = none) ∧ ∃ R, (runF L (P ++ i :: Q)).1 = (runF L P).1 ++ R := by
  have hlen := runF_len L P
  rw [runF_app, List.foldl_cons, foldF_other L Q _ hQ]
  obtain ⟨R, h1, h2⟩ := foldF_sub L Q (stepF L (runF L P) i)
  have hPn : i ∉ (runF L P).1 := fun h => hP ((runF_sub L P).mem h)
  rw [h1]
  cases hd : deriveR L (runF L P).1 (sgAt L i) with
  | some d =>
    have hs : stepF L (runF L P) i = ((runF L P).1, (runF L P).2.set i d) := by unfold stepF; rw [hd]
    rw [hs]
    refine ⟨?_, ?_, R, rfl⟩
    · rw [List.getElem?_set]; simp [hlen, hi]
    · constructor
      · intro h
        rcases List.mem_append.1 h with h | h
        · exact absurd h hPn
        · exact absurd (h2.mem h) hQ
      · intro h; cases h
  | none =>
    have hs : stepF L (runF L P) i = ((runF L P).1 ++ [i], (runF L P).2.set i (selfD i)) := by unfold stepF; rw [hd]
    rw [hs]
    refine ⟨?_, ?_, [i] ++ R, by simp⟩
    · rw [List.getElem?_set]; simp [hlen, hi]
    · exact ⟨fun _ => rfl, fun _ => by simp⟩

/-- derive, found or not -/
theorem deriveR_none {L : List Sg} {st : List Nat} {s : Sg} : deriveR L st s = none ↔ s.2.2 ≠ [] ∧ ∀ k ∈ st, ¬ Der (sgAt L k) s := by
  unfold deriveR
  by_cases h : s.2.2 = []
  · rw [if_pos h]
    simp [h]
  · rw [if_neg h, List.findSome?_eq_none_iff]
    constructor
    · intro h1
      refine ⟨h, fun k hk hd => ?_⟩
      have := h1 k hk
      rw [Option.map_eq_none_iff] at this
      unfold Der at hd
      rw [this] at hd
      cases hd
    · rintro ⟨-, h1⟩ k hk
      rw [Option.map_eq_none_iff]
      have := h1 k hk
      unfold Der at this
      cases ht : tryD (sgAt L k) s with
      | none => rfl
      | some p => rw [ht] at this; exact absurd rfl this
theorem deriveR_some {L : List Sg} {st : List Nat} {s : Sg} {d : Dv} (h : deriveR L st s = some d) : (s.2.2 = [] ∧ d = (-1, 0, false)) ∨ (s.2.2 ≠ [] ∧ ∃ k ∈ st, ∃ p, tryD (sgAt L k) s = some p ∧ d = mkD k p) := by
  unfold deriveR at h
  by_cases hs : s.2.2 = []
  · rw [if_pos hs] at h
    exact .inl ⟨hs, (Option.some.inj h).symm⟩
  · rw [if_neg hs] at h
    obtain ⟨k, hk, he⟩ := List.exists_of_findSome?_eq_some h
    obtain ⟨p, hp, hd⟩ := Option.map_eq_some_iff.1 he
    exact .inr ⟨hs, k, hk, p, hp, hd.symm⟩

/-- the order of widths -/
def wlt (L : List Sg) (x y : Nat) : Bool := decide ((sgAt L y).2.1 < (sgAt L x).2.1) || (decide ((sgAt L x).2.1 = (sgAt L y).2.1) && decide (x < y))
def ordF (L : List Sg) : List Nat := (List.range L.length).mergeSort fun x y => !wlt L y x
theorem wlt_iff {L : List Sg} {x y : Nat} : wlt L x y = true ↔ (sgAt L y).2.1 < (sgAt L x).2.1 ∨ ((sgAt L x).2.1 = (sgAt L y).2.1 ∧ x < y) := by
  unfold wlt; simp
theorem ordF_perm (L : List Sg) : (ordF L).Perm (List.range L.length) := List.mergeSort_perm _ _
theorem ordF_sorted (L : List Sg) : (ordF L).Pairwise fun x y => (!wlt L y x) = true := by
  unfold ordF
  apply List.pairwise_mergeSort
  · intro a b c h1 h2
    rw [Bool.not_eq_true', ← Bool.not_eq_true, wlt_iff] at h1 h2 ⊢
    omega
  · intro a b
    rw [Bool.or_eq_true, Bool.not_eq_true', Bool.not_eq_true', ← Bool.not_eq_true, ← Bool.not_eq_true, wlt_iff, wlt_iff]
    omega
theorem ordF_nodup (L : List Sg) : (ordF L).Nodup := (ordF_perm L).nodup_iff.2 List.nodup_range
theorem ordF_mem {L : List Sg} {i : Nat} : i ∈ ordF L ↔ i < L.length := by rw [(ordF_perm L).mem_iff, List.mem_range]
/-- an earlier one in the order is not narrower -/
theorem ordF_before {L : List Sg} {P Q : List Nat} {i : Nat} (h : ordF L = P ++ i :: Q) : (∀ j ∈ P, wlt L j i = true) ∧ (∀ j ∈ Q, wlt L i j = true) ∧ i ∉ P ∧ i ∉ Q ∧ i < L.length := by
  have hs := ordF_sorted L
  have hn := ordF_nodup L
  have hi : i < L.length := ordF_mem.1 (by rw [h]; simp)
  rw [h] at hs hn
  rw [List.pairwise_append] at hs
  rw [List.nodup_append] at hn
  obtain ⟨-, hs2, hs3⟩ := hs
  obtain ⟨-, hn2, hn3⟩ := hn
  have hP : i ∉ P := fun hp => hn3 i hp i List.mem_cons_self rfl
  have hQ : i ∉ Q := (List.nodup_cons.1 hn2).1
  refine ⟨fun j hj => ?_, fun j hj => ?_, hP, hQ, hi⟩
  · have := hs3 j hj i List.mem_cons_self
    have hne : j ≠ i := fun e => hP (e ▸ hj)
    rw [Bool.not_eq_true', ← Bool.not_eq_true, wlt_iff] at this
    rw [wlt_iff]
    omega
  · have := (List.pairwise_cons.1 hs2).1 j hj
    have hne : j ≠ i := fun e => hQ (e ▸ hj)
    rw [Bool.not_eq_true', ← Bool.not_eq_true, wlt_iff] at this
    rw [wlt_iff]
    omega

/-- all signals are valid -/
def AllV (L : List Sg) : Prop := ∀ i, i < L.length → svS (sgAt L i) = true
def keptF (L : List Sg) : List Nat := (runF L (ordF L)).1
theorem kept_lt {L : List Sg} {i : Nat} (h : i ∈ keptF L) : i < L.length := ordF_mem.1 ((runF_sub L _).mem h)
theorem kept_nodup (L : List Sg) : (keptF L).Nodup := (runF_sub L _).nodup (ordF_nodup L)
theorem ordF_split {L : List Sg} {i : Nat} (h : i < L.length) : ∃ P Q, ordF L = P ++ i :: Q := List.append_of_mem (ordF_mem.2 h)
theorem kept_split {L : List Sg} {P Q : List Nat} {i : Nat} (h : ordF L = P ++ i :: Q) :
    (runF L (ordF L)).2[i]? = some ((deriveR L (runF L P).1 (sgAt L i)).getD (selfD i)) ∧ (i ∈ keptF L ↔ deriveR L (runF L P).1 (sgAt L i) = none) ∧ (∀ k ∈ (runF L P).1, k ∈ keptF L) ∧ ∀ k ∈ keptF L, k ∈ P → k ∈ (runF L P).1 := by
  obtain ⟨-, -, h3, h4, h5⟩ := ordF_before h
  obtain ⟨e1, e2, R, e3⟩ := runF_at L P Q i h5 h3 h4
  have hn := kept_nodup L
  unfold keptF at hn ⊢
  rw [h]
  refine ⟨e1, e2, fun k hk => by rw [e3]; exact List.mem_append_left _ hk, fun k hk hp => ?_⟩
  obtain ⟨S, f1, f2⟩ := foldF_sub L (i :: Q) (runF L P)
  rw [runF_app, f1] at hk
  rcases List.mem_append.1 hk with hk | hk
  · exact hk
  · have hno := ordF_nodup L
    rw [h, List.nodup_append] at hno
    exact absurd rfl (hno.2.2 k hp k (f2.mem hk))
theorem der_width {a b : Sg} (ha : svS a = true) (hb : svS b = true) (h : Der a b) : b.2.1 ≤ a.2.1 := by
  obtain ⟨k, n, l⟩ := a
  obtain ⟨k2, n2, l2⟩ := b
  obtain rfl : k = k2 := der_kind h
  by_cases hk : k = 0
  · subst hk
    obtain ⟨i, f, e⟩ := (der_bits ha hb).1 h
    obtain ⟨c, -⟩ := (hit_iff ha hb i f).1 e
    have c' : SlOk n f n2 := c
    unfold SlOk at c'
    show n2 ≤ n
    omega
  · have h1 : n = 0 := vt_other (sv_iff.1 ha).1 hk
    have h2 : n2 = 0 := vt_other (sv_iff.1 hb).1 hk
    show n2 ≤ n
    omega
theorem der_empty {a b : Sg} (ha : svS a = true) (hb : svS b = true) (h : Der a b) (he : a.2.2 = []) : b.2.2 = [] := by
  obtain ⟨k, n, l⟩ := a
  obtain ⟨k2, n2, l2⟩ := b
  obtain rfl : k = k2 := der_kind h
  obtain rfl : l = [] := he
  by_cases hk : k = 0
  · subst hk
    obtain ⟨i, f, e⟩ := (der_bits ha hb).1 h
    obtain ⟨c, hv⟩ := (hit_iff ha hb i f).1 e
    have hvt := (sv_iff.1 ha).1
    have hvt2 := (sv_iff.1 hb).1
    refine sv_unique (k := 0) (n := n2) (by decide) hb (sv_iff.2 ⟨hvt2, by simp, rfl⟩) fun t _ _ => ?_
    rw [hv]
    show bvX i (slB f n2 (vi 0 n)) = vi 0 n2
    rw [(slB_vi hvt c).2]
    cases i
    · rfl
    · exact inv_vi hvt2
  · exact ((der_other ha hb hk).1 h).2.symm
/-- each signal that changes is a part of a stored one -/
theorem kept_base {L : List Sg} {i : Nat} (hc : (sgAt L i).2.2 ≠ []) {P Q : List Nat} (h : ordF L = P ++ i :: Q) : i ∈ keptF L ∨ ∃ k ∈ (runF L P).1, Der (sgAt L k) (sgAt L i) := by
  obtain ⟨-, e2, -, -⟩ := kept_split h
  cases hd : deriveR L (runF L P).1 (sgAt L i) with
  | none => exact .inl (e2.2 hd)
  | some d =>
    rcases deriveR_some hd with ⟨h1, -⟩ | ⟨-, k, hk, p, hp, -⟩
    · exact absurd h1 hc
    · exact .inr ⟨k, hk, by unfold Der; rw [hp]; rfl⟩
/-- no stored signal is a part of another one -/
theorem kept_min {L : List Sg} (hv : AllV L) {i k : Nat} (hi : i ∈ keptF L) (hk : k ∈ keptF L) (hne : i ≠ k) : ¬ Der (sgAt L k) (sgAt L i) := by
  have early : ∀ {a b : Nat}, a ∈ keptF L → b ∈ keptF L → (∃ P Q, ordF L = P ++ a :: Q ∧ b ∈ P) → ¬ Der (sgAt L b) (sgAt L a) := by
    rintro a b ha hb ⟨P, Q, h, hp⟩
    obtain ⟨-, e2, -, e4⟩ := kept_split h
    exact (deriveR_none.1 (e2.1 ha)).2 b (e4 b hb hp)
  have split : ∀ {a b : Nat}, a < L.length → b < L.length → a ≠ b → (∃ P Q, ordF L = P ++ a :: Q ∧ b ∈ P) ∨ wlt L a b = true := by
    intro a b ha hb hab
    obtain ⟨P, Q, h⟩ := ordF_split ha
    obtain ⟨-, h2, -, -, -⟩ := ordF_before h
    have hm : b ∈ ordF L := ordF_mem.2 hb
    rw [h] at hm
    rcases List.mem_append.1 hm with hm | hm
    · exact .inl ⟨P, Q, h, hm⟩
    · rcases List.mem_cons.1 hm with hm | hm
      · exact absurd hm.symm hab
      · exact .inr (h2 b hm)
  have hil := kept_lt hi
  have hkl := kept_lt hk
  rcases split hil hkl hne with h | h
  · exact early hi hk h
  · intro hd
    have hw := der_width (hv k hkl) (hv i hil) hd
    rw [wlt_iff] at h
    have he : (sgAt L k).2.1 = (sgAt L i).2.1 := by omega
    have hd2 := der_sym (hv k hkl) (hv i hil) he hd
    rcases split hkl hil (Ne.symm hne) with h' | h'
    · exact early hk hi h' hd2
    · rw [wlt_iff] at h'
      omega
end Go.Proofs.YtimeilkelnljnaaGreatDoor

namespace Go.Proofs.YtimeilkelnljnaaGreatDoor
open Go.RowKit

/-! the plain laws of what alias.Find returns -/
def storedR (L : List Sg) : List Nat := (keptF L).mergeSort fun x y => decide (x ≤ y)
def renum (st : List Nat) (d : Dv) : Dv := if d.1 = -1 then d else (((st.idxOf d.1.toNat : Nat) : Int), d.2.1, d.2.2)
def dersR (L : List Sg) : List Dv := (runF L (ordF L)).2.map (renum (storedR L))
def findR (L : List Sg) : List Nat × List Dv := if L.all svS = true then (storedR L, dersR L) else ([], [])
theorem sv_width {s : Sg} (h : svS s = true) : 0 ≤ s.2.1 ∧ s.2.1 ≤ 128 := by
  have hv := (sv_iff.1 h).1
  by_cases h0 : s.1 = 0
  · rw [h0] at hv
    have := vt0 hv
    omega
  · have := vt_other hv h0
    omega
theorem stored_perm (L : List Sg) : (storedR L).Perm (keptF L) := List.mergeSort_perm _ _
theorem stored_mem {L : List Sg} {i : Nat} : i ∈ storedR L ↔ i ∈ keptF L := (stored_perm L).mem_iff
theorem stored_nodup (L : List Sg) : (storedR L).Nodup := (stored_perm L).nodup_iff.2 (kept_nodup L)
theorem stored_lt {L : List Sg} {i : Nat} (h : i ∈ storedR L) : i < L.length := kept_lt (stored_mem.1 h)
theorem stored_sorted (L : List Sg) : (storedR L).Pairwise fun x y => x < y := by
  have h1 : (storedR L).Pairwise fun x y => decide (x ≤ y) = true := by
    unfold storedR
    apply List.pairwise_mergeSort
    · intro a b c h1 h2
      rw [decide_eq_true_iff] at h1 h2 ⊢
      omega
    · intro a b
      rw [Bool.or_eq_true, decide_eq_true_iff, decide_eq_true_iff]
      omega
  refine List.Pairwise.imp₂ ?_ h1 (stored_nodup L)
  intro a b h1 h2
  rw [decide_eq_true_iff] at h1
  omega
theorem allV_of {L : List Sg} (h : L.all svS = true) : AllV L := fun i hi => by
  rw [sgAt_lt hi]
  exact List.all_eq_true.1 h _ (List.getElem_mem hi)
theorem ders_len (L : List Sg) : (dersR L).length = L.length := by simp [dersR, runF_len]
theorem tryD_self {s : Sg} (h : svS s = true) : tryD s s = some (0, false) := by
  obtain ⟨k, n, l⟩ := s
  unfold tryD
  rw [if_neg (by simp)]
  by_cases hk : k = 0
  · subst hk
    rw [if_neg (by simp)]
    have hf : tryF ((0, n, l) : Sg) (0, n, l) false = some 0 := by
      unfold tryF
      show (List.range (n - n + 1).toNat).find? _ = some 0
      rw [show (n - n + 1).toNat = 1 by omega]
      have := hit_self (n := n) (l := l) h
      simp [List.range_succ, this]
    rw [hf]
  · rw [if_pos hk, if_pos]
    refine ⟨by show 0 ≤ n - n; omega, ?_⟩
    unfold hitF
    rw [part_other hk]
    simp
theorem idx_at {l : List Nat} {k : Nat} (h : k ∈ l) : l[l.idxOf k]? = some k := by
  have := List.idxOf_lt_length_of_mem h
  rw [List.getElem?_eq_getElem this, List.getElem_idxOf this]
theorem renum_mk (st : List Nat) (k : Nat) (p : Nat × Bool) : renum st (mkD k p) = mkD (st.idxOf k) p := by
  unfold renum mkD
  rw [if_neg (by simp only; omega)]
  simp
/-- what Find notes of a signal -/
theorem find_at {L : List Sg} (hv : AllV L) {i : Nat} (hi : i < L.length) :
    ((sgAt L i).2.2 = [] ∧ i ∉ storedR L ∧ (dersR L)[i]? = some (-1, 0, false)) ∨
    ((sgAt L i).2.2 ≠ [] ∧ ∃ j k p, (storedR L)[j]? = some k ∧ (dersR L)[i]? = some (mkD j p) ∧ tryD (sgAt L k) (sgAt L i) = some p ∧ (i ∈ storedR L → k = i ∧ p = (0, false))) := by
  obtain ⟨P, Q, h⟩ := ordF_split hi
  obtain ⟨e1, e2, e3, e4⟩ := kept_split h
  have e5 : (dersR L)[i]? = some (renum (storedR L) ((deriveR L (runF L P).1 (sgAt L i)).getD (selfD i))) := by
    unfold dersR
    rw [List.getElem?_map, e1]; rfl
  rw [e5]
  cases hd : deriveR L (runF L P).1 (sgAt L i) with
  | none =>
    have hs : i ∈ storedR L := stored_mem.2 (e2.2 hd)
    refine .inr ⟨(deriveR_none.1 hd).1, (storedR L).idxOf i, i, (0, false), idx_at hs, ?_, tryD_self (hv i hi), fun _ => ⟨rfl, rfl⟩⟩
    show some (renum (storedR L) (mkD i (0, false))) = _
    rw [renum_mk]
  | some d =>
    have hn : i ∉ storedR L := fun hs => by
      have := e2.1 (stored_mem.1 hs)
      rw [hd] at this; cases this
    rcases deriveR_some hd with ⟨h1, rfl⟩ | ⟨h1, k, hk, p, hp, rfl⟩
    · exact .inl ⟨h1, hn, rfl⟩
    · refine .inr ⟨h1, (storedR L).idxOf k, k, p, idx_at (stored_mem.2 (e3 k hk)), ?_, hp, fun hs => absurd hs hn⟩
      show some (renum (storedR L) (mkD k p)) = _
      rw [renum_mk]

theorem run_at {L : List Sg} {i : Nat} (hi : i < L.length) : ∃ d, (runF L (ordF L)).2[i]? = some d ∧
    ((d = (-1, 0, false) ∧ (sgAt L i).2.2 = [] ∧ i ∉ keptF L) ∨ (∃ k p, d = mkD k p ∧ k ∈ keptF L ∧ (sgAt L i).2.2 ≠ [] ∧ (i ∈ keptF L ↔ d = selfD i))) := by
  obtain ⟨P, Q, h⟩ := ordF_split hi
  obtain ⟨e1, e2, e3, e4⟩ := kept_split h
  obtain ⟨-, -, hP, -, -⟩ := ordF_before h
  refine ⟨_, e1, ?_⟩
  cases hd : deriveR L (runF L P).1 (sgAt L i) with
  | none =>
    have hs := e2.2 hd
    exact .inr ⟨i, (0, false), rfl, hs, (deriveR_none.1 hd).1, fun _ => rfl, fun _ => hs⟩
  | some d =>
    have hn : i ∉ keptF L := fun hs => by
      have := e2.1 hs
      rw [hd] at this; cases this
    rcases deriveR_some hd with ⟨h1, rfl⟩ | ⟨h1, k, hk, p, hp, rfl⟩
    · exact .inl ⟨rfl, h1, hn⟩
    · refine .inr ⟨k, p, rfl, e3 k hk, h1, fun h => absurd h hn, fun h => ?_⟩
      exfalso
      have h2 : ((k : Int), (p.1 : Int), p.2) = ((i : Int), 0, false) := h
      have h3 := congrArg Prod.fst h2
      dsimp only at h3
      obtain rfl : k = i := by omega
      exact hP ((runF_sub L P).mem hk)
/-- what Find notes is a stored one or none -/
theorem find_mem (L : List Sg) : ∀ d ∈ (runF L (ordF L)).2, d.1 = -1 ∨ ∃ k : Nat, d.1 = (k : Int) ∧ k ∈ storedR L := by
  intro d hd
  obtain ⟨i, hi, rfl⟩ := List.getElem_of_mem hd
  rw [runF_len] at hi
  obtain ⟨d, e1, e2⟩ := run_at (L := L) hi
  rw [List.getElem?_eq_getElem (by rw [runF_len]; exact hi)] at e1
  rw [Option.some.inj e1]
  rcases e2 with ⟨rfl, -, -⟩ | ⟨k, p, rfl, h, -, -⟩
  · exact .inl rfl
  · exact .inr ⟨k, rfl, stored_mem.2 h⟩
theorem find_len8 (L : List Sg) : (keptF L).length ≤ L.length := by
  have := (runF_sub L (ordF L)).length_le
  rw [(ordF_perm L).length_eq, List.length_range] at this
  exact this
/-- are derivations valid -/
def fitsR (s : Sg) (st : List Sg) (d : Dv) : Bool :=
  if d.1 < -1 ∨ (st.length : Int) ≤ d.1 then false
  else if d.1 ≠ -1 ∧ (sgAt st d.1.toNat).1 ≠ s.1 then false
  else if d.1 = -1 ∨ s.1 ≠ 0 then decide (d.2.1 = 0) && !d.2.2
  else decide (0 ≤ d.2.1) && decide (d.2.1 ≤ (sgAt st d.1.toNat).2.1 - s.2.1)
def tyS (s : Sg) : Bool := vt s.1 s.2.1
def validR (l st : List Sg) (d : List Dv) : Bool :=
  decide (l.length ≤ 64) && decide (st.length ≤ 64) && decide (d.length = l.length) && l.all tyS && st.all tyS && (l.zip d).all fun p => fitsR p.1 st p.2
theorem valid_parts {l st : List Sg} {d : List Dv} (h : validR l st d = true) : l.length ≤ 64 ∧ st.length ≤ 64 ∧ d.length = l.length ∧ ∀ (i : Nat) s e, l[i]? = some s → d[i]? = some e → fitsR s st e = true := by
  unfold validR at h
  rw [Bool.and_eq_true, Bool.and_eq_true, Bool.and_eq_true, Bool.and_eq_true, Bool.and_eq_true, decide_eq_true_iff, decide_eq_true_iff, decide_eq_true_iff, List.all_eq_true, List.all_eq_true, List.all_eq_true] at h
  obtain ⟨⟨⟨⟨⟨h1, h2⟩, h3⟩, -⟩, -⟩, h6⟩ := h
  refine ⟨h1, h2, h3, fun i s e hs he => ?_⟩
  exact h6 (s, e) (List.mem_iff_getElem?.2 ⟨i, by rw [List.getElem?_zip_eq_some]; exact ⟨hs, he⟩⟩)
def restE (st : List Sg) (s : Sg) (d : Dv) : Sg := (s.1, s.2.1, if d.1 = -1 then [] else (partR (sgAt st d.1.toNat) d.2.1 d.2.2 s.2.1).1.2.2)
def restR (l st : List Sg) (d : List Dv) : List Sg × Int := if st.all svS = true ∧ validR l st d = true then ((l.zip d).map (fun p => restE st p.1 p.2), 0) else ([], 1)
theorem ty_width {s : Sg} (h : tyS s = true) : 0 ≤ s.2.1 ∧ s.2.1 ≤ 128 := by
  have hv : vt s.1 s.2.1 = true := h
  by_cases h0 : s.1 = 0
  · rw [h0] at hv
    have := vt0 hv
    omega
  · have := vt_other hv h0
    omega
theorem sv_ty {s : Sg} (h : svS s = true) : tyS s = true := (sv_iff.1 h).1
def baseR (L : List Sg) : List Sg := (storedR L).map (sgAt L)
theorem base_at {L : List Sg} {j k : Nat} (h : (storedR L)[j]? = some k) : sgAt (baseR L) j = sgAt L k := by
  unfold sgAt baseR
  rw [List.getD, List.getElem?_map, h]; rfl
theorem base_sv {L : List Sg} (hv : AllV L) : (baseR L).all svS = true := by
  rw [List.all_eq_true]
  intro x hx
  obtain ⟨k, hk, rfl⟩ := List.mem_map.1 hx
  exact hv k (stored_lt hk)
theorem base_len (L : List Sg) : (baseR L).length ≤ L.length := by
  unfold baseR
  rw [List.length_map, (stored_perm L).length_eq]
  have := (runF_sub L (ordF L)).length_le
  rw [(ordF_perm L).length_eq, List.length_range] at this
  exact this
theorem zip_at {α β : Type} {l : List α} {d : List β} {p : α × β} (h : p ∈ l.zip d) : ∃ i : Nat, l[i]? = some p.1 ∧ d[i]? = some p.2 := by
  obtain ⟨i, hi⟩ := List.mem_iff_getElem?.1 h
  rw [List.getElem?_zip_eq_some] at hi
  exact ⟨i, hi⟩
theorem sgAt_some {L : List Sg} {i : Nat} {s : Sg} (h : L[i]? = some s) : sgAt L i = s ∧ i < L.length := by
  obtain ⟨h1, h2⟩ := List.getElem?_eq_some_iff.1 h
  exact ⟨by rw [sgAt_lt h1, h2], h1⟩
theorem find_fits {L : List Sg} (hv : AllV L) {i : Nat} {s : Sg} {d : Dv} (hs : L[i]? = some s) (hd : (dersR L)[i]? = some d) : fitsR s (baseR L) d = true ∧ restE (baseR L) s d = s := by
  obtain ⟨rfl, hi⟩ := sgAt_some hs
  have hsv := hv i hi
  rcases find_at hv hi with ⟨h1, h2, h3⟩ | ⟨h1, j, k, p, h2, h3, h4, h5⟩
  · rw [hd] at h3
    obtain rfl := Option.some.inj h3
    refine ⟨?_, ?_⟩
    · unfold fitsR
      dsimp only
      rw [if_neg (by omega), if_neg (by simp), if_pos (.inl rfl)]
      rfl
    · unfold restE
      rw [if_pos rfl, ← h1]
  · rw [hd] at h3
    obtain rfl := Option.some.inj h3
    have hjl : j < (baseR L).length := by
      unfold baseR
      rw [List.length_map]
      exact (List.getElem?_eq_some_iff.1 h2).1
    have hkl := stored_lt (List.mem_of_getElem? h2)
    have hkv := hv k hkl
    obtain ⟨f, inv⟩ := p
    obtain ⟨t1, t2, t3⟩ := tryD_hit h4
    have e1 : sgAt (baseR L) (((j : Nat) : Int)).toNat = sgAt L k := by rw [Int.toNat_natCast, base_at h2]
    generalize sgAt L k = a at t1 t2 hkv h4 e1
    generalize sgAt L i = b at t1 t2 t3 hsv h1 h4
    obtain ⟨k1, n1, l1⟩ := a
    obtain ⟨k2, n2, l2⟩ := b
    obtain rfl : k1 = k2 := t1
    have hh := (hit_part t2).2
    refine ⟨?_, ?_⟩
    · unfold fitsR mkD
      dsimp only
      rw [e1, if_neg (by omega), if_neg (by rintro ⟨-, h⟩; exact h rfl)]
      by_cases hk : k1 = 0
      · subst hk
        rw [if_neg (by rintro (h | h)
                       · omega
                       · exact h rfl)]
        obtain ⟨c, -⟩ := (hit_iff hkv hsv inv f).1 t2
        have c' : 0 ≤ (f : Int) ∧ 1 ≤ n2 ∧ n2 ≤ n1 ∧ (f : Int) ≤ n1 - n2 := c
        rw [Bool.and_eq_true, decide_eq_true_iff, decide_eq_true_iff]
        show (0 : Int) ≤ f ∧ (f : Int) ≤ n1 - n2
        omega
      · obtain ⟨rfl, rfl⟩ := t3 hk
        rw [if_pos (.inr hk)]
        rfl
    · unfold restE mkD
      dsimp only
      rw [e1, if_neg (by omega)]
      show ((k1, n2, (partR (k1, n1, l1) (f : Int) inv n2).1.2.2) : Sg) = (k1, n2, l2)
      rw [show (partR (k1, n1, l1) (f : Int) inv n2).1.2.2 = l2 from hh]
theorem find_valid {L : List Sg} (hv : AllV L) (hl : L.length ≤ 64) : validR L (baseR L) (dersR L) = true := by
  have hb := base_len L
  unfold validR
  rw [Bool.and_eq_true, Bool.and_eq_true, Bool.and_eq_true, Bool.and_eq_true, Bool.and_eq_true, decide_eq_true_iff, decide_eq_true_iff, decide_eq_true_iff, List.all_eq_true, List.all_eq_true, List.all_eq_true]
  refine ⟨⟨⟨⟨⟨hl, by omega⟩, ders_len L⟩, fun x hx => ?_⟩, fun x hx => sv_ty (List.all_eq_true.1 (base_sv hv) x hx)⟩, fun p hp => ?_⟩
  · obtain ⟨i, hi, rfl⟩ := List.getElem_of_mem hx
    have := hv i hi
    rw [sgAt_lt hi] at this
    exact sv_ty this
  · obtain ⟨i, h1, h2⟩ := zip_at hp
    exact (find_fits hv h1 h2).1
theorem find_rest {L : List Sg} (hv : AllV L) (hl : L.length ≤ 64) : restR L (baseR L) (dersR L) = (L, 0) := by
  unfold restR
  rw [if_pos ⟨base_sv hv, find_valid hv hl⟩]
  refine Prod.ext ?_ rfl
  show (L.zip (dersR L)).map (fun p => restE (baseR L) p.1 p.2) = L
  apply List.ext_getElem?
  intro i
  rw [List.getElem?_map]
  by_cases hi : i < L.length
  · have h1 : L[i]? = some L[i] := List.getElem?_eq_getElem hi
    have hi2 : i < (dersR L).length := by rw [ders_len]; exact hi
    have h2 : (dersR L)[i]? = some (dersR L)[i] := List.getElem?_eq_getElem hi2
    have h3 : (L.zip (dersR L))[i]? = some (L[i], (dersR L)[i]) := by
      rw [List.getElem?_zip_eq_some]
      exact ⟨h1, h2⟩
    rw [h3, h1]
    exact congrArg some (find_fits hv h1 h2).2
  · rw [List.getElem?_eq_none (show (L.zip (dersR L)).length ≤ i by rw [List.length_zip]; omega), List.getElem?_eq_none (show L.length ≤ i by omega)]
    rfl
/-- stored signals have their own numbers -/
theorem find_own {L : List Sg} (hv : AllV L) {j i : Nat} (h : (storedR L)[j]? = some i) : (dersR L)[i]? = some ((j : Int), 0, false) := by
  have hm := List.mem_of_getElem? h
  rcases find_at hv (stored_lt hm) with ⟨-, h2, -⟩ | ⟨-, j2, k, p, h2, h3, -, h5⟩
  · exact absurd hm h2
  · obtain ⟨rfl, rfl⟩ := h5 hm
    obtain ⟨a1, a2⟩ := List.getElem?_eq_some_iff.1 h
    obtain ⟨b1, b2⟩ := List.getElem?_eq_some_iff.1 h2
    have : j = j2 := (List.getElem_inj (h₀ := a1) (h₁ := b1) (stored_nodup L)).1 (a2.trans b2.symm)
    subst this
    exact h3
theorem find_minus {L : List Sg} (hv : AllV L) {i : Nat} {s : Sg} {d : Dv} (hs : L[i]? = some s) (hd : (dersR L)[i]? = some d) : d.1 = -1 ↔ s.2.2 = [] := by
  obtain ⟨rfl, hi⟩ := sgAt_some hs
  rcases find_at hv hi with ⟨h1, -, h3⟩ | ⟨h1, j, k, p, h2, h3, -, -⟩
  · rw [hd] at h3
    obtain rfl := Option.some.inj h3
    exact ⟨fun _ => h1, fun _ => rfl⟩
  · rw [hd] at h3
    obtain rfl := Option.some.inj h3
    exact ⟨fun h => by unfold mkD at h; simp only at h; omega, fun h => absurd h h1⟩

/-- no stored signal is a part of another one -/
theorem find_min {L : List Sg} (hv : AllV L) {i k : Nat} (hi : i ∈ storedR L) (hk : k ∈ storedR L) (hne : i ≠ k) : sgAt L i ≠ sgAt L k ∧
    ∀ fr : Nat, (sgAt L i).1 = (sgAt L k).1 → (sliceR (sgAt L k).1 (sgAt L k).2.1 (sgAt L k).2.2 fr (sgAt L i).2.1).2 = 0 →
      sgAt L i ≠ (sliceR (sgAt L k).1 (sgAt L k).2.1 (sgAt L k).2.2 fr (sgAt L i).2.1).1 ∧
      ((invR (sliceR (sgAt L k).1 (sgAt L k).2.1 (sgAt L k).2.2 fr (sgAt L i).2.1).1.1 (sliceR (sgAt L k).1 (sgAt L k).2.1 (sgAt L k).2.2 fr (sgAt L i).2.1).1.2.1 (sliceR (sgAt L k).1 (sgAt L k).2.1 (sgAt L k).2.2 fr (sgAt L i).2.1).1.2.2).2 = 0 →
        sgAt L i ≠ (invR (sliceR (sgAt L k).1 (sgAt L k).2.1 (sgAt L k).2.2 fr (sgAt L i).2.1).1.1 (sliceR (sgAt L k).1 (sgAt L k).2.1 (sgAt L k).2.2 fr (sgAt L i).2.1).1.2.1 (sliceR (sgAt L k).1 (sgAt L k).2.1 (sgAt L k).2.2 fr (sgAt L i).2.1).1.2.2).1) := by
  have hm := kept_min hv (stored_mem.1 hi) (stored_mem.1 hk) hne
  have hiv := hv i (stored_lt hi)
  have hkv := hv k (stored_lt hk)
  generalize sgAt L i = a at hm hiv
  generalize sgAt L k = b at hm hkv
  refine ⟨fun e => hm (e ▸ der_self hiv), fun fr he h0 => ?_⟩
  obtain ⟨k1, n1, l1⟩ := a
  obtain ⟨k2, n2, l2⟩ := b
  obtain rfl : k1 = k2 := he
  dsimp only at h0 ⊢
  by_cases hz : k1 = 0
  · subst hz
    have hp : ∀ inv, hitF (0, n2, l2) (0, n1, l1) inv fr = false := fun inv => by
      cases hh : hitF (0, n2, l2) (0, n1, l1) inv fr with
      | false => rfl
      | true => exact absurd ((der_bits hkv hiv).2 ⟨inv, fr, hh⟩) hm
    have hf := hp false
    have ht := hp true
    unfold hitF partR at hf ht
    dsimp only at hf ht
    rw [if_neg (by simp)] at hf ht
    rw [if_neg (by simp)] at hf
    rw [if_pos ⟨h0, rfl⟩] at ht
    generalize sliceR 0 n2 l2 (fr : Int) n1 = x at h0 hf ht ⊢
    refine ⟨fun e => ?_, fun h1 e => ?_⟩
    · rw [← e] at hf
      simp [h0] at hf
    · rw [← e] at ht
      simp [h1] at ht
  · exfalso
    unfold sliceR at h0
    rw [if_neg (by rw [show sv k1 n2 l2 = true from hkv]; simp), if_pos hz] at h0
    cases h0

/-- what the stored signals are to each other -/
def MinP (B : List Sg) : Prop := ∀ (i k : Nat) a b, B[i]? = some a → B[k]? = some b → i ≠ k → a ≠ b ∧
    ∀ fr : Nat, a.1 = b.1 → (sliceR b.1 b.2.1 b.2.2 fr a.2.1).2 = 0 → a ≠ (sliceR b.1 b.2.1 b.2.2 fr a.2.1).1 ∧
      ((invR (sliceR b.1 b.2.1 b.2.2 fr a.2.1).1.1 (sliceR b.1 b.2.1 b.2.2 fr a.2.1).1.2.1 (sliceR b.1 b.2.1 b.2.2 fr a.2.1).1.2.2).2 = 0 →
        a ≠ (invR (sliceR b.1 b.2.1 b.2.2 fr a.2.1).1.1 (sliceR b.1 b.2.1 b.2.2 fr a.2.1).1.2.1 (sliceR b.1 b.2.1 b.2.2 fr a.2.1).1.2.2).1)
theorem find_in (L : List Sg) : (∀ k ∈ (findR L).1, k < L.length) ∧ (findR L).1.length ≤ L.length := by
  unfold findR
  split
  · refine ⟨fun k hk => stored_lt hk, ?_⟩
    have := base_len L
    unfold baseR at this
    rwa [List.length_map] at this
  · exact ⟨by simp, by simp⟩
theorem find_minP (L : List Sg) : MinP ((findR L).1.map (sgAt L)) ∧ ∀ s ∈ (findR L).1.map (sgAt L), svS s = true := by
  unfold findR
  split
  · rename_i h
    have hv := allV_of h
    refine ⟨fun i k a b ha hb hne => ?_, fun s hs => ?_⟩
    · dsimp only at ha hb
      rw [List.getElem?_map] at ha hb
      obtain ⟨x, hx, rfl⟩ := Option.map_eq_some_iff.1 ha
      obtain ⟨y, hy, rfl⟩ := Option.map_eq_some_iff.1 hb
      refine find_min hv (List.mem_of_getElem? hx) (List.mem_of_getElem? hy) fun e => hne ?_
      subst e
      obtain ⟨a1, a2⟩ := List.getElem?_eq_some_iff.1 hx
      obtain ⟨b1, b2⟩ := List.getElem?_eq_some_iff.1 hy
      exact (List.getElem_inj (h₀ := a1) (h₁ := b1) (stored_nodup L)).1 (a2.trans b2.symm)
    · obtain ⟨k, hk, rfl⟩ := List.mem_map.1 hs
      exact hv k (stored_lt hk)
  · exact ⟨fun i k a b ha => by simp at ha, by simp⟩

/-- a further part of a signal changes nothing that is stored -/
theorem sgAt_app {L : List Sg} {x : Sg} {i : Nat} (h : i < L.length) : sgAt (L ++ [x]) i = sgAt L i := by
  rw [sgAt_lt (by simp; omega), sgAt_lt h, List.getElem_append_left h]
theorem sgAt_last {L : List Sg} {x : Sg} : sgAt (L ++ [x]) L.length = x := by
  rw [sgAt_lt (by simp)]; simp
theorem wlt_app {L : List Sg} {x : Sg} {i j : Nat} (hi : i < L.length) (hj : j < L.length) : wlt (L ++ [x]) i j = wlt L i j := by
  unfold wlt; rw [sgAt_app hi, sgAt_app hj]
theorem ordF_app (L : List Sg) (x : Sg) : ∃ P Q, ordF (L ++ [x]) = P ++ L.length :: Q ∧ ordF L = P ++ Q := by
  obtain ⟨P, Q, h⟩ := ordF_split (L := L ++ [x]) (i := L.length) (by simp)
  refine ⟨P, Q, h, ?_⟩
  have hp := ordF_perm (L ++ [x])
  rw [h, List.length_append, List.length_singleton, List.range_succ] at hp
  have hp2 : (P ++ Q).Perm (List.range L.length) := by
    have a1 : (L.length :: (P ++ Q)).Perm (P ++ L.length :: Q) := List.perm_middle.symm
    have a2 : (List.range L.length ++ [L.length]).Perm (L.length :: List.range L.length) := List.perm_append_singleton _ _
    exact ((a1.trans hp).trans a2).cons_inv
  have hlt : ∀ j ∈ P ++ Q, j < L.length := fun j hj => List.mem_range.1 (hp2.mem_iff.1 hj)
  have hs := ordF_sorted (L ++ [x])
  rw [h] at hs
  have hs2 : (P ++ Q).Pairwise fun i j => (!wlt (L ++ [x]) j i) = true := by
    refine hs.sublist ?_
    exact List.Sublist.append_left (List.sublist_cons_self _ _) _
  refine (hp2.trans (ordF_perm L).symm).symm.eq_of_pairwise (le := fun i j => (!wlt L j i) = true) ?_ (ordF_sorted L) ?_
  · intro a b ha hb h1 h2
    rw [Bool.not_eq_true', ← Bool.not_eq_true, wlt_iff] at h1 h2
    omega
  · refine List.Pairwise.imp_of_mem ?_ hs2
    intro a b ha hb h1
    rw [wlt_app (hlt b hb) (hlt a ha)] at h1
    exact h1
theorem deriveR_app {L : List Sg} {x s : Sg} {st : List Nat} (h : ∀ k ∈ st, k < L.length) : deriveR (L ++ [x]) st s = deriveR L st s := by
  unfold deriveR
  split
  · rfl
  · induction st with
    | nil => rfl
    | cons k st ih =>
      rw [List.findSome?_cons, List.findSome?_cons, sgAt_app (h k List.mem_cons_self), ih fun k hk => h k (List.mem_cons_of_mem _ hk)]
theorem foldF_app {L : List Sg} {x : Sg} : ∀ (P : List Nat) (σ τ : List Nat × List Dv), (∀ i ∈ P, i < L.length) → σ.1 = τ.1 → (∀ k ∈ τ.1, k < L.length) → (P.foldl (stepF (L ++ [x])) σ).1 = (P.foldl (stepF L) τ).1
  | [], _, _, _, h, _ => h
  | i :: P, σ, τ, hP, h, ht => by
    have hi := hP i List.mem_cons_self
    have e : (stepF (L ++ [x]) σ i).1 = (stepF L τ i).1 := by
      unfold stepF
      rw [h, sgAt_app hi, deriveR_app ht]
      split <;> rfl
    rw [List.foldl_cons, List.foldl_cons]
    refine foldF_app P _ _ (fun j hj => hP j (List.mem_cons_of_mem _ hj)) e fun k hk => ?_
    rcases stepF_sub L τ i with h' | h'
    · rw [h'] at hk; exact ht k hk
    · rw [h'] at hk
      rcases List.mem_append.1 hk with hk | hk
      · exact ht k hk
      · rw [List.mem_singleton] at hk
        omega
theorem find_adds {L : List Sg} {x : Sg} {u : Nat} (hv : AllV L) (hx : svS x = true) (hu : u < L.length) (hd : Der (sgAt L u) x) :
    storedR (L ++ [x]) = storedR L ∧ ∃ d, (dersR (L ++ [x]))[L.length]? = some d ∧ d.1 < (storedR L).length := by
  obtain ⟨P, Q, h, h'⟩ := ordF_app L x
  obtain ⟨b1, b2, b3, b4, b5⟩ := ordF_before h
  have hvS : AllV (L ++ [x]) := fun i hi => by
    rw [List.length_append, List.length_singleton] at hi
    by_cases h0 : i < L.length
    · rw [sgAt_app h0]; exact hv i h0
    · obtain rfl : i = L.length := by omega
      rw [sgAt_last]; exact hx
  have hPQ : ∀ i ∈ P ++ Q, i < L.length := fun i hi => ordF_mem.1 (h' ▸ hi)
  have hP : ∀ i ∈ P, i < L.length := fun i hi => hPQ i (List.mem_append_left _ hi)
  have hQ : ∀ i ∈ Q, i < L.length := fun i hi => hPQ i (List.mem_append_right _ hi)
  have hst : (runF (L ++ [x]) P).1 = (runF L P).1 := foldF_app P _ _ hP rfl (by simp)
  have hsl : ∀ k ∈ (runF L P).1, k < L.length := fun k hk => hP k ((runF_sub L P).mem hk)
  -- the further signal is derived
  obtain ⟨d, hdd⟩ : ∃ d, deriveR (L ++ [x]) (runF (L ++ [x]) P).1 x = some d := by
    cases hn : deriveR (L ++ [x]) (runF (L ++ [x]) P).1 x with
    | some d => exact ⟨d, rfl⟩
    | none =>
      exfalso
      obtain ⟨n1, n2⟩ := deriveR_none.1 hn
      have huv := hv u hu
      have hw := der_width huv hx hd
      have huP : u ∈ P := by
        have hm : u ∈ ordF (L ++ [x]) := ordF_mem.2 (by simp; omega)
        rw [h] at hm
        rcases List.mem_append.1 hm with hm | hm
        · exact hm
        · rcases List.mem_cons.1 hm with hm | hm
          · omega
          · have := b2 u hm
            rw [wlt_iff, sgAt_last, sgAt_app hu] at this
            omega
      have hc : (sgAt (L ++ [x]) u).2.2 ≠ [] := by
        rw [sgAt_app hu]
        exact fun e => n1 (der_empty huv hx hd e)
      obtain ⟨P1, P2, hPP⟩ := List.append_of_mem huP
      have hord : ordF (L ++ [x]) = P1 ++ u :: (P2 ++ L.length :: Q) := by rw [h, hPP]; simp
      obtain ⟨-, -, k3, k4⟩ := kept_split h
      rcases kept_base hc hord with hk | ⟨k, hk, hd2⟩
      · refine n2 u (k4 u hk huP) ?_
        rw [sgAt_app hu]; exact hd
      · have hkP1 := (runF_sub (L ++ [x]) P1).mem hk
        have hkP : k ∈ P := by rw [hPP]; exact List.mem_append_left _ hkP1
        have hkk := (kept_split hord).2.2.1 k hk
        have hkl := hP k hkP
        refine n2 k (k4 k hkk hkP) ?_
        refine der_trans (hvS k (by simp; omega)) (hvS u (by simp; omega)) hx hd2 ?_
        rw [sgAt_app hu]; exact hd
  have hstep : stepF (L ++ [x]) (runF (L ++ [x]) P) L.length = ((runF (L ++ [x]) P).1, (runF (L ++ [x]) P).2.set L.length d) := by
    unfold stepF
    rw [sgAt_last, hdd]
  have hk : keptF (L ++ [x]) = keptF L := by
    unfold keptF
    rw [h, h', runF_app, runF_app, List.foldl_cons, hstep]
    exact foldF_app Q _ _ hQ hst hsl
  have hs : storedR (L ++ [x]) = storedR L := by unfold storedR; rw [hk]
  refine ⟨hs, ?_⟩
  rcases find_at hvS (i := L.length) (by simp) with ⟨-, -, h3⟩ | ⟨-, j, k, p, h2, h3, -, -⟩
  · exact ⟨_, h3, by simp only; omega⟩
  · rw [hs] at h2
    have := (List.getElem?_eq_some_iff.1 h2).1
    exact ⟨_, h3, by unfold mkD; simp only; omega⟩
end Go.Proofs.YtimeilkelnljnaaGreatDoor

namespace Go.Proofs.YtimeilkelnljnaaGreatDoor
open Go.RowKit

/-! the reference's derivations are the program's -/
def readR (d : Dv) (k n : Int) (v : ByteArray) : ByteArray :=
  if vt k n = false then ⟨#[]⟩ else if d.1 = -1 then vi k n else if k ≠ 0 then (if vv k n v = true then v else ⟨#[]⟩)
  else if (slR v d.2.1 n).2 ≠ 0 then ⟨#[]⟩ else bvX d.2.2 (slR v d.2.1 n).1
def possR (d : Dv) (x st : Sg) : Bool := decide (x.1 = st.1) && (if x.1 ≠ 0 then decide (d.2.1 = 0) && !d.2.2 else decide (0 ≤ d.2.1) && decide (d.2.1 ≤ st.2.1 - x.2.1))
def derG (d : Dv) (x st : Sg) : Sg := (x.1, x.2.1, normS x.1 x.2.1 (st.2.2.map (mvC (readR d x.1 x.2.1))))
def rHit (x st : Sg) (inv : Bool) (fr : Nat) : Bool := possR (0, (fr : Int), inv) x st && decide ((derG (0, (fr : Int), inv) x st).2.2 = x.2.2)
theorem mv_id {f : ByteArray → ByteArray} : ∀ {l : List Ch}, (∀ c ∈ l, f c.2 = c.2) → l.map (mvC f) = l
  | [], _ => rfl
  | c :: l, h => by
    rw [List.map_cons, mv_id fun d hd => h d (List.mem_cons_of_mem _ hd)]
    unfold mvC
    rw [h c List.mem_cons_self]
theorem readR_bits {d : Dv} {n m : Int} {v : ByteArray} (hd : d.1 ≠ -1) (hv : vv 0 n v = true) (hm : vt 0 m = true) (hc : SlOk n d.2.1 m) : readR d 0 m v = bvX d.2.2 (slB d.2.1 m v) := by
  unfold readR
  rw [if_neg (by rw [hm]; simp), if_neg hd, if_neg (by simp), if_neg (by rw [(slR_zero hv).2 hc]; simp)]
  rfl
theorem vv_bvX {n : Int} {v : ByteArray} (i : Bool) (h : vv 0 n v = true) : vv 0 n (bvX i v) = true := by
  cases i
  · exact h
  · exact vv_inv h
theorem bvX_vi {n : Int} (i : Bool) (h : vt 0 n = true) : bvX i (vi 0 n) = vi 0 n := by
  cases i
  · rfl
  · exact inv_vi h
theorem poss_bits {d : Dv} {n m : Int} {l q : List Ch} (hm : vt 0 m = true) : possR d (0, m, q) (0, n, l) = true ↔ SlOk n d.2.1 m := by
  have := vt0 hm
  unfold possR SlOk
  simp
  omega
theorem der_ok {d : Dv} {x st : Sg} (hs : svS st = true) (hx : vt x.1 x.2.1 = true) (hd : d.1 ≠ -1) (hp : possR d x st = true) : (derG d x st).2.2 = (partR st d.2.1 d.2.2 x.2.1).1.2.2 ∧ (partR st d.2.1 d.2.2 x.2.1).2 = true := by
  obtain ⟨k, n, l⟩ := st
  obtain ⟨k2, m, q⟩ := x
  have hk : k2 = k := by
    unfold possR at hp
    rw [Bool.and_eq_true, decide_eq_true_iff] at hp
    exact hp.1
  subst hk
  by_cases h0 : k2 = 0
  · subst h0
    have hc := (poss_bits hx).1 hp
    obtain ⟨p, e1, e2, -, e4⟩ := part_ok d.2.2 hs hc
    rw [show partR ((0, n, l) : Sg) d.2.1 d.2.2 m = ((0, m, p), true) from e1]
    refine ⟨?_, rfl⟩
    have hvt := (sv_iff.1 hs).1
    have hf : ∀ s, vv 0 n s = true → readR d 0 m s = bvX d.2.2 (slB d.2.1 m s) := fun s h => readR_bits hd h hx hc
    have hN : Nrm 0 m (l.map (mvC (readR d 0 m))) := map_Nrm hs hx fun s h => by
      rw [hf s h]
      exact vv_bvX _ (vv_slB h hc)
    show normS 0 m (l.map (mvC (readR d 0 m))) = p
    refine sv_unique (by decide) hN.sv e2 fun t _ _ => ?_
    rw [hN.val, e4]
    have hv := val_map (readR d 0 m) t l (vi 0 n)
    have hvi : readR d 0 m (vi 0 n) = vi 0 m := by rw [hf _ (vv_vi hvt), (slB_vi hvt hc).2, bvX_vi _ hx]
    rw [hvi] at hv
    rw [hv, hf _ (val_vv hs t)]
  · rw [part_other h0]
    refine ⟨?_, rfl⟩
    have hm0 : m = 0 := vt_other hx h0
    have hn0 : n = 0 := vt_other (sv_iff.1 hs).1 h0
    subst hm0 hn0
    show normS k2 0 (l.map (mvC (readR d k2 0))) = l
    have hx' : vt k2 0 = true := hx
    rw [mv_id fun c hc => ?_]
    · exact sv_norm hs
    · have hcv := ((sv_Nrm hs).2.2.2 c hc).2
      unfold readR
      rw [if_neg (by rw [hx']; simp), if_neg hd, if_pos h0, if_pos hcv]
theorem rHit_eq {x st : Sg} (hs : svS st = true) (hx : svS x = true) (he : st.1 = x.1) (h0 : x.1 = 0) (inv : Bool) (fr : Nat) : rHit x st inv fr = hitF st x inv fr := by
  obtain ⟨k, n, l⟩ := st
  obtain ⟨k2, m, q⟩ := x
  obtain rfl : k2 = 0 := h0
  obtain rfl : k = 0 := he
  have hvt := (sv_iff.1 hx).1
  unfold rHit
  cases hp : possR (0, (fr : Int), inv) (0, m, q) (0, n, l) with
  | false =>
    cases hh : hitF (0, n, l) (0, m, q) inv fr with
    | false => rfl
    | true =>
      have := (poss_bits (d := (0, (fr : Int), inv)) (l := l) (q := q) hvt).2 ((hit_iff hs hx inv fr).1 hh).1
      rw [hp] at this; cases this
  | true =>
    obtain ⟨a1, a2⟩ := der_ok (d := (0, (fr : Int), inv)) hs hvt (by simp) hp
    unfold hitF
    dsimp only at a1 a2 ⊢
    rw [a1, a2]
/-- the first possible derivation of the reference -/
def firstR (x st : Sg) : Option (Nat × Bool) :=
  match (List.range (max 0 (st.2.1 - x.2.1) + 1).toNat).find? (rHit x st false) with
  | some f => some (f, false)
  | none => ((List.range (max 0 (st.2.1 - x.2.1) + 1).toNat).find? (rHit x st true)).map fun f => (f, true)
theorem find_all_false {p : Nat → Bool} {N : Nat} (h : ∀ i, p i = false) : (List.range N).find? p = none := by
  rw [List.find?_eq_none]
  intro x _
  rw [h x]; simp
theorem first_try {x st : Sg} (hs : svS st = true) (hx : svS x = true) : firstR x st = tryD st x := by
  by_cases he : st.1 = x.1
  · by_cases h0 : x.1 = 0
    · have hr : ∀ inv, rHit x st inv = hitF st x inv := fun inv => funext fun f => rHit_eq hs hx he h0 inv f
      have hf : ∀ inv, (List.range (max 0 (st.2.1 - x.2.1) + 1).toNat).find? (rHit x st inv) = tryF st x inv := fun inv => by
        rw [hr]
        unfold tryF
        by_cases hw : 0 ≤ st.2.1 - x.2.1
        · rw [show max 0 (st.2.1 - x.2.1) = st.2.1 - x.2.1 by omega]
        · have hn : ∀ f, hitF st x inv f = false := fun f => by
            cases hh : hitF st x inv f with
            | false => rfl
            | true =>
              obtain ⟨k, n, l⟩ := st
              obtain ⟨k2, m, q⟩ := x
              obtain rfl : k2 = 0 := h0
              obtain rfl : k = 0 := he
              have := ((hit_iff hs hx inv f).1 hh).1
              unfold SlOk at this
              exact absurd (show 0 ≤ n - m by omega) hw
          rw [find_all_false hn, find_all_false hn]
      unfold firstR tryD
      rw [hf, hf, if_neg (fun h => h he), if_neg (fun h => h h0)]
      try (cases tryF st x false <;> rfl)
    · unfold firstR tryD
      have hw : st.2.1 - x.2.1 = 0 := by
        have a1 := vt_other (sv_iff.1 hx).1 h0
        have a2 := vt_other (sv_iff.1 hs).1 (by rw [he]; exact h0)
        omega
      rw [hw, if_neg (fun h => h he), if_pos h0]
      have hp : possR (0, ((0 : Nat) : Int), false) x st = true := by
        unfold possR
        rw [if_pos h0]
        simp [he]
      have hpt : possR (0, ((0 : Nat) : Int), true) x st = false := by
        unfold possR
        rw [if_pos h0]
        simp
      have hh : rHit x st false 0 = hitF st x false 0 := by
        obtain ⟨a1, a2⟩ := der_ok (d := (0, ((0 : Nat) : Int), false)) hs (sv_iff.1 hx).1 (by simp) hp
        unfold rHit hitF
        dsimp only at a1 a2 ⊢
        rw [hp, a1, a2]
      have ht : rHit x st true 0 = false := by
        unfold rHit
        rw [hpt]; rfl
      rw [show (max (0 : Int) 0 + 1).toNat = 1 from rfl]
      rw [show List.range 1 = [0] from rfl]
      cases hz : hitF st x false 0 with
      | true =>
        rw [List.find?_cons_of_pos (by rw [hh, hz]), if_pos ⟨by omega, rfl⟩]
      | false =>
        rw [List.find?_cons_of_neg (by rw [hh, hz]; simp), List.find?_cons_of_neg (by rw [ht]; simp), if_neg (by simp)]
        rfl
  · have hn : ∀ inv f, rHit x st inv f = false := fun inv f => by
      unfold rHit possR
      rw [decide_eq_false (fun h => he h.symm)]
      rfl
    unfold firstR tryD
    rw [find_all_false (hn false), find_all_false (hn true), if_pos he]
    rfl

/-! Find -/
def deriveG (L : List Sg) (st : List Nat) (s : Sg) : Option Dv :=
  if s.2.2 = [] then some (-1, 0, false) else st.findSome? fun k => (firstR s (sgAt L k)).map (mkD k)
def stepG (L : List Sg) (σ : List Nat × List Dv) (i : Nat) : List Nat × List Dv :=
  match deriveG L σ.1 (sgAt L i) with
  | some d => (σ.1, σ.2.set i d)
  | none => (σ.1 ++ [i], σ.2.set i (selfD i))
def runG (L : List Sg) (P : List Nat) : List Nat × List Dv := P.foldl (stepG L) ([], List.replicate L.length (0, 0, false))
def ordW (L : List Sg) (W : List Int) : List Nat := W.flatMap fun w => (List.range L.length).filter fun i => decide ((sgAt L i).2.1 = w)
def widths (n : Nat) : List Int := (List.range n).map fun (j : Nat) => 128 - (j : Int)
def ordG (L : List Sg) : List Nat := ordW L (widths 129)
theorem deriveG_eq {L : List Sg} (hv : AllV L) {st : List Nat} (hst : ∀ k ∈ st, k < L.length) {s : Sg} (hs : svS s = true) : deriveG L st s = deriveR L st s := by
  unfold deriveG deriveR
  split
  · rfl
  · induction st with
    | nil => rfl
    | cons k st ih =>
      rw [List.findSome?_cons, List.findSome?_cons, first_try (hv k (hst k List.mem_cons_self)) hs, ih fun j hj => hst j (List.mem_cons_of_mem _ hj)]
theorem foldG_eq {L : List Sg} (hv : AllV L) : ∀ (P : List Nat) (σ : List Nat × List Dv), (∀ i ∈ P, i < L.length) → (∀ k ∈ σ.1, k < L.length) → P.foldl (stepG L) σ = P.foldl (stepF L) σ
  | [], _, _, _ => rfl
  | i :: P, σ, hP, hs => by
    have hi := hP i List.mem_cons_self
    have e : stepG L σ i = stepF L σ i := by
      unfold stepG stepF
      rw [deriveG_eq hv hs (hv i hi)]
      try (cases deriveR L σ.1 (sgAt L i) <;> rfl)
    rw [List.foldl_cons, List.foldl_cons, e]
    refine foldG_eq hv P _ (fun j hj => hP j (List.mem_cons_of_mem _ hj)) fun k hk => ?_
    rcases stepF_sub L σ i with h' | h'
    · rw [h'] at hk; exact hs k hk
    · rw [h'] at hk
      rcases List.mem_append.1 hk with hk | hk
      · exact hs k hk
      · rw [List.mem_singleton] at hk
        omega
theorem mem_ordW {L : List Sg} {W : List Int} {i : Nat} : i ∈ ordW L W ↔ i < L.length ∧ (sgAt L i).2.1 ∈ W := by
  unfold ordW
  rw [List.mem_flatMap]
  constructor
  · rintro ⟨w, hw, h⟩
    rw [List.mem_filter, List.mem_range, decide_eq_true_iff] at h
    exact ⟨h.1, h.2 ▸ hw⟩
  · rintro ⟨h1, h2⟩
    exact ⟨_, h2, by rw [List.mem_filter, List.mem_range, decide_eq_true_iff]; exact ⟨h1, rfl⟩⟩
theorem sorted_ordW {L : List Sg} : ∀ {W : List Int}, W.Pairwise (fun a b => b < a) → (ordW L W).Pairwise fun i j => wlt L i j = true
  | [], _ => List.Pairwise.nil
  | w :: W, h => by
    obtain ⟨h1, h2⟩ := List.pairwise_cons.1 h
    show ((List.range L.length).filter _ ++ ordW L W).Pairwise _
    rw [List.pairwise_append]
    refine ⟨?_, sorted_ordW h2, fun i hi j hj => ?_⟩
    · refine List.Pairwise.imp_of_mem ?_ ((List.pairwise_lt_range (n := L.length)).filter _)
      intro a b ha hb hab
      rw [List.mem_filter, decide_eq_true_iff] at ha hb
      rw [wlt_iff]
      exact .inr ⟨ha.2.trans hb.2.symm, hab⟩
    · rw [List.mem_filter, decide_eq_true_iff] at hi
      have := h1 _ (mem_ordW.1 hj).2
      rw [wlt_iff]
      exact .inl (by rw [hi.2]; exact this)
theorem widths_sorted (n : Nat) : (widths n).Pairwise fun a b => b < a := by
  unfold widths
  rw [List.pairwise_map]
  refine (List.pairwise_lt_range (n := n)).imp ?_
  intro a b h
  omega
theorem widths_mem {n : Nat} {w : Int} : w ∈ widths n ↔ w ≤ 128 ∧ 128 - (n : Int) < w := by
  unfold widths
  rw [List.mem_map]
  constructor
  · rintro ⟨j, hj, rfl⟩
    rw [List.mem_range] at hj
    omega
  · rintro ⟨h1, h2⟩
    exact ⟨(128 - w).toNat, by rw [List.mem_range]; omega, by omega⟩
theorem ordG_eq {L : List Sg} (hv : AllV L) : ordG L = ordF L := by
  have hs := sorted_ordW (L := L) (widths_sorted 129)
  have hnd : (ordG L).Nodup := by
    refine List.Pairwise.imp ?_ hs
    intro a b h e
    subst e
    rw [wlt_iff] at h
    omega
  have hp : (ordG L).Perm (ordF L) := by
    rw [List.perm_ext_iff_of_nodup hnd (ordF_nodup L)]
    intro i
    unfold ordG
    rw [mem_ordW, ordF_mem, widths_mem]
    constructor
    · exact fun h => h.1
    · intro h
      have := sv_width (hv i h)
      exact ⟨h, by omega, by omega⟩
  refine hp.eq_of_pairwise (le := fun i j => (!wlt L j i) = true) ?_ (hs.imp ?_) (ordF_sorted L)
  · intro a b _ _ h1 h2
    rw [Bool.not_eq_true', ← Bool.not_eq_true, wlt_iff] at h1 h2
    omega
  · intro a b h
    rw [Bool.not_eq_true', ← Bool.not_eq_true, wlt_iff]
    rw [wlt_iff] at h
    omega
theorem runG_eq {L : List Sg} (hv : AllV L) : runG L (ordG L) = runF L (ordF L) := by
  rw [ordG_eq hv]
  exact foldG_eq hv _ _ (fun i hi => ordF_mem.1 hi) (by simp)

/-- the reference's list of stored signals -/
def storedG (L : List Sg) (D : List Dv) : List Nat := (List.range L.length).filter fun i => decide (D[i]? = some (selfD i)) && !decide ((sgAt L i).2.2 = [])
def renG (st : List Nat) (d : Dv) : Dv := match st.findIdx? (fun (k : Nat) => decide ((k : Int) = d.1)) with
  | some k => ((k : Int), d.2.1, d.2.2)
  | none => d
theorem storedG_eq {L : List Sg} : storedG L (runF L (ordF L)).2 = storedR L := by
  have hs1 : (storedG L (runF L (ordF L)).2).Pairwise fun x y => x < y := (List.pairwise_lt_range (n := L.length)).filter _
  have hp : (storedG L (runF L (ordF L)).2).Perm (storedR L) := by
    rw [List.perm_ext_iff_of_nodup (hs1.imp fun h => by omega) (stored_nodup L)]
    intro i
    rw [stored_mem]
    unfold storedG
    rw [List.mem_filter, List.mem_range, Bool.and_eq_true, decide_eq_true_iff, Bool.not_eq_true', decide_eq_false_iff_not]
    constructor
    · rintro ⟨h1, h2, h3⟩
      obtain ⟨d, e1, e2⟩ := run_at h1
      rw [h2] at e1
      obtain rfl := Option.some.inj e1
      rcases e2 with ⟨-, h4, -⟩ | ⟨k, p, -, -, -, h5⟩
      · exact absurd h4 h3
      · exact h5.2 rfl
    · intro h
      have hl := kept_lt h
      obtain ⟨d, e1, e2⟩ := run_at hl
      rcases e2 with ⟨-, -, h4⟩ | ⟨k, p, -, -, h3, h5⟩
      · exact absurd h h4
      · exact ⟨hl, by rw [e1, h5.1 h], h3⟩
  refine hp.eq_of_pairwise (le := fun x y => x < y) ?_ hs1 (stored_sorted L)
  intro a b _ _ h1 h2
  omega
theorem renG_eq {st : List Nat} {k : Nat} {p : Nat × Bool} (h : k ∈ st) : renG st (mkD k p) = renum st (mkD k p) := by
  rw [renum_mk]
  unfold renG
  have : st.findIdx? (fun (j : Nat) => decide ((j : Int) = (mkD k p).1)) = some (st.idxOf k) := by
    rw [List.findIdx?_eq_some_iff_getElem]
    have hl := List.idxOf_lt_length_of_mem h
    refine ⟨hl, by rw [List.getElem_idxOf hl]; simp [mkD], fun j hj => ?_⟩
    have hne : st[j] ≠ k := fun e => by
      have := List.not_of_lt_findIdx (p := (· == k)) (xs := st) (i := j) (by unfold List.idxOf at hj; exact hj)
      simp [e] at this
    show ¬ (decide (((st[j] : Nat) : Int) = (k : Int)) = true)
    rw [decide_eq_true_iff]
    omega
  rw [this]
  rfl
theorem renG_minus {st : List Nat} : renG st (-1, 0, false) = renum st (-1, 0, false) := by
  unfold renG
  have : st.findIdx? (fun (j : Nat) => decide ((j : Int) = (-1 : Int))) = none := by
    rw [List.findIdx?_eq_none_iff]
    intro x _
    rw [decide_eq_false_iff_not]
    omega
  dsimp only
  rw [this]
  rfl
theorem findG_eq {L : List Sg} (hv : AllV L) : (runG L (ordG L)).2.map (renG (storedG L (runG L (ordG L)).2)) = dersR L := by
  rw [runG_eq hv, storedG_eq]
  unfold dersR
  apply List.map_congr_left
  intro d hd
  obtain ⟨i, hi, rfl⟩ := List.getElem_of_mem hd
  rw [runF_len] at hi
  obtain ⟨d, e1, e2⟩ := run_at hi
  rw [List.getElem?_eq_getElem (by rw [runF_len]; exact hi)] at e1
  rw [Option.some.inj e1]
  rcases e2 with ⟨rfl, -, -⟩ | ⟨k, p, rfl, h, -, -⟩
  · exact renG_minus
  · exact renG_eq (stored_mem.2 h)

/-! Valid, Restore -/
def okG (s : Sg) (st : List Sg) (d : Dv) : Bool :=
  !(decide (d.1 < -1) || decide ((st.length : Int) ≤ d.1)) && !((decide (d.1 = -1) && (!decide (d.2.1 = 0) || d.2.2)) || (decide (0 ≤ d.1) && !possR d s (sgAt st d.1.toNat)))
theorem okG_eq (s : Sg) (st : List Sg) (d : Dv) : okG s st d = fitsR s st d := by
  obtain ⟨o, f, i⟩ := d
  unfold okG fitsR possR
  by_cases h1 : o < -1 ∨ (st.length : Int) ≤ o
  · rw [if_pos h1]
    rcases h1 with h1 | h1 <;> simp [h1]
  · rw [if_neg h1]
    have h2 : ¬ o < -1 := fun h => h1 (.inl h)
    have h3 : ¬ (st.length : Int) ≤ o := fun h => h1 (.inr h)
    by_cases h4 : o = -1
    · subst h4
      simp [h3]
    · have h5 : 0 ≤ o := by omega
      by_cases h6 : (sgAt st o.toNat).1 = s.1
      · by_cases h7 : s.1 = 0
        · simp [h2, h3, h4, h5, h6, h7]
        · simp [h2, h3, h4, h5, h6, h7]
      · have h6' : ¬ s.1 = (sgAt st o.toNat).1 := fun h => h6 h.symm
        simp [h2, h3, h4, h5, h6, h6']
def restG (st : List Sg) (s : Sg) (d : Dv) : Sg := if 0 ≤ d.1 then derG d s (sgAt st d.1.toNat) else (s.1, s.2.1, [])
theorem restG_eq {st : List Sg} {s : Sg} {d : Dv} (hst : st.all svS = true) (hs : tyS s = true) (hf : fitsR s st d = true) : restG st s d = restE st s d := by
  rw [← okG_eq] at hf
  unfold okG at hf
  rw [Bool.and_eq_true, Bool.not_eq_true', Bool.not_eq_true', Bool.or_eq_false_iff, Bool.or_eq_false_iff, decide_eq_false_iff_not, decide_eq_false_iff_not] at hf
  obtain ⟨⟨h1, h2⟩, h3, h4⟩ := hf
  unfold restG restE
  by_cases h0 : 0 ≤ d.1
  · rw [if_pos h0, if_neg (by omega)]
    have hp : possR d s (sgAt st d.1.toNat) = true := by
      rw [decide_eq_true h0, Bool.true_and, Bool.not_eq_false'] at h4
      exact h4
    have hl : d.1.toNat < st.length := by omega
    have hv : svS (sgAt st d.1.toNat) = true := by
      rw [sgAt_lt hl]
      exact List.all_eq_true.1 hst _ (List.getElem_mem hl)
    rw [← (der_ok hv hs (by omega) hp).1]
    rfl
  · rw [if_neg h0, if_pos (by omega)]
end Go.Proofs.YtimeilkelnljnaaGreatDoor
