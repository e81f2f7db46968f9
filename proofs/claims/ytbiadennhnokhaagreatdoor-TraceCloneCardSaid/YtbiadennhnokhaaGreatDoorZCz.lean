/- The clone's loops: what is changed in each round. -/
import Derived.Test.YtbiadennhnokhaaGreatDoorZCy
namespace Go.Proofs.YtbiadennhnokhaaGreatDoor
open Go.RowKit
set_option linter.unusedSimpArgs false

theorem flat_at {α : Type} (E : α → List Value) (K : Nat) (hK : ∀ x, (E x).length = K) (o : Nat) (ho : o < K) : ∀ (l : List α) (i : Nat) (hi : i < l.length), (l.flatMap E)[i * K + o]? = (E l[i])[o]?
  | x :: l, 0, _ => by
    rw [List.flatMap_cons, Nat.zero_mul, Nat.zero_add, List.getElem?_append_left (by rw [hK]; exact ho)]
    rfl
  | x :: l, i + 1, h => by
    rw [List.flatMap_cons, List.getElem?_append_right (by rw [hK, Nat.succ_mul]; omega), hK, show (i + 1) * K + o - K = i * K + o by rw [Nat.succ_mul]; omega, flat_at E K hK o ho l i (by simpa using h)]
    rfl
theorem map_mod_same {α β : Type} {F : α → α} {G : α → β} (h : ∀ x, G (F x) = G x) : ∀ (l : List α) (i : Nat), (l.modify i F).map G = l.map G
  | [], i => by simp
  | x :: l, 0 => by simp [h]
  | x :: l, i + 1 => by simp [map_mod_same h l i]
theorem map_mod {α β : Type} {F : α → α} {G : α → β} {f : β → β} : ∀ (l : List α) (i : Nat), (∀ hi : i < l.length, G (F l[i]) = f (G l[i])) → (l.modify i F).map G = (l.map G).modify i f
  | [], i, _ => by simp
  | x :: l, 0, h => by have := h (by simp); simp at this ⊢; exact this
  | x :: l, i + 1, h => by
    have := map_mod l i (fun hi => h (by simpa using hi))
    simp [this]
theorem own_open {W : World} {B e size n : Nat} {v : Value} {xs : List Value} (h : W.ownsRow B e size v n xs) (hn : 0 < n) : ∃ g cap, v = .slice (some ⟨g, 0, none⟩) n cap ∧ OwnRow W g xs ∧ v.ownBlock = some g := by
  obtain ⟨m, rfl⟩ : ∃ m, n = m + 1 := ⟨n - 1, by omega⟩
  obtain ⟨g, cap, rfl⟩ := own_succ h
  exact ⟨g, cap, rfl, own_row h, rfl⟩
/-- the signals: what has not changed, and the kinds -/
def KM (M0 : List (Sg × Value)) (K : List Int) (M : List (Sg × Value)) : Prop := M.map (fun x => (x.2, x.1.2.2.length)) = M0.map (fun x => (x.2, x.1.2.2.length)) ∧ M.map (fun x => x.1.1) = K
section
variable {M0 M : List (Sg × Value)} {K : List Int}
theorem KM.len (h : KM M0 K M) : M.length = M0.length := by simpa using congrArg List.length h.1
theorem KM.time (h : KM M0 K M) (g k : Nat) (y : Int) : KM M0 K (M.map (updT g k y)) := by
  refine ⟨?_, ?_⟩
  · rw [← h.1, List.map_map]
    congr 1
    funext x
    exact Prod.ext (updT_2 g k y x).1 (updT_2 g k y x).2.2
  · rw [← h.2, List.map_map]
    congr 1
    funext x
    exact (updT_2 g k y x).2.1
theorem KM.kind (h : KM M0 K M) {i : Nat} {y : Int} {f : Int → Int} (hy : ∀ hi : i < M.length, y = f M[i].1.1) : KM M0 (K.modify i f) (M.modify i fun x => ((y, x.1.2), x.2)) := by
  refine ⟨?_, ?_⟩
  · rw [← h.1]
    exact map_mod_same (F := fun x : Sg × Value => ((y, x.1.2), x.2)) (G := fun x : Sg × Value => (x.2, x.1.2.2.length)) (fun x => rfl) M i
  · rw [← h.2]
    exact map_mod M i (fun hi => hy hi)
theorem KM.at (h : KM M0 K M) {i : Nat} (hi : i < M.length) (h0 : i < M0.length) : M[i].2 = M0[i].2 ∧ M[i].1.2.2.length = M0[i].1.2.2.length := by
  have h1 : (M.map (fun x => (x.2, x.1.2.2.length)))[i]? = (M0.map (fun x => (x.2, x.1.2.2.length)))[i]? := by rw [h.1]
  rw [List.getElem?_map, List.getElem?_map, List.getElem?_eq_getElem hi, List.getElem?_eq_getElem h0] at h1
  injection h1 with h1
  injection h1 with h1 h2
  exact ⟨h1, h2⟩
end
section
variable {B D b1 g3 g4 : Nat} {C1 C3 C4 : Array Value} {w W : World} {t u : Tr} {d q : TP} {M : List (Sg × Value)}
/-- a change's time -/
theorem CL.times (h : CL B D b1 g3 g4 C1 C3 C4 w W t d { u with G := M.map Prod.fst } { q with M := M }) {i k : Nat} (hi : i < M.length) (hk : k < M[i].1.2.2.length) :
    ∃ g cap y, M[i].2 = .slice (some ⟨g, 0, none⟩) M[i].1.2.2.length cap ∧ W.cell? ⟨g, k * 2, none⟩ = some (.int .i64 y) ∧ W.frozen? ⟨g, k * 2, none⟩ = false ∧
      ∀ y, CL B D b1 g3 g4 C1 C3 C4 w (W.setCell ⟨g, k * 2, none⟩ (.int .i64 y)) t d { u with G := (M.map (updT g k y)).map Prod.fst } { q with M := M.map (updT g k y) } := by
  have hm : M[i] ∈ M := List.getElem_mem hi
  have ho := h.c.o.c M[i] hm
  obtain ⟨g, cap, e, hr, hg⟩ := own_open ho (by omega)
  have hc : (chs M[i].1.2.2)[k * 2]? = some (.int .i64 M[i].1.2.2[k].1) := flat_at encC 2 (fun _ => rfl) 0 (by decide) M[i].1.2.2 k hk
  exact ⟨g, cap, _, e, hr.cell hc, hr.free (List.getElem?_eq_some_iff.1 hc).1, fun y => h.put (h.c.time hm hg k y) ho hg (by decide) (h.c.dc M[i] hm)⟩
/-- a signal: its kind and its changes -/
theorem CL.kinds (h : CL B D b1 g3 g4 C1 C3 C4 w W t d { u with G := M.map Prod.fst } { q with M := M }) {i : Nat} (hi : i < M.length) :
    ∃ g cap y, M[i].1.1 = y ∧ q.vg = .slice (some ⟨g, 0, none⟩) M.length cap ∧ W.cell? ⟨g, i * 3, none⟩ = some (.int .i64 y) ∧ W.cell? ⟨g, i * 3 + 2, none⟩ = some M[i].2 ∧ W.frozen? ⟨g, i * 3, none⟩ = false ∧
      ∀ y, CL B D b1 g3 g4 C1 C3 C4 w (W.setCell ⟨g, i * 3, none⟩ (.int .i64 y)) t d { u with G := (M.modify i fun x => ((y, x.1.2), x.2)).map Prod.fst } { q with M := M.modify i fun x => ((y, x.1.2), x.2) } := by
  have ho := h.c.o.g
  obtain ⟨g, cap, e, hr, hg⟩ := own_open ho (by show 0 < M.length; omega)
  have hc : (sgs M)[i * 3]? = some (.int .i64 M[i].1.1) := flat_at sgC 3 (fun _ => rfl) 0 (by decide) M i hi
  have hc2 : (sgs M)[i * 3 + 2]? = some M[i].2 := flat_at sgC 3 (fun _ => rfl) 2 (by decide) M i hi
  exact ⟨g, cap, _, rfl, e, hr.cell hc, hr.cell hc2, hr.free (List.getElem?_eq_some_iff.1 hc).1, fun y => h.put (h.c.kind hg i y) ho hg (by decide) h.c.dg⟩
/-- a scope's name -/
theorem CL.scopes (h : CL B D b1 g3 g4 C1 C3 C4 w W t d u q) {i : Nat} (hi : i < u.S.length) :
    ∃ g cap, q.vs = .slice (some ⟨g, 0, none⟩) u.S.length cap ∧ W.cell? ⟨g, i * 3, none⟩ = some (.string (bsB u.S[i].1)) ∧ W.frozen? ⟨g, i * 3, none⟩ = false ∧
      ∀ b, CL B D b1 g3 g4 C1 C3 C4 w (W.setCell ⟨g, i * 3, none⟩ (.string (bsB b))) t d { u with S := u.S.modify i fun x => (b, x.2) } q := by
  have ho := h.c.o.s
  obtain ⟨g, cap, e, hr, hg⟩ := own_open ho (by omega)
  have hc : (scs u.S)[i * 3]? = some (.string (bsB u.S[i].1)) := flat_at scC 3 (fun _ => rfl) 0 (by decide) u.S i hi
  exact ⟨g, cap, e, hr.cell hc, hr.free (List.getElem?_eq_some_iff.1 hc).1, fun b => h.put (h.c.scope hg i b) ho hg (by decide) h.c.ds⟩
/-- a variable's name -/
theorem CL.vars (h : CL B D b1 g3 g4 C1 C3 C4 w W t d u q) {i : Nat} (hi : i < u.V.length) :
    ∃ g cap, q.vv = .slice (some ⟨g, 0, none⟩) u.V.length cap ∧ W.cell? ⟨g, i * 7, none⟩ = some (.string (bsB u.V[i].nm)) ∧ W.frozen? ⟨g, i * 7, none⟩ = false ∧
      ∀ b, CL B D b1 g3 g4 C1 C3 C4 w (W.setCell ⟨g, i * 7, none⟩ (.string (bsB b))) t d { u with V := u.V.modify i fun x => { x with nm := b } } q := by
  have ho := h.c.o.v
  obtain ⟨g, cap, e, hr, hg⟩ := own_open ho (by omega)
  have hc : (vrs u.V)[i * 7]? = some (.string (bsB u.V[i].nm)) := flat_at vrC 7 (fun _ => rfl) 0 (by decide) u.V i hi
  exact ⟨g, cap, e, hr.cell hc, hr.free (List.getElem?_eq_some_iff.1 hc).1, fun b => h.put (h.c.var hg i b) ho hg (by decide) h.c.dv⟩
/-- a gap's end -/
theorem CL.gaps (h : CL B D b1 g3 g4 C1 C3 C4 w W t d u q) {i : Nat} (hi : i < u.P.length) :
    ∃ g cap, q.vp = .slice (some ⟨g, 0, none⟩) u.P.length cap ∧ W.cell? ⟨g, i * 2 + 1, none⟩ = some (.int .i64 u.P[i].2) ∧ W.frozen? ⟨g, i * 2 + 1, none⟩ = false ∧
      ∀ y, CL B D b1 g3 g4 C1 C3 C4 w (W.setCell ⟨g, i * 2 + 1, none⟩ (.int .i64 y)) t d { u with P := u.P.modify i fun x => (x.1, y) } q := by
  have ho := h.c.o.q
  obtain ⟨g, cap, e, hr, hg⟩ := own_open ho (by omega)
  have hc : (gps u.P)[i * 2 + 1]? = some (.int .i64 u.P[i].2) := flat_at gpC 2 (fun _ => rfl) 1 (by decide) u.P i hi
  exact ⟨g, cap, e, hr.cell hc, hr.free (List.getElem?_eq_some_iff.1 hc).1, fun y => h.put (h.c.gap hg i y) ho hg (by decide) h.c.dq⟩
end
/-- the trace that is changed: signals, and the first scopes, variables, gaps -/
def chT (t : Tr) (M : List (Sg × Value)) (i j k : Nat) : Tr := { t with G := M.map Prod.fst, S := modN sUp i t.S, V := modN vUp j t.V, P := modN gUp k t.P }
theorem chT_zero (t : Tr) (M : List (Sg × Value)) : chT t M 0 0 0 = { t with G := M.map Prod.fst } := by
  unfold chT
  rw [modN_zero, modN_zero, modN_zero]
theorem modN_at2 {α : Type} (f : α → α) {i j : Nat} {l : List α} (hi : j < i) (hl : i ≤ l.length) (h : j < (modN f i l).length) : (modN f i l)[j] = f (l[j]'(by omega)) := by
  have hj : j < l.length := by omega
  have e : (modN f i l)[j]? = some (f l[j]) := by
    unfold modN
    rw [List.getElem?_append_left (by simp; omega), List.getElem?_map, List.getElem?_take_of_lt hi, List.getElem?_eq_getElem hj]
    rfl
  rw [List.getElem?_eq_getElem h] at e
  exact Option.some.inj e
theorem chT_ne {t : Tr} {M0 M : List (Sg × Value)} (hM : M0.map Prod.fst = t.G) (h : KM M0 (modN kUp t.G.length (t.G.map fun s => s.1)) M) : Changed t (chT t M t.S.length t.V.length t.P.length) := by
  have hlM : M.length = t.G.length := by rw [h.len, ← hM, List.length_map]
  have hl : t.G.length = (t.G.map fun s => s.1).length := by simp
  refine ⟨fun i hi hi' => ?_, fun i hi hi' => ?_, fun i hi hi' => ?_, fun i hi hi' => ?_⟩
  · have h1 : (M.map (fun x => x.1.1))[i]? = (modN kUp t.G.length (t.G.map fun s => s.1))[i]? := by rw [h.2]
    rw [hl, modN_all, List.getElem?_map, List.getElem?_map, List.getElem?_map, List.getElem?_eq_getElem (by omega), List.getElem?_eq_getElem hi] at h1
    have h2 : (M[i]'(by omega)).1.1 = kUp t.G[i].1 := Option.some.inj h1
    have h3 : (chT t M t.S.length t.V.length t.P.length).G[i] = (M[i]'(by omega)).1 := by
      exact List.getElem_map (l := M) (f := Prod.fst) (i := i) (h := hi')
    rw [h3, h2]
    exact wrap_up _
  · have h3 : (chT t M t.S.length t.V.length t.P.length).S[i] = sUp t.S[i] := modN_at2 sUp hi (Nat.le_refl _) _
    rw [h3]
    intro e
    have := congrArg (fun x : Sc => x.1.length) e
    simp [sUp] at this
  · have h3 : (chT t M t.S.length t.V.length t.P.length).V[i] = vUp t.V[i] := modN_at2 vUp hi (Nat.le_refl _) _
    rw [h3]
    intro e
    have := congrArg (fun x : Vr => x.nm.length) e
    simp [vUp] at this
  · have h3 : (chT t M t.S.length t.V.length t.P.length).P[i] = gUp t.P[i] := modN_at2 gUp hi (Nat.le_refl _) _
    rw [h3]
    intro e
    have := congrArg (fun x : Gp => x.2) e
    exact wrap_up _ this
theorem chT_S {t : Tr} {M : List (Sg × Value)} {i j k : Nat} (hi : i < t.S.length) {b : Bs} (hb : b = t.S[i].1 ++ [120]) : { chT t M i j k with S := (chT t M i j k).S.modify i fun x => (b, x.2) } = chT t M (i + 1) j k := by
  unfold chT
  dsimp only
  rw [← modN_step sUp hi, modify_same (f := sUp) (g := fun x => (b, x.2)) (fun h => by rw [modN_at sUp hi]; subst hb; rfl)]
theorem chT_V {t : Tr} {M : List (Sg × Value)} {i j k : Nat} (hi : j < t.V.length) {b : Bs} (hb : b = t.V[j].nm ++ [120]) : { chT t M i j k with V := (chT t M i j k).V.modify j fun x => { x with nm := b } } = chT t M i (j + 1) k := by
  unfold chT
  dsimp only
  rw [← modN_step vUp hi, modify_same (f := vUp) (g := fun x => { x with nm := b }) (fun h => by rw [modN_at vUp hi]; subst hb; rfl)]
theorem chT_P {t : Tr} {M : List (Sg × Value)} {i j k : Nat} (hi : k < t.P.length) {y : Int} (hy : y = IntKind.i64.wrap (t.P[k].2 + 1)) : { chT t M i j k with P := (chT t M i j k).P.modify k fun x => (x.1, y) } = chT t M i j (k + 1) := by
  unfold chT
  dsimp only
  rw [← modN_step gUp hi, modify_same (f := gUp) (g := fun x => (x.1, y)) (fun h => by rw [modN_at gUp hi]; subst hy; rfl)]
section
variable {B D b1 g3 g4 : Nat} {C1 C3 C4 : Array Value} {w W : World} {t : Tr} {d q : TP}
theorem CL.start (h : CL B D b1 g3 g4 C1 C3 C4 w W t d t q) : CL B D b1 g3 g4 C1 C3 C4 w W t d { t with G := q.M.map Prod.fst } { q with M := q.M } := by
  have e := h.c.o.m
  rw [e]
  exact h
theorem KM.start (h : CL B D b1 g3 g4 C1 C3 C4 w W t d t q) : KM q.M (modN kUp 0 (t.G.map fun s => s.1)) q.M := by
  refine ⟨rfl, ?_⟩
  rw [modN_zero, ← h.c.o.m, List.map_map]
  rfl
end
end Go.Proofs.YtbiadennhnokhaaGreatDoor
