/- Plain: what is read from the text of records is the records; what is read is valid. -/
import Derived.Test.YtgnkjcdkfcikeaaGreatDoorCp2
namespace Go.Proofs.YtgnkjcdkfcikeaaGreatDoor

theorem map_app {ws : List Wd} {a b : List Bs} (h : ws.map (·.1) = a ++ b) : ∃ u v, ws = u ++ v ∧ u.map (·.1) = a ∧ v.map (·.1) = b := List.map_eq_append_iff.1 h |>.elim fun u ⟨v, h1, h2, h3⟩ => ⟨u, v, h1, h2, h3⟩
theorem map_one {ws : List Wd} {a : Bs} (h : ws.map (·.1) = [a]) : ∃ w, ws = [w] ∧ w.1 = a := by
  cases ws with
  | nil => cases h
  | cons w t => cases t with
    | nil => exact ⟨w, rfl, by simpa using h⟩
    | cons w2 t => simp at h
theorem map_two {ws : List Wd} {a b : Bs} (h : ws.map (·.1) = [a, b]) : ∃ w v, ws = [w, v] ∧ w.1 = a ∧ v.1 = b := by
  cases ws with
  | nil => cases h
  | cons w t =>
    rw [List.map_cons] at h
    injection h with h1 h2
    obtain ⟨v, rfl, hv⟩ := map_one h2
    exact ⟨w, v, rfl, h1, hv⟩

theorem kn_some {V : Vals} {l : List Dc} {c : Bs} {x : Dc} (h : knL V l c = some x) : cnt V x = true ∧ x.1 = c := by
  have := List.find?_some h
  rw [Bool.and_eq_true, decide_eq_true_iff] at this
  exact this
theorem cnt_iff {V : Vals} {x : Dc} : cnt V x = true ↔ V.vt x.2.1 x.2.2 = true ∧ codeOk x.1 = true := by unfold cnt; rw [Bool.and_eq_true]
theorem code_solid {id : Bs} (h : codeOk id = true) : id ≠ [] ∧ (∀ c ∈ id, isW c = false) ∧ id ≠ sEnd := by
  unfold codeOk at h
  rw [Bool.and_eq_true, Bool.and_eq_true, Bool.and_eq_true, Bool.not_eq_true', decide_eq_false_iff_not, Bool.not_eq_true', decide_eq_false_iff_not, List.all_eq_true] at h
  exact ⟨h.1.1.1, fun c hc => prn_solid (h.1.2 c hc), h.2⟩
theorem cmd_ne {V : Vals} {k n : Int} {v id : Bs} (h : cmdL V k n v id ≠ []) : V.vt k n = true ∧ V.vv k n v = true ∧ codeOk id = true := by
  unfold cmdL at h
  split at h
  · rename_i h1
    rw [Bool.and_eq_true, Bool.and_eq_true] at h1
    exact ⟨h1.1.1, h1.1.2, h1.2⟩
  · exact absurd rfl h
theorem letter_solid (k : Int) : isW (letter k) = false ∧ letter k ≠ 36 := by
  unfold letter
  split
  · decide
  · split <;> decide
theorem vecK_letter {k : Int} (h : k = 0 ∨ k = 1 ∨ k = 2) : vecK (letter k) = some k ∧ scalarC (letter k) = false ∧ letter k ≠ 35 := by
  rcases h with rfl | rfl | rfl <;> decide

/-- one value change is read back -/
theorem rd_cmd {V : Vals} (hV : ValsOk V) {l : List Dc} {x : Dc} {code v : Bs} (hx : knL V l code = some x) (hv : V.vv x.2.1 x.2.2 v = true) (s : PS) (hs : s.skip = false) (ws rest : List Wd)
    (hw : ws.map (·.1) = wordsL (cmdL V x.2.1 x.2.2 v code)) :
    pRun V (knL V l) s (ws ++ rest) = pRun V (knL V l) (if s.off = true ∧ x.2.1 = 0 then (if v = V.vi x.2.1 x.2.2 then s else s.prob 10 (ws.headD ([], 0, 0, 0))) else { s with out := s.out ++ [(1, 0, code, v)] }) rest := by
  obtain ⟨hc, rfl⟩ := kn_some hx
  obtain ⟨ht, hcode⟩ := cnt_iff.1 hc
  obtain ⟨hne, hsol, -⟩ := code_solid hcode
  have hfs := hV.solid _ _ _ ht hv
  have hpf := hV.par_fmt _ _ _ ht hv
  have hcm : cmdL V x.2.1 x.2.2 v x.1 = if short1 x.2.1 x.2.2 = true then V.fmt x.2.1 x.2.2 v ++ x.1 else letter x.2.1 :: V.fmt x.2.1 x.2.2 v ++ 32 :: x.1 := by
    unfold cmdL; rw [if_pos (by rw [ht, hv, hcode]; rfl)]
  rw [hcm] at hw
  by_cases h1 : short1 x.2.1 x.2.2 = true
  · rw [if_pos h1] at hw
    have hk : (x.2.1 = 0 ∨ x.2.1 = 3) ∧ ∃ c, V.fmt x.2.1 x.2.2 v = [c] ∧ scalarC c = true ∧ c ≠ 35 ∧ c ≠ 36 := by
      unfold short1 at h1
      rw [Bool.or_eq_true, Bool.and_eq_true, decide_eq_true_iff, decide_eq_true_iff, decide_eq_true_iff] at h1
      rcases h1 with h1 | ⟨h1, h2⟩
      · exact ⟨.inr h1, 49, by rw [h1]; exact hV.ev _ _, by decide, by decide, by decide⟩
      · refine ⟨.inl h1, ?_⟩
        rw [h1, h2] at hv ⊢
        rcases hV.one v hv with h | h | h | h <;> exact ⟨_, h, by decide, by decide, by decide⟩
    obtain ⟨hk, c, hf, hsc, h35, h36⟩ := hk
    rw [hf] at hw hpf
    rw [words_solid (u := [c] ++ x.1) (by
      intro d hd
      rcases List.mem_append.1 hd with hd | hd
      · exact hfs d (by rw [hf]; exact hd)
      · exact hsol d hd) (by simp)] at hw
    obtain ⟨w, rfl, hw1⟩ := map_one hw
    have hw1 : w.1 = c :: x.1 := by simpa using hw1
    rw [List.singleton_append, pRun_cons]
    have hst : pStep V (knL V l) s w rest = (changeP V (knL V l) s w w x.1 [c] [0, 3], rest) := by
      unfold pStep
      rw [hw1]
      dsimp only
      rw [if_neg h35, if_neg h36, if_pos hsc, if_neg hne]
    rw [hst]
    dsimp only
    congr 1
    unfold changeP
    rw [if_neg (by rw [hs]; simp), hx]
    dsimp only
    rw [if_neg (by rcases hk with h | h <;> rw [h] <;> simp), hpf, if_neg (by simp)]
    dsimp only [List.headD]
    split
    · rfl
    · unfold PS.put; rw [if_neg (by rw [hs]; simp)]
  · rw [if_neg h1] at hw
    have hk : x.2.1 = 0 ∨ x.2.1 = 1 ∨ x.2.1 = 2 := by
      rcases hV.kind _ _ ht with h | h | h | h
      · exact .inl h
      · exact .inr (.inl h)
      · exact .inr (.inr h)
      · exact absurd (by unfold short1; rw [h]; rfl) h1
    obtain ⟨hvk, hsc, h35⟩ := vecK_letter hk
    have hlt := letter_solid x.2.1
    rw [words_two (u := letter x.2.1 :: V.fmt x.2.1 x.2.2 v) (by
      intro d hd
      rcases List.mem_cons.1 hd with rfl | hd
      · exact hlt.1
      · exact hfs d hd) (by simp) hsol hne] at hw
    obtain ⟨w, h, rfl, hw1, hw2⟩ := map_two hw
    rw [show [w, h] ++ rest = w :: h :: rest from rfl, pRun_cons]
    have hst : pStep V (knL V l) s w (h :: rest) = (changeP V (knL V l) s w h x.1 (V.fmt x.2.1 x.2.2 v) [x.2.1], rest) := by
      unfold pStep
      rw [hw1]
      dsimp only
      rw [if_neg h35, if_neg hlt.2, if_neg (by rw [hsc]; simp), hvk]
      dsimp only
      rw [hw2]
    rw [hst]
    dsimp only
    congr 1
    unfold changeP
    rw [if_neg (by rw [hs]; simp), hx]
    dsimp only
    rw [if_neg (by simp), hpf, if_neg (by simp)]
    dsimp only [List.headD]
    split
    · rfl
    · unfold PS.put; rw [if_neg (by rw [hs]; simp)]

/-- the lines that make all Bits signals x are read without an effect -/
theorem run_off {V : Vals} (hV : ValsOk V) {l : List Dc} (s : PS) (hs : s.skip = false) (ho : s.off = true) : ∀ (t p : List Dc) (done : List Bs) (ws rest : List Wd), l = p ++ t → (∀ c, c ∈ done ↔ ∃ x ∈ p, cnt V x = true ∧ x.1 = c) →
    ws.map (·.1) = (offLines V done t).flatMap wordsL → pRun V (knL V l) s (ws ++ rest) = pRun V (knL V l) s rest
  | [], p, done, ws, rest, _, _, hw => by
    have : ws = [] := by simpa [offLines] using hw
    rw [this]; rfl
  | x :: t, p, done, ws, rest, hl, hd, hw => by
    unfold offLines at hw
    have hl2 : l = (p ++ [x]) ++ t := by rw [hl]; simp
    split at hw
    · rename_i hc
      have hd2 : ∀ c, c ∈ x.1 :: done ↔ ∃ y ∈ p ++ [x], cnt V y = true ∧ y.1 = c := by
        intro c
        rw [List.mem_cons, hd c]
        constructor
        · rintro (rfl | ⟨y, hy, h⟩)
          · exact ⟨x, by simp, hc, rfl⟩
          · exact ⟨y, by simp [hy], h⟩
        · rintro ⟨y, hy, h⟩
          rcases List.mem_append.1 hy with hy | hy
          · exact .inr ⟨y, hy, h⟩
          · rw [List.mem_singleton] at hy; subst hy; exact .inl h.2.symm
      split at hw
      · rename_i h0
        obtain ⟨h0, hnd⟩ := h0
        rw [List.flatMap_cons] at hw
        obtain ⟨u, v, rfl, hu, hv⟩ := map_app hw
        have hk : knL V l x.1 = some x := by
          unfold knL
          rw [hl, List.find?_append, List.find?_eq_none.2, List.find?_cons, hc]
          · simp
          · intro y hy h
            rw [Bool.and_eq_true, decide_eq_true_iff] at h
            exact hnd ((hd x.1).2 ⟨y, hy, h⟩)
        rw [List.append_assoc, rd_cmd hV hk (hV.vi_ok _ _ (cnt_iff.1 hc).1) s hs u (v ++ rest) hu, if_pos ⟨ho, h0⟩, if_pos rfl]
        exact run_off hV s hs ho t (p ++ [x]) (x.1 :: done) v rest hl2 hd2 hv
      · exact run_off hV s hs ho t (p ++ [x]) (x.1 :: done) ws rest hl2 hd2 hw
    · rename_i hc
      refine run_off hV s hs ho t (p ++ [x]) done ws rest hl2 (fun c => ?_) hw
      rw [hd c]
      constructor
      · rintro ⟨y, hy, h⟩; exact ⟨y, by simp [hy], h⟩
      · rintro ⟨y, hy, h⟩
        rcases List.mem_append.1 hy with hy | hy
        · exact ⟨y, hy, h⟩
        · rw [List.mem_singleton] at hy; subst hy; exact absurd h.1 hc

def lastA : Int → List Rc → Int
  | last, [] => last
  | last, r :: t => lastA (if r.1 = 0 then r.2.1 else last) t
def offA : Bool → List Rc → Bool
  | off, [] => off
  | off, r :: t => offA (if r.1 = 2 ∨ r.1 = 3 then !off else off) t
def opnA : Bool → List Rc → Bool
  | o, [] => o
  | o, r :: t => opnA (opnAfter r o) t
def fmtMid (V : Vals) (K : Bs → Option Dc) (l : List Dc) : Bool → List Rc → List Bs
  | _, [] => []
  | o, r :: t => (if o = true ∧ r.1 ≠ 1 then [sEnd] else []) ++ recLines V K l r ++ fmtMid V K l (opnAfter r o) t
theorem fmt_split (V : Vals) (K : Bs → Option Dc) (l : List Dc) : ∀ (a b : List Rc) (o : Bool), fmtLines V K l o (a ++ b) = fmtMid V K l o a ++ fmtLines V K l (opnA o a) b
  | [], b, o => rfl
  | r :: a, b, o => by
    show (if o = true ∧ r.1 ≠ 1 then [sEnd] else []) ++ recLines V K l r ++ fmtLines V K l (opnAfter r o) (a ++ b) = _
    rw [fmt_split V K l a b]
    simp [fmtMid, opnA, List.append_assoc]
theorem valid_app {V : Vals} {K : Bs → Option Dc} : ∀ (a b : List Rc) (last : Int) (off : Bool), validL V K last off (a ++ b) = (validL V K last off a && validL V K (lastA last a) (offA off a) b)
  | [], b, last, off => by simp [validL, lastA, offA]
  | r :: a, b, last, off => by
    rw [List.cons_append, validL, validL, lastA, offA]
    by_cases h0 : r.1 = 0
    · rw [if_pos h0, if_pos h0, if_pos h0, if_neg (by omega), valid_app a b]; simp only [Bool.and_assoc]
    rw [if_neg h0, if_neg h0, if_neg h0]
    by_cases h1 : r.1 = 1
    · rw [if_pos h1, if_pos h1, if_neg (by omega)]
      cases K r.2.2.1 with
      | none => rfl
      | some x => dsimp only; rw [valid_app a b]; simp only [Bool.and_assoc]
    rw [if_neg h1, if_neg h1]
    by_cases h2 : r.1 = 2 ∨ r.1 = 3
    · rw [if_pos h2, if_pos h2, if_pos h2, valid_app a b]; simp only [Bool.and_assoc]
    rw [if_neg h2, if_neg h2, if_neg h2]
    by_cases h4 : r.1 = 4
    · rw [if_pos h4, if_pos h4, valid_app a b]; simp only [Bool.and_assoc]
    · rw [if_neg h4, if_neg h4]; rfl

theorem step_end {V : Vals} {K : Bs → Option Dc} {s : PS} {w : Wd} {t : List Wd} (hw : w.1 = sEnd) (ho : s.opn = true) : pRun V K s (w :: t) = pRun V K { s with opn := false } t := by
  rw [pRun_cons]
  have : pStep V K s w t = ({ s with opn := false }, t) := by
    unfold pStep
    rw [hw]
    unfold sEnd
    dsimp only
    rw [if_neg (by decide), if_pos rfl, if_neg (by decide), if_neg (by decide), if_neg (by decide), if_pos (by decide)]
    unfold endP
    rw [if_pos ho]
  rw [this]
theorem step_turn {V : Vals} {K : Bs → Option Dc} {s : PS} {w : Wd} {t : List Wd} {b : Bool} (hw : w.1 = if b = true then sDumpoff else sDumpon) (ho : s.opn = false) (hs : s.skip = false) (hf : (s.off != b) = true) :
    pRun V K s (w :: t) = pRun V K { s with opn := true, off := b, out := s.out ++ [(if b = true then 2 else 3, 0, [], [])] } t := by
  rw [pRun_cons]
  have : pStep V K s w t = (turnP s w b, t) := by
    unfold pStep
    rw [hw]
    cases b
    · show (if _ then _ else _) = _
      rw [if_neg (by decide), if_pos rfl, if_neg (by decide), if_neg (by decide), if_pos (by decide)]
    · show (if _ then _ else _) = _
      rw [if_neg (by decide), if_pos rfl, if_neg (by decide), if_pos (by decide)]
  rw [this]
  have hq : (s.off == b) = false := (show ∀ x y : Bool, (x != y) = true → (x == y) = false by decide) _ _ hf
  unfold turnP
  dsimp only
  rw [ho, hq, hs, if_neg (by simp), if_neg (by simp)]
  unfold PS.put
  dsimp only
  rw [if_neg (by rw [hs]; simp), hs]
theorem step_dump {V : Vals} {K : Bs → Option Dc} {s : PS} {w : Wd} {t : List Wd} (hw : w.1 = sDumpvars) (ho : s.opn = false) (hs : s.skip = false) :
    pRun V K s (w :: t) = pRun V K { s with opn := true, out := s.out ++ [(4, 0, [], [])] } t := by
  rw [pRun_cons]
  have : pStep V K s w t = (dumpP s w, t) := by
    unfold pStep
    rw [hw]
    unfold sDumpvars
    dsimp only
    rw [if_neg (by decide), if_pos rfl, if_pos (by decide)]
  rw [this]
  unfold dumpP
  rw [ho, if_neg (by simp)]
  unfold PS.put
  dsimp only
  rw [if_neg (by rw [hs]; simp)]
theorem step_time {V : Vals} {K : Bs → Option Dc} {s : PS} {w : Wd} {t : List Wd} {n : Int} (hw : w.1 = 35 :: Lib.itoa n) (h0 : 0 ≤ s.last) (h1 : s.last ≤ n) (h2 : n ≤ 1099511627776) (hs : s.skip = false) :
    pRun V K s (w :: t) = pRun V K { s with last := n, out := s.out ++ [(0, n, [], [])] } t := by
  rw [pRun_cons]
  have : pStep V K s w t = (timeP s w, t) := by
    unfold pStep
    rw [hw]
    dsimp only
    rw [if_pos rfl]
  rw [this]
  unfold timeP
  rw [hw, show (35 :: Lib.itoa n).drop 1 = Lib.itoa n from rfl, time_itoa (by omega) h2]
  dsimp only
  rw [if_neg (by omega)]
  unfold PS.put
  dsimp only
  rw [if_neg (by simp)]
  rw [← hs]
theorem words_sEnd : wordsL sEnd = [sEnd] := by decide
theorem words_dump : wordsL sDumpvars = [sDumpvars] := by decide
theorem words_on : wordsL sDumpon = [sDumpon] := by decide
theorem words_offw : wordsL sDumpoff = [sDumpoff] := by decide
theorem words_time {n : Int} (h : 0 ≤ n) : wordsL (35 :: Lib.itoa n) = [35 :: Lib.itoa n] := words_solid (by
  intro c hc
  rcases List.mem_cons.1 hc with rfl | hc
  · decide
  · exact itoa_solid h c hc) (by simp)

/-- one record is read back -/
theorem run_rec {V : Vals} (hV : ValsOk V) {l : List Dc} {r : Rc} {s : PS} (hv : validL V (knL V l) s.last s.off [r] = true) (hs : s.skip = false) (h0 : 0 ≤ s.last) (ws rest : List Wd)
    (hw : ws.map (·.1) = ((if s.opn = true ∧ r.1 ≠ 1 then [sEnd] else []) ++ recLines V (knL V l) l r).flatMap wordsL) :
    pRun V (knL V l) s (ws ++ rest) = pRun V (knL V l) { s with last := lastA s.last [r], off := offA s.off [r], opn := opnAfter r s.opn, out := s.out ++ [r] } rest ∧ 0 ≤ lastA s.last [r] := by
  obtain ⟨rk, rt, rc, rv⟩ := r
  dsimp only at hw
  by_cases h1 : rk = 1
  · subst h1
    rw [if_neg (by simp), List.nil_append] at hw
    unfold validL at hv
    rw [if_neg (by simp), if_pos rfl] at hv
    dsimp only at hv
    cases hx : knL V l rc with
    | none => rw [hx] at hv; cases hv
    | some x =>
      rw [hx] at hv
      dsimp only at hv
      rw [Bool.and_eq_true, Bool.and_eq_true, Bool.and_eq_true, decide_eq_true_iff, Bool.not_eq_true', decide_eq_false_iff_not, Bool.not_eq_true', Bool.and_eq_false_iff, decide_eq_false_iff_not] at hv
      obtain ⟨⟨⟨rfl, hc⟩, hof⟩, -⟩ := hv
      have hrl : recLines V (knL V l) l (1, 0, rc, rv) = [cmdL V x.2.1 x.2.2 rv rc] := by
        unfold recLines
        dsimp only
        rw [if_neg (by omega), if_pos rfl]
        unfold cmdK
        dsimp only
        rw [hx]
      rw [hrl, List.flatMap_cons, List.flatMap_nil, List.append_nil] at hw
      rw [rd_cmd hV hx (cmd_ne hc).2.1 s hs ws rest hw, if_neg (by rintro ⟨a, b⟩; rcases hof with h | h; (rw [h] at a; cases a); exact h b)]
      exact ⟨rfl, h0⟩
  have hcl : ∃ u v, ws = u ++ v ∧ v.map (·.1) = (recLines V (knL V l) l (rk, rt, rc, rv)).flatMap wordsL ∧ pRun V (knL V l) s (ws ++ rest) = pRun V (knL V l) { s with opn := false } (v ++ rest) := by
    by_cases ho : s.opn = true
    · rw [if_pos ⟨ho, h1⟩, List.singleton_append, List.flatMap_cons, words_sEnd] at hw
      obtain ⟨u, v, rfl, hu, hv2⟩ := map_app hw
      obtain ⟨w, rfl, hw1⟩ := map_one hu
      exact ⟨_, v, rfl, hv2, by rw [List.append_assoc, List.singleton_append, step_end hw1 ho]⟩
    · rw [if_neg (fun h => ho h.1), List.nil_append] at hw
      exact ⟨[], ws, rfl, hw, by
        have : s.opn = false := by simpa using ho
        rw [← this]⟩
  obtain ⟨-, v, -, hwv, hrun⟩ := hcl
  rw [hrun]
  clear hrun hw
  unfold validL at hv
  dsimp only at hv
  by_cases hk0 : rk = 0
  · subst hk0
    rw [if_pos rfl, Bool.and_eq_true, Bool.and_eq_true, Bool.and_eq_true, decide_eq_true_iff, Bool.not_eq_true', decide_eq_false_iff_not, decide_eq_true_iff] at hv
    obtain ⟨⟨⟨e, hlt⟩, hle⟩, -⟩ := hv
    injection e with e1 e2
    subst e1 e2
    have hrl : recLines V (knL V l) l (0, rt, [], []) = [35 :: Lib.itoa rt] := rfl
    rw [hrl, List.flatMap_cons, List.flatMap_nil, List.append_nil, words_time (by omega)] at hwv
    obtain ⟨w, rfl, hw1⟩ := map_one hwv
    rw [List.singleton_append, step_time (s := { s with opn := false }) hw1 h0 (by show s.last ≤ rt; omega) hle hs]
    exact ⟨rfl, by show 0 ≤ rt; omega⟩
  rw [if_neg hk0, if_neg h1] at hv
  by_cases h23 : rk = 2 ∨ rk = 3
  · rw [if_pos h23, Bool.and_eq_true, Bool.and_eq_true, decide_eq_true_iff] at hv
    obtain ⟨⟨e, hof⟩, -⟩ := hv
    injection e with e1 e2
    injection e2 with e2 e3
    subst e1 e2 e3
    rcases h23 with rfl | rfl
    · have hrl : recLines V (knL V l) l (2, 0, [], []) = sDumpoff :: offLines V [] l ++ [sEnd] := rfl
      rw [hrl, List.cons_append, List.flatMap_cons, words_offw, List.flatMap_append, List.flatMap_cons, List.flatMap_nil, List.append_nil, words_sEnd] at hwv
      obtain ⟨u1, u2, rfl, hu1, hu2⟩ := map_app hwv
      obtain ⟨u3, u4, rfl, hu3, hu4⟩ := map_app hu2
      obtain ⟨w, rfl, hw1⟩ := map_one hu1
      obtain ⟨w2, rfl, hw2⟩ := map_one hu4
      have hso : s.off = false := by cases h : s.off with
        | false => rfl
        | true => rw [h] at hof; cases hof
      rw [List.append_assoc, List.singleton_append, step_turn (s := { s with opn := false }) (b := true) hw1 rfl hs (by show (s.off != true) = true; rw [hso]; rfl), List.append_assoc,
        run_off (l := l) hV _ (by exact hs) (by rfl) l [] [] u3 _ rfl (by simp) hu3, List.singleton_append, step_end hw2 rfl]
      refine ⟨?_, h0⟩
      unfold offA offA lastA lastA opnAfter
      rw [hso]
      rfl
    · have hrl : recLines V (knL V l) l (3, 0, [], []) = [sDumpon] := rfl
      rw [hrl, List.flatMap_cons, List.flatMap_nil, List.append_nil, words_on] at hwv
      obtain ⟨w, rfl, hw1⟩ := map_one hwv
      have hso : s.off = true := by cases h : s.off with
        | true => rfl
        | false => rw [h] at hof; cases hof
      rw [List.singleton_append, step_turn (s := { s with opn := false }) (b := false) hw1 rfl hs (by show (s.off != false) = true; rw [hso]; rfl)]
      refine ⟨?_, h0⟩
      unfold offA offA lastA lastA opnAfter
      rw [hso]
      rfl
  rw [if_neg h23] at hv
  by_cases h4 : rk = 4
  · rw [if_pos h4, Bool.and_eq_true, decide_eq_true_iff] at hv
    obtain ⟨e, -⟩ := hv
    injection e with e1 e2
    injection e2 with e2 e3
    subst e1 e2 e3 h4
    have hrl : recLines V (knL V l) l (4, 0, [], []) = [sDumpvars] := rfl
    rw [hrl, List.flatMap_cons, List.flatMap_nil, List.append_nil, words_dump] at hwv
    obtain ⟨w, rfl, hw1⟩ := map_one hwv
    rw [List.singleton_append, step_dump (s := { s with opn := false }) hw1 rfl hs]
    exact ⟨rfl, h0⟩
  · rw [if_neg h4] at hv; cases hv

/-- records are read back, whatever follows -/
theorem run_mid {V : Vals} (hV : ValsOk V) {l : List Dc} : ∀ (rs : List Rc) (s : PS) (ws rest : List Wd), validL V (knL V l) s.last s.off rs = true → s.skip = false → 0 ≤ s.last →
    ws.map (·.1) = (fmtMid V (knL V l) l s.opn rs).flatMap wordsL →
    pRun V (knL V l) s (ws ++ rest) = pRun V (knL V l) { s with last := lastA s.last rs, off := offA s.off rs, opn := opnA s.opn rs, out := s.out ++ rs } rest ∧ 0 ≤ lastA s.last rs
  | [], s, ws, rest, _, _, h0, hw => by
    have : ws = [] := by simpa [fmtMid] using hw
    subst this
    refine ⟨?_, h0⟩
    simp [lastA, offA, opnA]
  | r :: rs, s, ws, rest, hv, hs, h0, hw => by
    have hv2 := hv
    rw [show r :: rs = [r] ++ rs from rfl, valid_app, Bool.and_eq_true] at hv2
    unfold fmtMid at hw
    rw [List.flatMap_append] at hw
    obtain ⟨u, v, rfl, hu, hvw⟩ := map_app hw
    obtain ⟨e1, hz⟩ := run_rec hV hv2.1 hs h0 u (v ++ rest) hu
    rw [List.append_assoc, e1]
    obtain ⟨e2, hz2⟩ := run_mid hV rs { s with last := lastA s.last [r], off := offA s.off [r], opn := opnAfter r s.opn, out := s.out ++ [r] } v rest hv2.2 hs hz hvw
    rw [e2]
    refine ⟨?_, hz2⟩
    simp [lastA, offA, opnA]
/-- reading the text of valid records gives them -/
theorem run_all {V : Vals} (hV : ValsOk V) {l : List Dc} {rs : List Rc} {s : PS} {ws : List Wd} (hv : validL V (knL V l) s.last s.off rs = true) (hs : s.skip = false) (h0 : 0 ≤ s.last)
    (hw : ws.map (·.1) = (fmtLines V (knL V l) l s.opn rs).flatMap wordsL) : (pRun V (knL V l) s ws).out = s.out ++ rs ∧ (pRun V (knL V l) s ws).wrong = s.wrong := by
  have hf := fmt_split V (knL V l) l rs [] s.opn
  rw [List.append_nil] at hf
  rw [hf, List.flatMap_append] at hw
  obtain ⟨u, v, rfl, hu, hvw⟩ := map_app hw
  obtain ⟨e, -⟩ := run_mid hV rs s u v hv hs h0 hu
  rw [e]
  cases ho : opnA s.opn rs with
  | false =>
    rw [ho] at hvw
    have : v = [] := by simpa [fmtLines] using hvw
    subst this
    rw [pRun_nil]
    exact ⟨rfl, rfl⟩
  | true =>
    rw [ho] at hvw
    have : v.map (·.1) = [sEnd] := by
      have e2 : (fmtLines V (knL V l) l true []).flatMap wordsL = [sEnd] := by
        show ([sEnd] : List Bs).flatMap wordsL = _
        rw [List.flatMap_cons, words_sEnd]; rfl
      rw [← e2]; exact hvw
    obtain ⟨w, rfl, hw1⟩ := map_one this
    rw [step_end hw1 rfl, pRun_nil]
    exact ⟨rfl, rfl⟩
theorem words_text (V : Vals) (l : List Dc) {rs : List Rc} (hv : validL V (knL V l) 0 false rs = true) : wordsL (formatL V l rs) = (fmtLines V (knL V l) l false rs).flatMap wordsL := by
  unfold formatL
  rw [if_pos hv]
  have := words_lines (fmtLines V (knL V l) l false rs) []
  rw [List.append_nil, words_nil, List.append_nil] at this
  exact this
theorem lines_ne {L : List Bs} (h : L ≠ []) : linesT L ≠ [] := by
  cases L with
  | nil => exact absurd rfl h
  | cons x L => unfold linesT lineT; simp
theorem recLines_ne (V : Vals) (K : Bs → Option Dc) (l : List Dc) (r : Rc) : recLines V K l r ≠ [] := by
  unfold recLines
  split
  · simp
  · split
    · simp
    · split
      · simp
      · split <;> simp
theorem format_nil {V : Vals} {l : List Dc} {rs : List Rc} : formatL V l rs ≠ [] ↔ validL V (knL V l) 0 false rs = true ∧ rs ≠ [] := by
  unfold formatL
  constructor
  · intro h
    split at h
    · rename_i hv
      refine ⟨hv, ?_⟩
      rintro rfl
      exact h rfl
    · exact absurd rfl h
  · rintro ⟨hv, hn⟩
    rw [if_pos hv]
    apply lines_ne
    cases rs with
    | nil => exact absurd rfl hn
    | cons r rs =>
      unfold fmtLines
      intro h
      rw [List.append_eq_nil_iff, List.append_eq_nil_iff] at h
      exact recLines_ne V _ l r h.1.2
theorem read_format {V : Vals} (hV : ValsOk V) {l : List Dc} {rs : List Rc} {ws : List Wd} (hf : formatL V l rs ≠ []) (hw : ws.map (·.1) = wordsL (formatL V l rs)) : (parseL V l ws).out = rs ∧ (parseL V l ws).wrong = [] := by
  obtain ⟨hv, -⟩ := format_nil.1 hf
  rw [words_text V l hv] at hw
  have := run_all hV (s := ps0) hv rfl (Int.le_refl _) hw
  simpa [parseL, ps0] using this
end Go.Proofs.YtgnkjcdkfcikeaaGreatDoor
