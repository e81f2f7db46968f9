/- Plain: what is read is valid; a comment between records; a value change with an unknown code; where problems stand. -/
import Derived.Test.YtgnkjcdkfcikeaaGreatDoorCp3
namespace Go.Proofs.YtgnkjcdkfcikeaaGreatDoor

/-! what is read is valid -/
structure PSok (V : Vals) (K : Bs → Option Dc) (s : PS) : Prop where
  v : validL V K 0 false s.out = true
  l : lastA 0 s.out = s.last
  o : offA false s.out = s.off
theorem lastA_app : ∀ (a b : List Rc) (x : Int), lastA x (a ++ b) = lastA (lastA x a) b
  | [], _, _ => rfl
  | _ :: a, b, _ => lastA_app a b _
theorem offA_app : ∀ (a b : List Rc) (x : Bool), offA x (a ++ b) = offA (offA x a) b
  | [], _, _ => rfl
  | _ :: a, b, _ => offA_app a b _
theorem PSok.prob {V : Vals} {K : Bs → Option Dc} {s : PS} (h : PSok V K s) (e : Int) (w : Wd) : PSok V K (s.prob e w) := ⟨h.v, h.l, h.o⟩
/-- what is put, with the state that it belongs to -/
theorem PSok.app {V : Vals} {K : Bs → Option Dc} {s s' : PS} (h : PSok V K s) {r : Rc} (hv : validL V K s.last s.off [r] = true) (ho : s'.out = s.out ++ [r]) (hl : s'.last = lastA s.last [r]) (hf : s'.off = offA s.off [r]) : PSok V K s' :=
  ⟨by rw [ho, valid_app, h.v, h.l, h.o, hv]; rfl, by rw [ho, lastA_app, h.l, hl], by rw [ho, offA_app, h.o, hf]⟩
theorem PSok.same {V : Vals} {K : Bs → Option Dc} {s s' : PS} (h : PSok V K s) (ho : s'.out = s.out) (hl : s'.last = s.last) (hf : s'.off = s.off) : PSok V K s' :=
  ⟨by rw [ho]; exact h.v, by rw [ho, h.l, hl], by rw [ho, h.o, hf]⟩
theorem PSok.time {V : Vals} {K : Bs → Option Dc} {s : PS} (h : PSok V K s) (w : Wd) : PSok V K (timeP s w) := by
  unfold timeP
  split
  · exact h.same rfl rfl rfl
  · rename_i t ht
    split
    · exact h.same rfl rfl rfl
    · rename_i hn
      refine h.app (r := (0, t, [], [])) ?_ rfl rfl rfl
      unfold validL validL
      rw [if_pos rfl]
      dsimp only
      rw [decide_eq_false (show ¬ t < s.last by omega), decide_eq_true (show t ≤ 1099511627776 by omega)]
      rfl
theorem PSok.dump {V : Vals} {K : Bs → Option Dc} {s : PS} (h : PSok V K s) (w : Wd) : PSok V K (dumpP s w) := by
  unfold dumpP PS.put
  have h1 : PSok V K (if s.opn = true then s.prob 10 w else s) := by
    split
    · exact h.prob _ _
    · exact h
  generalize (if s.opn = true then s.prob 10 w else s) = s1 at h1 ⊢
  dsimp only
  split
  · exact h1.same rfl rfl rfl
  · exact h1.app (r := (4, 0, [], [])) rfl rfl rfl rfl
theorem PSok.turn {V : Vals} {K : Bs → Option Dc} {s : PS} (h : PSok V K s) (w : Wd) (o : Bool) : PSok V K (turnP s w o) := by
  unfold turnP
  have h1 : PSok V K (if (s.opn || (s.off == o)) = true then s.prob 10 w else s) ∧ (if (s.opn || (s.off == o)) = true then s.prob 10 w else s).off = s.off ∧ (if (s.opn || (s.off == o)) = true then s.prob 10 w else s).skip = s.skip := by
    split
    · exact ⟨h.prob _ _, rfl, rfl⟩
    · exact ⟨h, rfl, rfl⟩
  generalize (if (s.opn || (s.off == o)) = true then s.prob 10 w else s) = s1 at h1 ⊢
  obtain ⟨h1, h2, h3⟩ := h1
  dsimp only
  split
  · exact h1.same rfl rfl rfl
  · rename_i hn
    have hn' : (s.off == o) = false ∧ s.skip = false := by simpa using hn
    unfold PS.put
    dsimp only
    rw [if_neg (by rw [h3, hn'.2]; simp)]
    have hoo : s1.off = !o := by
      rw [h2]
      exact (show ∀ x y : Bool, (x == y) = false → x = !y by decide) _ _ hn'.1
    refine h1.app (r := (if o = true then 2 else 3, 0, [], [])) ?_ rfl ?_ ?_
    · rw [hoo]; cases o <;> rfl
    · cases o <;> rfl
    · rw [hoo]; cases o <;> rfl
theorem PSok.fin {V : Vals} {K : Bs → Option Dc} {s : PS} (h : PSok V K s) (w : Wd) : PSok V K (endP s w) := by
  unfold endP
  split
  · exact h.same rfl rfl rfl
  · exact h.same rfl rfl rfl
theorem PSok.change {V : Vals} (hV : ValsOk V) {l : List Dc} {s : PS} (h : PSok V (knL V l) s) (w hw : Wd) (code text : Bs) (kinds : List Int) : PSok V (knL V l) (changeP V (knL V l) s w hw code text kinds) := by
  unfold changeP
  split
  · exact h
  · rename_i hs
    split
    · exact h.prob _ _
    · rename_i x hx
      split
      · exact h.prob _ _
      · split
        · exact h.prob _ _
        · rename_i hp
          split
          · split
            · exact h
            · exact h.prob _ _
          · rename_i hof
            unfold PS.put
            rw [if_neg hs]
            obtain ⟨hc, hcode⟩ := kn_some hx
            obtain ⟨ht, hco⟩ := cnt_iff.1 hc
            have hpv : V.par x.2.1 x.2.2 text = ((V.par x.2.1 x.2.2 text).1, 0) := by
              have := Classical.not_not.1 hp
              rw [← this]
            have hvv := hV.par_ok _ _ _ _ hpv
            refine h.app (r := (1, 0, code, (V.par x.2.1 x.2.2 text).1)) ?_ rfl rfl rfl
            unfold validL validL
            rw [if_neg (by omega), if_pos rfl]
            dsimp only
            rw [hx]
            dsimp only
            have hcm : cmdL V x.2.1 x.2.2 (V.par x.2.1 x.2.2 text).1 code ≠ [] := by
              unfold cmdL
              rw [if_pos (by rw [ht, hvv, ← hcode, hco]; rfl)]
              split
              · intro hh
                have := (List.append_eq_nil_iff.1 hh).2
                exact (code_solid (hcode ▸ hco)).1 this
              · simp
            rw [decide_eq_false hcm]
            have : (s.off && decide (x.2.1 = 0)) = false := by
              rw [Bool.and_eq_false_iff, decide_eq_false_iff_not]
              by_cases ho : s.off = true
              · exact .inr fun hk => hof ⟨ho, hk⟩
              · exact .inl (by simpa using ho)
            rw [this]
            rfl
theorem PSok.step {V : Vals} (hV : ValsOk V) {l : List Dc} {s : PS} (h : PSok V (knL V l) s) (w : Wd) (t : List Wd) : PSok V (knL V l) (pStep V (knL V l) s w t).1 := by
  unfold pStep
  split
  · exact h.prob _ _
  · split
    · exact h.time w
    · split
      · split
        · exact h.dump w
        · split
          · exact h.turn w true
          · split
            · exact h.turn w false
            · split
              · exact h.fin w
              · unfold sectP
                split
                · exact h.prob _ _
                · dsimp only
                  split
                  · exact h
                  · exact h.prob _ _
      · split
        · split
          · dsimp only
            split
            · exact h
            · exact h.prob _ _
          · exact h.change hV _ _ _ _ _
        · split
          · exact h.prob _ _
          · split
            · dsimp only
              split
              · exact h
              · exact h.prob _ _
            · exact h.change hV _ _ _ _ _
theorem PSok.run {V : Vals} (hV : ValsOk V) {l : List Dc} : ∀ (n : Nat) (ws : List Wd) (s : PS), ws.length ≤ n → PSok V (knL V l) s → PSok V (knL V l) (pRun V (knL V l) s ws)
  | _, [], s, _, h => by rw [pRun_nil]; exact h
  | 0, w :: t, s, hl, h => by simp at hl
  | n + 1, w :: t, s, hl, h => by
    rw [pRun_cons]
    have := pStep_len V (knL V l) s w t
    exact PSok.run hV n _ _ (by simp at hl; omega) (h.step hV w t)
theorem parse_valid {V : Vals} (hV : ValsOk V) (l : List Dc) (ws : List Wd) : validL V (knL V l) 0 false (parseL V l ws).out = true :=
  (PSok.run hV ws.length ws ps0 (Nat.le_refl _) ⟨rfl, rfl, rfl⟩).v

/-! a comment between records -/
theorem step_comment {V : Vals} {K : Bs → Option Dc} {s : PS} {ws rest : List Wd} (hw : ws.map (·.1) = [[36, 99, 111, 109, 109, 101, 110, 116], [35, 49], [49, 33], sEnd]) : pRun V K s (ws ++ rest) = pRun V K s rest := by
  obtain ⟨u, v, rfl, hu, hv⟩ := map_app (a := [[36, 99, 111, 109, 109, 101, 110, 116], [35, 49]]) (b := [[49, 33], sEnd]) hw
  obtain ⟨w1, w2, rfl, h1, h2⟩ := map_two hu
  obtain ⟨w3, w4, rfl, h3, h4⟩ := map_two hv
  show pRun V K s (w1 :: w2 :: w3 :: w4 :: rest) = _
  rw [pRun_cons]
  have : pStep V K s w1 (w2 :: w3 :: w4 :: rest) = (s, rest) := by
    unfold pStep
    rw [h1]
    dsimp only
    rw [if_neg (by decide), if_pos rfl, if_neg (by decide), if_neg (by decide), if_neg (by decide), if_neg (by decide)]
    unfold sectP behind behind behind
    rw [h2, if_neg (by decide), h3, if_neg (by decide), h4, if_pos (show sEnd = [36, 101, 110, 100] from rfl)]
    dsimp only
    rw [h1, if_pos rfl]
  rw [this]
theorem cmd_head {V : Vals} (hV : ValsOk V) {k n : Int} {v id : Bs} {c : UInt8} {t : Bs} (h : cmdL V k n v id = c :: t) : c ≠ 36 := by
  have hne : cmdL V k n v id ≠ [] := by rw [h]; simp
  obtain ⟨ht, hv, hco⟩ := cmd_ne hne
  unfold cmdL at h
  rw [if_pos (by rw [ht, hv, hco]; rfl)] at h
  split at h
  · rename_i h1
    unfold short1 at h1
    rw [Bool.or_eq_true, Bool.and_eq_true, decide_eq_true_iff, decide_eq_true_iff, decide_eq_true_iff] at h1
    rcases h1 with rfl | ⟨rfl, rfl⟩
    · rw [hV.ev] at h
      injection h with h _
      subst h; decide
    · rcases hV.one v hv with e | e | e | e <;> (rw [e] at h; injection h with h _; subst h; decide)
  · injection h with h _
    rw [← h]
    exact (letter_solid k).2
theorem words_comment : wordsL [36, 99, 111, 109, 109, 101, 110, 116, 32, 35, 49, 32, 49, 33, 32, 36, 101, 110, 100] = [[36, 99, 111, 109, 109, 101, 110, 116], [35, 49], [49, 33], sEnd] := by decide
def sComment : Bs := lineT [36, 99, 111, 109, 109, 101, 110, 116, 32, 35, 49, 32, 49, 33, 32, 36, 101, 110, 100]
theorem linesT_app (a b : List Bs) : linesT (a ++ b) = linesT a ++ linesT b := by simp [linesT]
/-- the text before a change in a dump, or the text of the whole parted -/
theorem text_parts {V : Vals} (hV : ValsOk V) {l : List Dc} {a b : List Rc} (hb : b ≠ []) (hv : validL V (knL V l) 0 false (a ++ b) = true) {t s : Bs} (ht : t = formatL V l a) (hs : s = formatL V l (a ++ b)) {p : Bs} (hp : s = t ++ p) :
    ∃ M : List Bs, t = linesT M ∧ p = linesT (fmtLines V (knL V l) l false b) ∧ M = fmtMid V (knL V l) l false a ++ (if opnA false a = true then [sEnd] else []) := by
  have hva : validL V (knL V l) 0 false a = true := by
    rw [valid_app, Bool.and_eq_true] at hv; exact hv.1
  have ht2 : t = linesT (fmtMid V (knL V l) l false a ++ (if opnA false a = true then [sEnd] else [])) := by
    rw [ht]
    unfold formatL
    rw [if_pos hva]
    have := fmt_split V (knL V l) l a [] false
    rw [List.append_nil] at this
    rw [this]
    rfl
  have hs2 : s = linesT (fmtMid V (knL V l) l false a ++ fmtLines V (knL V l) l (opnA false a) b) := by
    rw [hs]
    unfold formatL
    rw [if_pos hv, fmt_split]
  refine ⟨_, ht2, ?_, rfl⟩
  have hp2 : linesT (fmtLines V (knL V l) l (opnA false a) b) = linesT (if opnA false a = true then [sEnd] else []) ++ p := by
    rw [hs2, ht2, linesT_app, linesT_app, List.append_assoc] at hp
    exact List.append_cancel_left hp
  cases ho : opnA false a with
  | false =>
    rw [ho] at hp2
    exact hp2.symm
  | true =>
    rw [ho, if_pos rfl] at hp2
    cases b with
    | nil => exact absurd rfl hb
    | cons r b =>
      by_cases h1 : r.1 = 1
      · exfalso
        rw [fmtLines, if_neg (fun h => h.2 h1), List.nil_append] at hp2
        have hrl : recLines V (knL V l) l r = [cmdK V (knL V l) r] := by
          unfold recLines
          rw [if_neg (by omega), if_pos h1]
        rw [hrl] at hp2
        rw [show linesT ([cmdK V (knL V l) r] ++ fmtLines V (knL V l) l (opnAfter r true) b) = cmdK V (knL V l) r ++ ([10] ++ linesT (fmtLines V (knL V l) l (opnAfter r true) b)) by simp [linesT, lineT]] at hp2
        rw [show linesT [sEnd] = [36, 101, 110, 100, 10] from rfl] at hp2
        cases hc : cmdK V (knL V l) r with
        | nil =>
          rw [hc] at hp2
          injection hp2 with hp2 _
          exact absurd hp2 (by decide)
        | cons c t' =>
          rw [hc] at hp2
          injection hp2 with hp2 _
          unfold cmdK at hc
          split at hc
          · cases hc
          · exact cmd_head hV hc hp2
      · rw [fmtLines, if_pos ⟨rfl, h1⟩, List.append_assoc, linesT_app] at hp2
        rw [← List.append_cancel_left hp2, fmtLines, if_neg (by simp), List.nil_append, show opnAfter r true = opnAfter r false by unfold opnAfter; rw [if_neg h1, if_neg h1]]
theorem read_comment {V : Vals} (hV : ValsOk V) {l : List Dc} {a b : List Rc} (hb : b ≠ []) {t s : Bs} (hne : s ≠ []) (ht : t = formatL V l a) (hs : s = formatL V l (a ++ b)) {p : Bs} (hp : s = t ++ p) {ws : List Wd} (hw : ws.map (·.1) = wordsL (t ++ (sComment ++ p))) :
    (parseL V l ws).out = a ++ b ∧ (parseL V l ws).wrong = [] := by
  obtain ⟨hv, -⟩ := format_nil.1 (hs ▸ hne)
  obtain ⟨M, htM, hpb, hM⟩ := text_parts hV hb hv ht hs hp
  have hv2 := hv
  rw [valid_app, Bool.and_eq_true] at hv2
  rw [htM, words_lines, show sComment ++ p = lineT [36, 99, 111, 109, 109, 101, 110, 116, 32, 35, 49, 32, 49, 33, 32, 36, 101, 110, 100] ++ p from rfl, words_line, words_comment] at hw
  have hwp : wordsL p = (fmtLines V (knL V l) l false b).flatMap wordsL := by
    rw [hpb]
    have := words_lines (fmtLines V (knL V l) l false b) []
    rw [List.append_nil, words_nil, List.append_nil] at this
    exact this
  rw [hwp] at hw
  obtain ⟨u1, u2, rfl, hu1, hu2⟩ := map_app hw
  obtain ⟨u3, u4, rfl, hu3, hu4⟩ := map_app hu2
  rw [hM, List.flatMap_append] at hu1
  obtain ⟨u5, u6, rfl, hu5, hu6⟩ := map_app hu1
  unfold parseL
  rw [List.append_assoc]
  obtain ⟨e1, hz⟩ := run_mid hV a ps0 u5 (u6 ++ (u3 ++ u4)) hv2.1 rfl (Int.le_refl _) hu5
  rw [e1]
  have e2 : pRun V (knL V l) { ps0 with last := lastA ps0.last a, off := offA ps0.off a, opn := opnA ps0.opn a, out := ps0.out ++ a } (u6 ++ (u3 ++ u4)) =
      pRun V (knL V l) { ps0 with last := lastA 0 a, off := offA false a, opn := false, out := a } (u3 ++ u4) := by
    cases ho : opnA false a with
    | false =>
      rw [ho] at hu6
      have : u6 = [] := by simpa using hu6
      subst this
      rw [show opnA ps0.opn a = opnA false a from rfl, ho]
      rfl
    | true =>
      rw [ho, if_pos rfl, List.flatMap_cons, words_sEnd] at hu6
      obtain ⟨w, rfl, hw1⟩ := map_one hu6
      rw [List.singleton_append, step_end hw1 (by exact ho)]
      rfl
  rw [e2, step_comment hu3]
  have := run_all hV (s := { ps0 with last := lastA 0 a, off := offA false a, opn := false, out := a }) (rs := b) hv2.2 rfl hz hu4
  exact this

/-! a problem ahead of all -/
def PS.pre (p : List Pb) (s : PS) : PS := { s with wrong := p ++ s.wrong }
theorem pre_prob (p : List Pb) (s : PS) (e : Int) (w : Wd) : (s.pre p).prob e w = (s.prob e w).pre p := by unfold PS.pre PS.prob; simp
theorem pre_put (p : List Pb) (s : PS) (r : Rc) : (s.pre p).put r = (s.put r).pre p := by
  unfold PS.put
  rw [show (s.pre p).skip = s.skip from rfl]
  split <;> rfl
theorem pre_time (p : List Pb) (s : PS) (w : Wd) : timeP (s.pre p) w = (timeP s w).pre p := by
  unfold timeP
  rw [show (s.pre p).last = s.last from rfl]
  split
  · rw [← pre_prob]; rfl
  · split
    · rw [← pre_prob]; rfl
    · rw [← pre_put]; rfl
theorem pre_dump (p : List Pb) (s : PS) (w : Wd) : dumpP (s.pre p) w = (dumpP s w).pre p := by
  unfold dumpP
  rw [show (s.pre p).opn = s.opn from rfl, ← pre_put]
  split
  · rw [pre_prob]; rfl
  · rfl
theorem pre_turn (p : List Pb) (s : PS) (w : Wd) (o : Bool) : turnP (s.pre p) w o = (turnP s w o).pre p := by
  unfold turnP
  rw [show (s.pre p).opn = s.opn from rfl, show (s.pre p).off = s.off from rfl, show (s.pre p).skip = s.skip from rfl]
  have e : (if (s.opn || (s.off == o)) = true then (s.pre p).prob 10 w else s.pre p) = (if (s.opn || (s.off == o)) = true then s.prob 10 w else s).pre p := by
    split
    · rw [pre_prob]
    · rfl
  rw [e]
  dsimp only
  split
  · rfl
  · rw [← pre_put]; rfl
theorem pre_end (p : List Pb) (s : PS) (w : Wd) : endP (s.pre p) w = (endP s w).pre p := by
  unfold endP
  rw [show (s.pre p).opn = s.opn from rfl]
  split
  · rfl
  · rw [pre_prob]; rfl
theorem pre_change (V : Vals) (K : Bs → Option Dc) (p : List Pb) (s : PS) (w h : Wd) (code text : Bs) (kinds : List Int) : changeP V K (s.pre p) w h code text kinds = (changeP V K s w h code text kinds).pre p := by
  unfold changeP
  rw [show (s.pre p).skip = s.skip from rfl, show (s.pre p).off = s.off from rfl]
  split
  · rfl
  · split
    · exact pre_prob _ _ _ _
    · split
      · exact pre_prob _ _ _ _
      · split
        · exact pre_prob _ _ _ _
        · split
          · split
            · rfl
            · exact pre_prob _ _ _ _
          · exact pre_put _ _ _
theorem pre_step (V : Vals) (K : Bs → Option Dc) (p : List Pb) (s : PS) (w : Wd) (t : List Wd) : pStep V K (s.pre p) w t = ((pStep V K s w t).1.pre p, (pStep V K s w t).2) := by
  unfold pStep
  split
  · rw [pre_prob]
  · split
    · rw [pre_time]
    · split
      · split
        · rw [pre_dump]
        · split
          · rw [pre_turn]
          · split
            · rw [pre_turn]
            · split
              · rw [pre_end]
              · unfold sectP
                split
                · rw [pre_prob]
                · dsimp only
                  split
                  · rfl
                  · rw [pre_prob]
      · split
        · split
          · dsimp only
            rw [show (s.pre p).skip = s.skip from rfl]
            split
            · rfl
            · rw [pre_prob]
          · rw [pre_change]
        · split
          · rw [pre_prob]
          · split
            · dsimp only
              rw [show (s.pre p).skip = s.skip from rfl]
              split
              · rfl
              · rw [pre_prob]
            · rw [pre_change]
theorem pre_run (V : Vals) (K : Bs → Option Dc) (p : List Pb) : ∀ (n : Nat) (ws : List Wd) (s : PS), ws.length ≤ n → pRun V K (s.pre p) ws = (pRun V K s ws).pre p
  | _, [], s, _ => by rw [pRun_nil, pRun_nil]
  | 0, w :: t, s, hl => by simp at hl
  | n + 1, w :: t, s, hl => by
    rw [pRun_cons, pRun_cons, pre_step]
    have := pStep_len V K s w t
    dsimp only
    exact pre_run V K p n _ _ (by simp at hl; omega)
theorem read_unknown {V : Vals} {l : List Dc} {w : Wd} {c : UInt8} {u : Bs} (hw : w.1 = c :: u) (hc : scalarC c = true) (hu : u ≠ []) (hk : knL V l u = none) (ws : List Wd) :
    (parseL V l (w :: ws)).out = (parseL V l ws).out ∧ (parseL V l (w :: ws)).wrong = (4, w.2.1, w.2.2.1, w.2.2.2) :: (parseL V l ws).wrong := by
  have h35 : c ≠ 35 := by intro h; subst h; exact absurd hc (by decide)
  have h36 : c ≠ 36 := by intro h; subst h; exact absurd hc (by decide)
  have hst : pStep V (knL V l) ps0 w ws = (ps0.pre [(4, w.2.1, w.2.2.1, w.2.2.2)], ws) := by
    unfold pStep
    rw [hw]
    dsimp only
    rw [if_neg h35, if_neg h36, if_pos hc, if_neg hu]
    unfold changeP
    rw [if_neg (by decide), hk]
    rfl
  unfold parseL
  rw [pRun_cons, hst]
  dsimp only
  rw [pre_run V (knL V l) _ ws.length ws ps0 (Nat.le_refl _)]
  exact ⟨rfl, rfl⟩
theorem read_skipped {V : Vals} {l : List Dc} {w1 w2 w3 : Wd} {c : UInt8} {u : Bs} (h1 : w1.1 = [35, 120]) (h2 : w2.1 = c :: u) (hc : scalarC c = true) (hu : u ≠ []) (h3 : w3.1 = [35, 48]) :
    (parseL V l [w1, w2, w3]).out = [(0, 0, [], [])] ∧ (parseL V l [w1, w2, w3]).wrong = [(3, w1.2.1, w1.2.2.1, w1.2.2.2)] := by
  have h35 : c ≠ 35 := by intro h; subst h; exact absurd hc (by decide)
  have h36 : c ≠ 36 := by intro h; subst h; exact absurd hc (by decide)
  have hs1 : pStep V (knL V l) ps0 w1 [w2, w3] = ({ ps0 with skip := true, wrong := [(3, w1.2.1, w1.2.2.1, w1.2.2.2)] }, [w2, w3]) := by
    unfold pStep
    rw [h1]
    dsimp only
    rw [if_pos rfl]
    unfold timeP
    rw [h1, show timeS (([35, 120] : Bs).drop 1) = none by decide]
    rfl
  have hs2 : pStep V (knL V l) { ps0 with skip := true, wrong := [(3, w1.2.1, w1.2.2.1, w1.2.2.2)] } w2 [w3] = ({ ps0 with skip := true, wrong := [(3, w1.2.1, w1.2.2.1, w1.2.2.2)] }, [w3]) := by
    unfold pStep
    rw [h2]
    dsimp only
    rw [if_neg h35, if_neg h36, if_pos hc, if_neg hu]
    unfold changeP
    rw [if_pos rfl]
  have hs3 : pStep V (knL V l) { ps0 with skip := true, wrong := [(3, w1.2.1, w1.2.2.1, w1.2.2.2)] } w3 [] = ({ ps0 with out := [(0, 0, [], [])], wrong := [(3, w1.2.1, w1.2.2.1, w1.2.2.2)] }, []) := by
    unfold pStep
    rw [h3]
    dsimp only
    rw [if_pos rfl]
    unfold timeP
    rw [h3, show timeS (([35, 48] : Bs).drop 1) = some 0 by decide]
    rfl
  unfold parseL
  rw [pRun_cons, hs1]
  dsimp only
  rw [pRun_cons, hs2]
  dsimp only
  rw [pRun_cons, hs3]
  dsimp only
  rw [pRun_nil]
  exact ⟨rfl, rfl⟩

/-! where problems stand -/
def probIn (A : List Wd) (q : Pb) : Prop := q.1 ≠ 0 ∧ ∃ w ∈ A, q.2 = (w.2.1, w.2.2.1, w.2.2.2)
theorem probs_prob {A : List Wd} {s : PS} (h : ∀ q ∈ s.wrong, probIn A q) {e : Int} (he : e ≠ 0) {w : Wd} (hw : w ∈ A) : ∀ q ∈ (s.prob e w).wrong, probIn A q := by
  intro q hq
  rcases List.mem_append.1 hq with hq | hq
  · exact h q hq
  · rw [List.mem_singleton] at hq; subst hq; exact ⟨he, w, hw, rfl⟩
theorem put_wrong (s : PS) (r : Rc) : (s.put r).wrong = s.wrong := by unfold PS.put; split <;> rfl
theorem behind_mem : ∀ {t r : List Wd}, behind t = some r → ∀ x ∈ r, x ∈ t
  | [], r, h => by cases h
  | w :: t, r, h => by
    unfold behind at h
    split at h
    · injection h with h; subst h; intro x hx; exact List.mem_cons_of_mem _ hx
    · intro x hx; exact List.mem_cons_of_mem _ (behind_mem h x hx)
theorem probs_change {V : Vals} {K : Bs → Option Dc} {A : List Wd} {s : PS} (h : ∀ q ∈ s.wrong, probIn A q) {w hw : Wd} (h1 : w ∈ A) (h2 : hw ∈ A) (code text : Bs) (kinds : List Int) : ∀ q ∈ (changeP V K s w hw code text kinds).wrong, probIn A q := by
  unfold changeP
  split
  · exact h
  · split
    · exact probs_prob h (by decide) h2
    · split
      · exact probs_prob h (by decide) h1
      · split
        · rename_i hp; exact probs_prob h hp h1
        · split
          · split
            · exact h
            · exact probs_prob h (by decide) h1
          · rw [put_wrong]; exact h
theorem probs_step {V : Vals} {K : Bs → Option Dc} {A : List Wd} {s : PS} {w : Wd} {t : List Wd} (h : ∀ q ∈ s.wrong, probIn A q) (hw : w ∈ A) (ht : ∀ x ∈ t, x ∈ A) :
    (∀ q ∈ (pStep V K s w t).1.wrong, probIn A q) ∧ ∀ x ∈ (pStep V K s w t).2, x ∈ A := by
  unfold pStep
  split
  · exact ⟨probs_prob h (by decide) hw, ht⟩
  · split
    · refine ⟨?_, ht⟩
      unfold timeP
      split
      · exact probs_prob (s := { s with skip := true }) h (by decide) hw
      · split
        · exact probs_prob (s := { s with skip := true }) h (by decide) hw
        · rw [put_wrong]; exact h
    · split
      · split
        · refine ⟨?_, ht⟩
          unfold dumpP
          rw [put_wrong]
          show ∀ q ∈ (if s.opn = true then s.prob 10 w else s).wrong, probIn A q
          split
          · exact probs_prob h (by decide) hw
          · exact h
        · have hturn : ∀ o, ∀ q ∈ (turnP s w o).wrong, probIn A q := by
            intro o
            have h1 : ∀ q ∈ (if (s.opn || (s.off == o)) = true then s.prob 10 w else s).wrong, probIn A q := by
              split
              · exact probs_prob h (by decide) hw
              · exact h
            unfold turnP
            dsimp only
            split
            · exact h1
            · rw [put_wrong]; exact h1
          split
          · exact ⟨hturn true, ht⟩
          · split
            · exact ⟨hturn false, ht⟩
            · split
              · refine ⟨?_, ht⟩
                unfold endP
                show ∀ q ∈ (if s.opn = true then s else s.prob 3 w).wrong, probIn A q
                split
                · exact h
                · exact probs_prob h (by decide) hw
              · unfold sectP
                split
                · exact ⟨probs_prob h (by decide) hw, by simp⟩
                · rename_i hb
                  refine ⟨?_, fun x hx => ht x (behind_mem hb x hx)⟩
                  dsimp only
                  split
                  · exact h
                  · exact probs_prob h (by decide) hw
      · split
        · split
          · refine ⟨?_, ht⟩
            dsimp only
            split
            · exact h
            · exact probs_prob h (by decide) hw
          · exact ⟨probs_change h hw hw _ _ _, ht⟩
        · split
          · exact ⟨probs_prob h (by decide) hw, ht⟩
          · split
            · refine ⟨?_, by simp⟩
              dsimp only
              split
              · exact h
              · exact probs_prob h (by decide) hw
            · exact ⟨probs_change h hw (ht _ (by simp)) _ _ _, fun x hx => ht x (by simp [hx])⟩
theorem probs_run {V : Vals} {K : Bs → Option Dc} {A : List Wd} : ∀ (n : Nat) (ws : List Wd) (s : PS), ws.length ≤ n → (∀ q ∈ s.wrong, probIn A q) → (∀ x ∈ ws, x ∈ A) → ∀ q ∈ (pRun V K s ws).wrong, probIn A q
  | _, [], s, _, h, _ => by rw [pRun_nil]; exact h
  | 0, w :: t, s, hl, _, _ => by simp at hl
  | n + 1, w :: t, s, hl, h, ht => by
    rw [pRun_cons]
    have := pStep_len V K s w t
    obtain ⟨h1, h2⟩ := probs_step (V := V) (K := K) (t := t) h (ht w (by simp)) (fun x hx => ht x (List.mem_cons_of_mem _ hx))
    exact probs_run n _ _ (by simp at hl; omega) h1 h2
theorem parse_probs (V : Vals) (l : List Dc) (ws : List Wd) : ∀ q ∈ (parseL V l ws).wrong, probIn ws q := probs_run ws.length ws ps0 (Nat.le_refl _) (by simp [ps0]) (fun _ h => h)
end Go.Proofs.YtgnkjcdkfcikeaaGreatDoor
