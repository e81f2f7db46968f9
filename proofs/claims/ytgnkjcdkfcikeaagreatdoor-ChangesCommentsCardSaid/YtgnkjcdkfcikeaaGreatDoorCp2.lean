/- Plain: the machine that reads simulation commands, the text of records, and the round between them. -/
import Derived.Test.YtgnkjcdkfcikeaaGreatDoorCp1
import Derived.Lib.ItoaNum
namespace Go.Proofs.YtgnkjcdkfcikeaaGreatDoor

/-! numbers -/
def isD (c : UInt8) : Bool := decide (48 ≤ c.toNat) && decide (c.toNat ≤ 57)
def decN (l : Bs) : Nat := l.foldl (fun n c => 10 * n + (c.toNat - 48)) 0
def timeS (s : Bs) : Option Int := if s = [] ∨ 15 < s.length ∨ s.all isD = false then none else some (decN s : Int)
theorem decN_snoc (l : Bs) (c : UInt8) : decN (l ++ [c]) = 10 * decN l + (c.toNat - 48) := by simp [decN]
theorem dig_facts : ∀ d : Fin 10, isD (UInt8.ofNat (48 + d.val)) = true ∧ (UInt8.ofNat (48 + d.val)).toNat - 48 = d.val := by decide
theorem isD_solid {c : UInt8} (h : isD c = true) : isW c = false := by
  unfold isD at h
  rw [Bool.and_eq_true, decide_eq_true_iff, decide_eq_true_iff] at h
  exact prn_solid (by unfold prn; rw [Bool.and_eq_true, decide_eq_true_iff, decide_eq_true_iff]; omega)
theorem decD_all (u : Nat) : (Lib.decDigits u).all isD = true := by
  induction u using Nat.strongRecOn with
  | _ u ih =>
    rw [Lib.decDigits]
    split
    · rename_i h
      rw [List.all_cons, (dig_facts ⟨u, h⟩).1]; rfl
    · rw [List.all_append, ih (u / 10) (by omega), List.all_cons, (dig_facts ⟨u % 10, by omega⟩).1]; rfl
theorem decD_val (u : Nat) : decN (Lib.decDigits u) = u := by
  induction u using Nat.strongRecOn with
  | _ u ih =>
    rw [Lib.decDigits]
    split
    · rename_i h
      show 10 * 0 + ((UInt8.ofNat (48 + u)).toNat - 48) = u
      rw [(dig_facts ⟨u, h⟩).2]
      simp
    · rw [decN_snoc, ih (u / 10) (by omega), (dig_facts ⟨u % 10, by omega⟩).2]
      simp only
      omega
theorem decD_ne (u : Nat) : Lib.decDigits u ≠ [] := by
  intro h
  have h1 := congrArg List.length h
  rw [Lib.decDigits_length] at h1
  have := Lib.nDigits_pos u
  simp at h1
  omega
theorem nDig_le : ∀ (k u : Nat), u < 10 ^ (k + 1) → Lib.nDigits u ≤ k + 1
  | 0, u, h => by rw [Lib.nDigits_small (by simpa using h)]; exact Nat.le_refl _
  | k + 1, u, h => by
    by_cases h1 : u < 10
    · rw [Lib.nDigits_small h1]; omega
    · rw [Lib.nDigits_big h1]
      have := nDig_le k (u / 10) (by rw [Nat.pow_succ] at h; omega)
      omega
theorem time_itoa {t : Int} (h0 : 0 ≤ t) (h1 : t ≤ 1099511627776) : timeS (Lib.itoa t) = some t := by
  obtain ⟨u, rfl⟩ : ∃ u : Nat, t = (u : Int) := ⟨t.toNat, by omega⟩
  rw [show Lib.itoa (u : Int) = Lib.decDigits u by rw [Lib.itoa, if_neg (by omega), Int.toNat_natCast]]
  unfold timeS
  rw [if_neg, decD_val]
  rintro (h | h | h)
  · exact decD_ne u h
  · rw [Lib.decDigits_length] at h
    have := nDig_le 12 u (by have : (10 : Nat) ^ (12 + 1) = 10000000000000 := by decide
                             omega)
    omega
  · rw [decD_all] at h; cases h
theorem itoa_solid {t : Int} (h0 : 0 ≤ t) : ∀ c ∈ Lib.itoa t, isW c = false := by
  rw [show Lib.itoa t = Lib.decDigits t.toNat by rw [Lib.itoa, if_neg (by omega)]]
  intro c hc
  exact isD_solid (List.all_eq_true.1 (decD_all t.toNat) c hc)

/-! values of signals, as lists of bytes -/
structure Vals where
  vt : Int → Int → Bool
  vv : Int → Int → Bs → Bool
  vi : Int → Int → Bs
  par : Int → Int → Bs → Bs × Int
  fmt : Int → Int → Bs → Bs
def codeOk (id : Bs) : Bool := !decide (id = []) && decide (id.length ≤ 8) && id.all prn && !decide (id = [36, 101, 110, 100])
structure ValsOk (V : Vals) : Prop where
  par_fmt : ∀ k n v, V.vt k n = true → V.vv k n v = true → V.par k n (V.fmt k n v) = (v, 0)
  par_ok : ∀ k n t v, V.par k n t = (v, 0) → V.vv k n v = true
  vi_ok : ∀ k n, V.vt k n = true → V.vv k n (V.vi k n) = true
  solid : ∀ k n v, V.vt k n = true → V.vv k n v = true → ∀ c ∈ V.fmt k n v, isW c = false
  one : ∀ v, V.vv 0 1 v = true → V.fmt 0 1 v = [48] ∨ V.fmt 0 1 v = [49] ∨ V.fmt 0 1 v = [120] ∨ V.fmt 0 1 v = [122]
  ev : ∀ n v, V.fmt 3 n v = [49]
  kind : ∀ k n, V.vt k n = true → k = 0 ∨ k = 1 ∨ k = 2 ∨ k = 3
  vt_vv : ∀ k n v, V.vv k n v = true → V.vt k n = true

abbrev Dc := Bs × Int × Int
abbrev Wd := Bs × Int × Int × Int
abbrev Rc := Int × Int × Bs × Bs
abbrev Pb := Int × Int × Int × Int
def letter (k : Int) : UInt8 := if k = 0 then 98 else if k = 1 then 114 else 115
def short1 (k n : Int) : Bool := decide (k = 3) || (decide (k = 0) && decide (n = 1))
def cmdL (V : Vals) (k n : Int) (v id : Bs) : Bs :=
  if (V.vt k n && V.vv k n v && codeOk id) = true then (if short1 k n = true then V.fmt k n v ++ id else letter k :: V.fmt k n v ++ 32 :: id) else []
def cnt (V : Vals) (x : Dc) : Bool := V.vt x.2.1 x.2.2 && codeOk x.1
def knL (V : Vals) (l : List Dc) (c : Bs) : Option Dc := l.find? fun x => cnt V x && decide (x.1 = c)

/-- what has been read so far -/
structure PS where
  last : Int
  off : Bool
  opn : Bool
  skip : Bool
  out : List Rc
  wrong : List Pb
deriving DecidableEq
def PS.prob (s : PS) (e : Int) (w : Wd) : PS := { s with wrong := s.wrong ++ [(e, w.2.1, w.2.2.1, w.2.2.2)] }
def PS.put (s : PS) (r : Rc) : PS := if s.skip = true then s else { s with out := s.out ++ [r] }
def timeP (s : PS) (w : Wd) : PS := match timeS (w.1.drop 1) with
  | none => { s with skip := true }.prob 3 w
  | some t => if t > 1099511627776 ∨ t < s.last then { s with skip := true }.prob 2 w else { s with skip := false, last := t }.put (0, t, [], [])
def dumpP (s : PS) (w : Wd) : PS := { (if s.opn = true then s.prob 10 w else s) with opn := true }.put (4, 0, [], [])
def turnP (s : PS) (w : Wd) (o : Bool) : PS :=
  let s1 : PS := { (if (s.opn || (s.off == o)) = true then s.prob 10 w else s) with opn := true }
  if ((s.off == o) || s.skip) = true then s1 else { s1 with off := o }.put (if o = true then 2 else 3, 0, [], [])
def endP (s : PS) (w : Wd) : PS := { (if s.opn = true then s else s.prob 3 w) with opn := false }
def changeP (V : Vals) (K : Bs → Option Dc) (s : PS) (w h : Wd) (code text : Bs) (kinds : List Int) : PS :=
  if s.skip = true then s else
  match K code with
  | none => s.prob 4 h
  | some x =>
    if kinds.contains x.2.1 = false then s.prob 7 w else
    if (V.par x.2.1 x.2.2 text).2 ≠ 0 then s.prob (V.par x.2.1 x.2.2 text).2 w else
    if s.off = true ∧ x.2.1 = 0 then (if (V.par x.2.1 x.2.2 text).1 = V.vi x.2.1 x.2.2 then s else s.prob 10 w)
    else s.put (1, 0, code, (V.par x.2.1 x.2.2 text).1)
/-- the words behind the first $end -/
def behind : List Wd → Option (List Wd)
  | [] => none
  | w :: t => if w.1 = [36, 101, 110, 100] then some t else behind t
def sectP (s : PS) (w : Wd) (t : List Wd) : PS × List Wd := match behind t with
  | none => (s.prob 3 w, [])
  | some r => (if w.1 = [36, 99, 111, 109, 109, 101, 110, 116] then s else s.prob 3 w, r)
def scalarC (c : UInt8) : Bool := c == 48 || c == 49 || c == 120 || c == 122 || c == 88 || c == 90
def vecK (c : UInt8) : Option Int := if c = 98 ∨ c = 66 then some 0 else if c = 114 ∨ c = 82 then some 1 else if c = 115 ∨ c = 83 then some 2 else none
def sDumpvars : Bs := [36, 100, 117, 109, 112, 118, 97, 114, 115]
def sDumpall : Bs := [36, 100, 117, 109, 112, 97, 108, 108]
def sDumpoff : Bs := [36, 100, 117, 109, 112, 111, 102, 102]
def sDumpon : Bs := [36, 100, 117, 109, 112, 111, 110]
def sEnd : Bs := [36, 101, 110, 100]
def pStep (V : Vals) (K : Bs → Option Dc) (s : PS) (w : Wd) (t : List Wd) : PS × List Wd :=
  match w.1 with
  | [] => (s.prob 3 w, t)
  | c :: u =>
    if c = 35 then (timeP s w, t)
    else if c = 36 then
      (if c :: u = sDumpvars ∨ c :: u = sDumpall then (dumpP s w, t)
       else if c :: u = sDumpoff then (turnP s w true, t)
       else if c :: u = sDumpon then (turnP s w false, t)
       else if c :: u = sEnd then (endP s w, t)
       else sectP s w t)
    else if scalarC c = true then
      (if u = [] then (if s.skip = true then s else s.prob 3 w, t) else (changeP V K s w w u [c] [0, 3], t))
    else match vecK c with
      | none => (s.prob 3 w, t)
      | some k => match t with
        | [] => (if s.skip = true then s else s.prob 3 w, [])
        | h :: t' => (changeP V K s w h h.1 u [k], t')
theorem behind_len : ∀ {t r : List Wd}, behind t = some r → r.length < t.length
  | [], r, h => by cases h
  | w :: t, r, h => by
    unfold behind at h
    split at h
    · injection h with h; subst h; simp
    · have := behind_len h; simp; omega
theorem pStep_len (V : Vals) (K : Bs → Option Dc) (s : PS) (w : Wd) (t : List Wd) : (pStep V K s w t).2.length ≤ t.length := by
  unfold pStep
  split
  · exact Nat.le_refl _
  · split
    · exact Nat.le_refl _
    · split
      · split
        · exact Nat.le_refl _
        · split
          · exact Nat.le_refl _
          · split
            · exact Nat.le_refl _
            · split
              · exact Nat.le_refl _
              · unfold sectP
                split
                · simp
                · rename_i h; have := behind_len h; simp; omega
      · split
        · split <;> exact Nat.le_refl _
        · split
          · exact Nat.le_refl _
          · split <;> simp
def pRun (V : Vals) (K : Bs → Option Dc) (s : PS) : List Wd → PS
  | [] => s
  | w :: t => pRun V K (pStep V K s w t).1 (pStep V K s w t).2
termination_by ws => ws.length
decreasing_by have := pStep_len V K s w t; simp; omega
theorem pRun_nil (V : Vals) (K : Bs → Option Dc) (s : PS) : pRun V K s [] = s := by rw [pRun]
theorem pRun_cons (V : Vals) (K : Bs → Option Dc) (s : PS) (w : Wd) (t : List Wd) : pRun V K s (w :: t) = pRun V K (pStep V K s w t).1 (pStep V K s w t).2 := by rw [pRun]
def ps0 : PS := ⟨0, false, false, false, [], []⟩
def parseL (V : Vals) (l : List Dc) (ws : List Wd) : PS := pRun V (knL V l) ps0 ws

/-! the text of records -/
def validL (V : Vals) (K : Bs → Option Dc) : Int → Bool → List Rc → Bool
  | _, _, [] => true
  | last, off, r :: t =>
    if r.1 = 0 then (decide (r.2.2 = ([], [])) && !decide (r.2.1 < last) && decide (r.2.1 ≤ 1099511627776)) && validL V K r.2.1 off t
    else if r.1 = 1 then (match K r.2.2.1 with
      | none => false
      | some x => (decide (r.2.1 = 0) && !decide (cmdL V x.2.1 x.2.2 r.2.2.2 r.2.2.1 = []) && !(off && decide (x.2.1 = 0))) && validL V K last off t)
    else if r.1 = 2 ∨ r.1 = 3 then (decide (r.2 = (0, [], [])) && (off != decide (r.1 = 2))) && validL V K last (!off) t
    else if r.1 = 4 then decide (r.2 = (0, [], [])) && validL V K last off t
    else false
def cmdK (V : Vals) (K : Bs → Option Dc) (r : Rc) : Bs := match K r.2.2.1 with
  | none => []
  | some x => cmdL V x.2.1 x.2.2 r.2.2.2 r.2.2.1
/-- the lines that make all Bits signals x -/
def offLines (V : Vals) : List Bs → List Dc → List Bs
  | _, [] => []
  | done, x :: t =>
    if cnt V x = true then
      (if x.2.1 = 0 ∧ x.1 ∉ done then cmdL V x.2.1 x.2.2 (V.vi x.2.1 x.2.2) x.1 :: offLines V (x.1 :: done) t else offLines V (x.1 :: done) t)
    else offLines V done t
def recLines (V : Vals) (K : Bs → Option Dc) (l : List Dc) (r : Rc) : List Bs :=
  if r.1 = 0 then [35 :: Lib.itoa r.2.1]
  else if r.1 = 1 then [cmdK V K r]
  else if r.1 = 2 then sDumpoff :: offLines V [] l ++ [sEnd]
  else if r.1 = 3 then [sDumpon]
  else [sDumpvars]
def opnAfter (r : Rc) (o : Bool) : Bool := if r.1 = 1 then o else decide (r.1 = 3) || decide (r.1 = 4)
def fmtLines (V : Vals) (K : Bs → Option Dc) (l : List Dc) : Bool → List Rc → List Bs
  | o, [] => if o = true then [sEnd] else []
  | o, r :: t => (if o = true ∧ r.1 ≠ 1 then [sEnd] else []) ++ recLines V K l r ++ fmtLines V K l (opnAfter r o) t
def linesT (L : List Bs) : Bs := L.flatMap lineT
def formatL (V : Vals) (l : List Dc) (rs : List Rc) : Bs := if validL V (knL V l) 0 false rs = true then linesT (fmtLines V (knL V l) l false rs) else []
theorem words_lines : ∀ (L : List Bs) (t : Bs), wordsL (linesT L ++ t) = L.flatMap wordsL ++ wordsL t
  | [], t => rfl
  | x :: L, t => by
    show wordsL ((lineT x ++ linesT L) ++ t) = _
    rw [List.append_assoc, words_line, words_lines L t, List.flatMap_cons, List.append_assoc]
end Go.Proofs.YtgnkjcdkfcikeaaGreatDoor
