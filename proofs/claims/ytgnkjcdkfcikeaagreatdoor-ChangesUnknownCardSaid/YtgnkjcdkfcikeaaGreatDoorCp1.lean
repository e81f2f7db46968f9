/- Plain lists of bytes: the words of a text, the quoted form, the shortest digits, the digits of a number. -/
import Derived.Lib.Hide
namespace Go.Proofs.YtgnkjcdkfcikeaaGreatDoor

abbrev Bs := List UInt8

/-! words -/
def isW (c : UInt8) : Bool := decide (c = 32) || (decide (9 ≤ c.toNat) && decide (c.toNat ≤ 13))
def wrd : Bs → Bs → List Bs
  | [], cur => if cur = [] then [] else [cur]
  | c :: t, cur => if isW c = true then (if cur = [] then wrd t [] else cur :: wrd t []) else wrd t (cur ++ [c])
def wordsL (s : Bs) : List Bs := wrd s []
theorem wrd_white {c : UInt8} (hc : isW c = true) (t : Bs) : ∀ (s cur : Bs), wrd (s ++ c :: t) cur = wrd s cur ++ wordsL t
  | [], cur => by
    show wrd (c :: t) cur = _
    unfold wrd
    rw [if_pos hc]
    by_cases h : cur = []
    · rw [if_pos h, if_pos h]; rfl
    · rw [if_neg h, if_neg h]; rfl
  | d :: s, cur => by
    show wrd (d :: (s ++ c :: t)) cur = _
    rw [wrd, wrd]
    by_cases hd : isW d = true
    · rw [if_pos hd, if_pos hd]
      by_cases h : cur = []
      · rw [if_pos h, if_pos h, wrd_white hc t s []]
      · rw [if_neg h, if_neg h, wrd_white hc t s []]; rfl
    · rw [if_neg hd, if_neg hd, wrd_white hc t s _]
theorem words_white {c : UInt8} (hc : isW c = true) (s t : Bs) : wordsL (s ++ c :: t) = wordsL s ++ wordsL t := wrd_white hc t s []
theorem wrd_solid : ∀ (u cur : Bs), (∀ c ∈ u, isW c = false) → cur ++ u ≠ [] → wrd u cur = [cur ++ u]
  | [], cur, _, h => by
    rw [wrd, if_neg (by simpa using h), List.append_nil]
  | c :: u, cur, hu, h => by
    rw [wrd, if_neg (by rw [hu c (by simp)]; simp), wrd_solid u _ (fun d hd => hu d (by simp [hd])) (by simp)]
    simp
theorem words_solid {u : Bs} (hu : ∀ c ∈ u, isW c = false) (h : u ≠ []) : wordsL u = [u] := by
  have := wrd_solid u [] hu (by simpa using h)
  simpa [wordsL] using this
theorem words_nil : wordsL [] = [] := rfl
theorem words_two {u v : Bs} (hu : ∀ c ∈ u, isW c = false) (h : u ≠ []) (hv : ∀ c ∈ v, isW c = false) (h' : v ≠ []) : wordsL (u ++ 32 :: v) = [u, v] := by
  rw [words_white (by decide), words_solid hu h, words_solid hv h']; rfl
def lineT (l : Bs) : Bs := l ++ [10]
theorem words_line (l t : Bs) : wordsL (lineT l ++ t) = wordsL l ++ wordsL t := by
  unfold lineT
  rw [List.append_assoc]
  exact words_white (by decide) l t

/-! printable bytes -/
def prn (c : UInt8) : Bool := decide (33 ≤ c.toNat) && decide (c.toNat ≤ 126)
theorem prn_solid {c : UInt8} (h : prn c = true) : isW c = false := by
  unfold prn at h
  rw [Bool.and_eq_true, decide_eq_true_iff, decide_eq_true_iff] at h
  unfold isW
  rw [Bool.or_eq_false_iff, Bool.and_eq_false_iff, decide_eq_false_iff_not, decide_eq_false_iff_not, decide_eq_false_iff_not]
  refine ⟨fun e => ?_, .inr (by omega)⟩
  subst e
  have : (32 : UInt8).toNat = 32 := rfl
  omega

/-! the quoted form -/
def hexd (n : Nat) : UInt8 := if n < 10 then UInt8.ofNat (48 + n) else UInt8.ofNat (87 + n)
def quoC (c : UInt8) : Bs := if c = 92 then [92, 92] else if c.toNat < 33 ∨ 126 < c.toNat then [92, 120, hexd (c.toNat / 16), hexd (c.toNat % 16)] else [c]
def quoL (s : Bs) : Bs := s.flatMap quoC
def hexv (c : UInt8) : Option Nat := if 48 ≤ c.toNat ∧ c.toNat ≤ 57 then some (c.toNat - 48) else if 97 ≤ c.toNat ∧ c.toNat ≤ 102 then some (c.toNat - 87) else none
def unqF : Bs → Option (UInt8 × Bs)
  | [] => none
  | c :: t => if c = 92 then (match t with
      | [] => none
      | d :: r => if d = 92 then some (92, r) else if d = 120 then (match r with
          | h :: l :: r' => (match hexv h, hexv l with
              | some a, some b => some (UInt8.ofNat (16 * a + b), r')
              | _, _ => none)
          | _ => none) else none)
    else if prn c = true then some (c, t) else none
theorem unqF_lt {s r : Bs} {c : UInt8} (h : unqF s = some (c, r)) : r.length < s.length := by
  unfold unqF at h
  split at h
  · cases h
  · rename_i c' t
    split at h
    · split at h
      · cases h
      · rename_i d r2
        split at h
        · injection h with h; injection h with _ h; subst h; simp; omega
        · split at h
          · split at h
            · split at h
              · injection h with h; injection h with _ h; subst h; simp; omega
              · cases h
            · cases h
          · cases h
    · split at h
      · injection h with h; injection h with _ h; subst h; simp
      · cases h
def unqL (s : Bs) : Option Bs :=
  if s = [] then some [] else
  match _h : unqF s with
  | none => none
  | some (c, r) => (unqL r).map (c :: ·)
termination_by s.length
decreasing_by exact unqF_lt _h
theorem unqL_nil : unqL [] = some [] := by rw [unqL, if_pos rfl]
theorem unqL_none {s : Bs} (hs : s ≠ []) (h : unqF s = none) : unqL s = none := by
  rw [unqL, if_neg hs]
  split
  · rfl
  · rename_i h2; rw [h] at h2; cases h2
theorem unqL_some {s r : Bs} {c : UInt8} (hs : s ≠ []) (h : unqF s = some (c, r)) : unqL s = (unqL r).map (c :: ·) := by
  rw [unqL, if_neg hs]
  split
  · rename_i h2; rw [h] at h2; cases h2
  · rename_i h2; rw [h] at h2; injection h2 with h2; injection h2 with e1 e2; subst e1 e2; rfl
def unqR (s : Bs) : Bs × Int := match unqL s with
  | none => ([], 3)
  | some o => if 64 < o.length then ([], 9) else (o, 0)
theorem hexd_facts : ∀ n : Fin 16, hexv (hexd n.val) = some n.val ∧ prn (hexd n.val) = true := by decide
theorem hexv_hexd {n : Nat} (h : n < 16) : hexv (hexd n) = some n := (hexd_facts ⟨n, h⟩).1
theorem prn_hexd {n : Nat} (h : n < 16) : prn (hexd n) = true := (hexd_facts ⟨n, h⟩).2
theorem quoC_ne (c : UInt8) : quoC c ≠ [] := by
  unfold quoC
  split
  · simp
  · split <;> simp
theorem unq_quoC (c : UInt8) (t : Bs) : unqF (quoC c ++ t) = some (c, t) := by
  unfold quoC
  split
  · rename_i h; subst h; rfl
  · rename_i h
    have hc := c.toNat_lt
    split
    · show (match hexv (hexd (c.toNat / 16)), hexv (hexd (c.toNat % 16)) with
        | some a, some b => some (UInt8.ofNat (16 * a + b), t)
        | _, _ => none) = some (c, t)
      rw [hexv_hexd (by omega), hexv_hexd (by omega)]
      dsimp only
      rw [show 16 * (c.toNat / 16) + c.toNat % 16 = c.toNat by omega, UInt8.ofNat_toNat]
    · rename_i h2
      show (if c = 92 then _ else if prn c = true then some (c, t) else none) = some (c, t)
      rw [if_neg h, if_pos]
      unfold prn
      rw [Bool.and_eq_true, decide_eq_true_iff, decide_eq_true_iff]
      omega
theorem unq_quo : ∀ s : Bs, unqL (quoL s) = some s
  | [] => unqL_nil
  | c :: s => by
    show unqL (quoC c ++ quoL s) = _
    rw [unqL_some (fun h => quoC_ne c (List.append_eq_nil_iff.1 h).1) (unq_quoC c (quoL s)), unq_quo s]
    rfl
theorem unqR_quo {s : Bs} (h : s.length ≤ 64) : unqR (quoL s) = (s, 0) := by
  unfold unqR
  rw [unq_quo]
  dsimp only
  rw [if_neg (by omega)]
theorem unqR_ok {s v : Bs} (h : unqR s = (v, 0)) : v.length ≤ 64 := by
  unfold unqR at h
  split at h
  · cases h
  · split at h
    · cases h
    · injection h with h _; subst h; omega
theorem prn_quo {s : Bs} {c : UInt8} (h : c ∈ quoL s) : prn c = true := by
  unfold quoL at h
  rw [List.mem_flatMap] at h
  obtain ⟨d, -, h⟩ := h
  unfold quoC at h
  have hd := d.toNat_lt
  split at h
  · simp at h; subst h; decide
  · split at h
    · simp at h
      rcases h with rfl | rfl | rfl | rfl
      · decide
      · decide
      · exact prn_hexd (by omega)
      · exact prn_hexd (by omega)
    · simp at h
      subst h
      unfold prn
      rw [Bool.and_eq_true, decide_eq_true_iff, decide_eq_true_iff]
      omega

/-! the shortest digits -/
def shoL : Bs → Bs
  | c :: d :: t => if (c = d ∧ c ≠ 49) ∨ (c = 48 ∧ d = 49) then shoL (d :: t) else c :: d :: t
  | s => s
def frD (s : Bs) : UInt8 := match s with
  | [] => 0
  | c :: _ => if c = 49 then 48 else c
def extB (n : Nat) (s : Bs) : Bs := List.replicate (n - s.length) (frD s) ++ s
theorem sho_len : ∀ s : Bs, (shoL s).length ≤ s.length
  | [] => Nat.le_refl _
  | [c] => Nat.le_refl _
  | c :: d :: t => by
    unfold shoL
    split
    · have := sho_len (d :: t); simp at this ⊢; omega
    · exact Nat.le_refl _
theorem sho_ne : ∀ {s : Bs}, s ≠ [] → shoL s ≠ []
  | [], h => absurd rfl h
  | [c], _ => by simp [shoL]
  | c :: d :: t, _ => by
    unfold shoL
    split
    · exact sho_ne (by simp)
    · simp
theorem sho_mem : ∀ {s : Bs} {c : UInt8}, c ∈ shoL s → c ∈ s
  | [], _, h => h
  | [c], _, h => h
  | c :: d :: t, x, h => by
    unfold shoL at h
    split at h
    · exact List.mem_cons_of_mem _ (sho_mem h)
    · exact h
theorem ext_sho_aux : ∀ s : Bs, extB s.length (shoL s) = s ∧ frD (shoL s) = frD s
  | [] => ⟨rfl, rfl⟩
  | [c] => by
    refine ⟨?_, rfl⟩
    show List.replicate (1 - 1) _ ++ [c] = [c]
    rfl
  | c :: d :: t => by
    obtain ⟨h1, h2⟩ := ext_sho_aux (d :: t)
    have hl := sho_len (d :: t)
    unfold shoL
    split
    · rename_i hc
      have hf : frD (d :: t) = c ∧ frD (c :: d :: t) = c := by
        rcases hc with ⟨rfl, hc⟩ | ⟨rfl, rfl⟩
        · simp [frD, hc]
        · simp [frD]
      refine ⟨?_, by rw [h2, hf.1, hf.2]⟩
      unfold extB at h1 ⊢
      rw [h2, hf.1] at h1 ⊢
      rw [show (c :: d :: t).length - (shoL (d :: t)).length = ((d :: t).length - (shoL (d :: t)).length) + 1 by simp at hl ⊢; omega, List.replicate_succ, List.cons_append, h1]
    · refine ⟨?_, rfl⟩
      unfold extB
      rw [Nat.sub_self]
      rfl
theorem ext_sho (s : Bs) : extB s.length (shoL s) = s := (ext_sho_aux s).1
end Go.Proofs.YtgnkjcdkfcikeaaGreatDoor
