import Derived.Lib.Hide
import Derived.Laws.Strings
import Derived.WalkKit
import Derived.WalkSpells
import Derived.WalkLawsBesides
import Derived.Test.YtbiadennhnokhaaGreatDoorProg
import Derived.Laws.OwnMore
import Derived.OneCell
import Derived.Test.YtbiadennhnokhaaGreatDoorShelf
/- Plain lists of bytes: the words of a text, the quoted form, the shortest digits, the digits of a number. -/
namespace Go.Proofs.YtbiadennhnokhaaGreatDoor

abbrev Bs := List UInt8

/-! printable bytes -/
def prn (c : UInt8) : Bool := decide (33 ≤ c.toNat) && decide (c.toNat ≤ 126)
/-! strings in memory -/
def bsB (l : Bs) : ByteArray := ⟨l.toArray⟩
theorem bsB_list (l : Bs) : (bsB l).data.toList = l := by simp [bsB]
theorem bsB_size (l : Bs) : (bsB l).size = l.length := by simp [bsB, ByteArray.size]
theorem bsB_of (s : ByteArray) : bsB s.data.toList = s := by cases s; simp [bsB]

end Go.Proofs.YtbiadennhnokhaaGreatDoor
/- Plain: the stable sort of a list by a number: insertion, the merge of two sorted lists, parts of equal length. -/
namespace Go.Proofs.YtbiadennhnokhaaGreatDoor

section
variable {α : Type} (k : α → Int)
def Srt (l : List α) : Prop := l.Pairwise fun x y => k x ≤ k y
/-- an element goes ahead of those that are not less -/
def ins (a : α) : List α → List α
  | [] => [a]
  | x :: l => if k x < k a then x :: ins a l else a :: x :: l
def isort : List α → List α
  | [] => []
  | a :: l => ins k a (isort l)
/-- the elements of A go into B; those of A are ahead of equal ones -/
def mrg (A B : List α) : List α := A.foldr (ins k) B
variable {k}
theorem ins_mem {a : α} : ∀ {l : List α} {x : α}, x ∈ ins k a l ↔ x = a ∨ x ∈ l
  | [], x => by simp [ins]
  | y :: l, x => by
    unfold ins
    split
    · rw [List.mem_cons, ins_mem, List.mem_cons]
      constructor
      · rintro (h | h | h)
        · exact .inr (.inl h)
        · exact .inl h
        · exact .inr (.inr h)
      · rintro (h | h | h)
        · exact .inr (.inl h)
        · exact .inl h
        · exact .inr (.inr h)
    · exact List.mem_cons
theorem ins_len (a : α) : ∀ l : List α, (ins k a l).length = l.length + 1
  | [] => rfl
  | x :: l => by
    unfold ins
    split
    · rw [List.length_cons, ins_len a l, List.length_cons]
    · rfl
theorem ins_srt {a : α} : ∀ {l : List α}, Srt k l → Srt k (ins k a l)
  | [], _ => List.pairwise_singleton _ _
  | x :: l, h => by
    have h' := List.pairwise_cons.1 h
    unfold ins
    split
    · rename_i hx
      refine List.pairwise_cons.2 ⟨fun y hy => ?_, ins_srt h'.2⟩
      rcases ins_mem.1 hy with rfl | hy
      · omega
      · exact h'.1 y hy
    · rename_i hx
      refine List.pairwise_cons.2 ⟨fun y hy => ?_, h⟩
      rcases List.mem_cons.1 hy with rfl | hy
      · omega
      · have := h'.1 y hy; omega
theorem mrg_nil (B : List α) : mrg k [] B = B := rfl
theorem mrg_cons (a : α) (A B : List α) : mrg k (a :: A) B = ins k a (mrg k A B) := rfl
theorem mrg_app (A A' B : List α) : mrg k (A ++ A') B = mrg k A (mrg k A' B) := by simp [mrg]
theorem mrg_mem {B : List α} {x : α} : ∀ {A : List α}, x ∈ mrg k A B ↔ x ∈ A ∨ x ∈ B
  | [] => by simp [mrg_nil]
  | a :: A => by rw [mrg_cons, ins_mem, mrg_mem, List.mem_cons, or_assoc]
theorem mrg_len (B : List α) : ∀ A : List α, (mrg k A B).length = A.length + B.length
  | [] => by simp [mrg_nil]
  | a :: A => by rw [mrg_cons, ins_len, mrg_len B A, List.length_cons]; omega
theorem mrg_srt {B : List α} (h : Srt k B) : ∀ A : List α, Srt k (mrg k A B)
  | [] => h
  | _ :: A => ins_srt (mrg_srt h A)
theorem isort_srt : ∀ l : List α, Srt k (isort k l)
  | [] => List.Pairwise.nil
  | _ :: l => ins_srt (isort_srt l)
theorem isort_len : ∀ l : List α, (isort k l).length = l.length
  | [] => rfl
  | a :: l => by unfold isort; rw [ins_len, isort_len l, List.length_cons]
theorem isort_mem {x : α} : ∀ {l : List α}, x ∈ isort k l ↔ x ∈ l
  | [] => Iff.rfl
  | a :: l => by unfold isort; rw [ins_mem, isort_mem, List.mem_cons]
theorem ins_perm (a : α) : ∀ l : List α, (ins k a l).Perm (a :: l)
  | [] => List.Perm.refl _
  | x :: l => by
    unfold ins
    split
    · exact ((ins_perm a l).cons x).trans (List.Perm.swap a x l)
    · exact List.Perm.refl _
theorem isort_perm : ∀ l : List α, (isort k l).Perm l
  | [] => List.Perm.refl _
  | a :: l => (ins_perm a _).trans ((isort_perm l).cons a)
theorem ins_front {x : α} {D : List α} (h : ∀ y ∈ D, k x ≤ k y) : ins k x D = x :: D := by
  cases D with
  | nil => rfl
  | cons y D => unfold ins; rw [if_neg (by have := h y (by simp); omega)]
theorem ins_over {x : α} {D : List α} : ∀ {B : List α}, (∀ y ∈ B, k y < k x) → ins k x (B ++ D) = B ++ ins k x D
  | [], _ => rfl
  | b :: B, h => by
    rw [List.cons_append]
    show (if k b < k x then b :: ins k x (B ++ D) else x :: b :: (B ++ D)) = _
    rw [if_pos (h b (by simp)), ins_over fun y hy => h y (by simp [hy])]
    rfl
theorem ins_in {x : α} {D : List α} (h : ∀ y ∈ D, k x ≤ k y) : ∀ (E : List α), ins k x (E ++ D) = ins k x E ++ D
  | [] => by rw [List.nil_append, ins_front h]; rfl
  | e :: E => by
    rw [List.cons_append]
    show (if k e < k x then e :: ins k x (E ++ D) else x :: e :: (E ++ D)) = (if k e < k x then e :: ins k x E else x :: e :: E) ++ D
    split
    · rw [ins_in h E]; rfl
    · rfl
theorem ins_comm {a x : α} (h : k x < k a) : ∀ {C : List α}, Srt k C → ins k a (ins k x C) = ins k x (ins k a C)
  | [], _ => by
    show (if k x < k a then x :: ins k a [] else _) = (if k a < k x then _ else _)
    rw [if_pos h, if_neg (by omega)]
    rfl
  | c :: C, hs => by
    have h' := List.pairwise_cons.1 hs
    show ins k a (if k c < k x then c :: ins k x C else x :: c :: C) = ins k x (if k c < k a then c :: ins k a C else a :: c :: C)
    by_cases h1 : k c < k x
    · rw [if_pos h1, if_pos (by omega)]
      show (if k c < k a then c :: ins k a (ins k x C) else _) = (if k c < k x then c :: ins k x (ins k a C) else _)
      rw [if_pos (by omega), if_pos h1, ins_comm h h'.2]
    · rw [if_neg h1]
      by_cases h2 : k c < k a
      · rw [if_pos h2]
        show (if k x < k a then x :: (if k c < k a then c :: ins k a C else _) else _) = (if k c < k x then _ else x :: c :: ins k a C)
        rw [if_pos h, if_pos h2, if_neg h1]
      · rw [if_neg h2]
        show (if k x < k a then x :: (if k c < k a then _ else a :: c :: C) else _) = (if k a < k x then _ else x :: a :: c :: C)
        rw [if_pos h, if_neg h2, if_neg (by omega)]
theorem mrg_ins {a : α} {C : List α} (hC : Srt k C) : ∀ {A : List α}, Srt k A → mrg k (ins k a A) C = ins k a (mrg k A C)
  | [], _ => rfl
  | x :: A, h => by
    have h' := List.pairwise_cons.1 h
    show mrg k (if k x < k a then x :: ins k a A else a :: x :: A) C = _
    split
    · rename_i hx
      rw [mrg_cons, mrg_ins hC h'.2, mrg_cons, ins_comm hx (mrg_srt hC A)]
    · rfl
theorem mrg_isort {C : List α} (hC : Srt k C) : ∀ A : List α, mrg k (isort k A) C = mrg k A C
  | [] => rfl
  | a :: A => by
    show mrg k (ins k a (isort k A)) C = _
    rw [mrg_ins hC (isort_srt A), mrg_isort hC A, mrg_cons]
theorem isort_app (A B : List α) : isort k (A ++ B) = mrg k (isort k A) (isort k B) := by
  rw [mrg_isort (isort_srt B)]
  induction A with
  | nil => rfl
  | cons a A ih => rw [List.cons_append]; show ins k a (isort k (A ++ B)) = _; rw [ih, mrg_cons]
theorem mrg_split {A1 A2 B1 B2 : List α} (hA : Srt k (A1 ++ A2)) (h1 : ∀ x ∈ A1, ∀ y ∈ B2, k x ≤ k y) (h2 : ∀ y ∈ B1, ∀ x ∈ A2, k y < k x) : mrg k (A1 ++ A2) (B1 ++ B2) = mrg k A1 B1 ++ mrg k A2 B2 := by
  have e1 : ∀ A : List α, (∀ y ∈ B1, ∀ x ∈ A, k y < k x) → mrg k A (B1 ++ B2) = B1 ++ mrg k A B2 := by
    intro A
    induction A with
    | nil => intro _; rfl
    | cons a A ih =>
      intro h
      rw [mrg_cons, ih (fun y hy x hx => h y hy x (by simp [hx])), ins_over (fun y hy => h y hy a (by simp)), mrg_cons]
  have e2 : ∀ (D : List α) (A : List α), (∀ x ∈ A, ∀ y ∈ D, k x ≤ k y) → mrg k A (B1 ++ D) = mrg k A B1 ++ D := by
    intro D A
    induction A with
    | nil => intro _; rfl
    | cons a A ih =>
      intro h
      rw [mrg_cons, ih (fun x hx y hy => h x (by simp [hx]) y hy), ins_in (fun y hy => h a (by simp) y hy), mrg_cons]
  rw [mrg_app, e1 A2 h2, e2 _ A1 (fun x hx y hy => by
    rcases mrg_mem.1 hy with hy | hy
    · exact (List.pairwise_append.1 hA).2.2 x hx y hy
    · exact h1 x hx y hy)]
theorem mrg_none {A : List α} (h : Srt k A) : mrg k A [] = A := by
  induction A with
  | nil => rfl
  | cons a A ih =>
    have h' := List.pairwise_cons.1 h
    rw [mrg_cons, ih h'.2, ins_front h'.1]
theorem mrg_left {A B : List α} (hA : Srt k A) (h : ∀ x ∈ A, ∀ y ∈ B, k x ≤ k y) : mrg k A B = A ++ B := by
  have := mrg_split (A1 := A) (A2 := []) (B1 := []) (B2 := B) (by rw [List.append_nil]; exact hA) h (fun y hy => by cases hy)
  rw [List.append_nil, List.nil_append, mrg_none hA, mrg_nil] at this
  exact this
/-- one element of the left side -/
theorem mrg_one_left {x : α} {B1 B2 : List α} (h1 : ∀ y ∈ B1, k y < k x) (h2 : ∀ y ∈ B2, k x ≤ k y) : mrg k [x] (B1 ++ B2) = B1 ++ x :: B2 := by
  rw [mrg_cons, mrg_nil, ins_over h1, ins_front h2]
/-- one element of the right side -/
theorem mrg_one_right {y : α} {A1 A2 : List α} (hA : Srt k (A1 ++ A2)) (h1 : ∀ x ∈ A1, k x ≤ k y) (h2 : ∀ x ∈ A2, k y < k x) : mrg k (A1 ++ A2) [y] = A1 ++ y :: A2 := by
  have hp := List.pairwise_append.1 hA
  have := mrg_split (B1 := [y]) (B2 := []) hA (fun x hx z hz => by cases hz) (fun z hz x hx => by rw [List.mem_singleton] at hz; subst hz; exact h2 x hx)
  rw [List.append_nil] at this
  rw [this, mrg_left hp.1 (fun x hx z hz => by rw [List.mem_singleton] at hz; subst hz; exact h1 x hx), mrg_none hp.2.1]
  simp
theorem isort_snoc (A : List α) (y : α) : isort k (A ++ [y]) = mrg k (isort k A) [y] := isort_app A [y]
theorem isort_id {l : List α} (h : Srt k l) : isort k l = l := by
  induction l with
  | nil => rfl
  | cons a l ih =>
    have h' := List.pairwise_cons.1 h
    show ins k a (isort k l) = _
    rw [ih h'.2, ins_front h'.1]

variable (k) in
end
end Go.Proofs.YtbiadennhnokhaaGreatDoor
/- Plain: the preorder of a forest that is given by the numbers of the parents; it is in preorder behind it. -/
namespace Go.Proofs.YtbiadennhnokhaaGreatDoor

section
variable {par : Nat → Int} {n : Nat}
def pre (par : Nat → Int) (n : Nat) : Nat → Int → List Nat
  | 0, _ => []
  | f + 1, p => (List.range n).flatMap fun i => if par i = p then i :: pre par n f i else []
def Fst (par : Nat → Int) (n : Nat) : Prop := ∀ i, i < n → -1 ≤ par i ∧ par i < (i : Int)
theorem pre_succ (f : Nat) (p : Int) : pre par n (f + 1) p = (List.range n).flatMap fun i => if par i = p then i :: pre par n f i else [] := rfl
theorem pre_mem {f : Nat} {p : Int} {x : Nat} : x ∈ pre par n (f + 1) p ↔ ∃ i, i < n ∧ par i = p ∧ (x = i ∨ x ∈ pre par n f i) := by
  rw [pre_succ, List.mem_flatMap]
  constructor
  · rintro ⟨i, hi, hx⟩
    split at hx
    · rename_i hp
      exact ⟨i, List.mem_range.1 hi, hp, List.mem_cons.1 hx⟩
    · cases hx
  · rintro ⟨i, hi, hp, hx⟩
    exact ⟨i, List.mem_range.2 hi, by rw [if_pos hp]; exact List.mem_cons.2 hx⟩
theorem pre_low (hF : Fst par n) : ∀ (f : Nat) (p : Int) (x : Nat), x ∈ pre par n f p → x < n ∧ p ≤ par x ∧ p < (x : Int) ∧ (par x = p ∨ ∃ y, y ∈ pre par n f p ∧ par x = (y : Int))
  | 0, _, _, h => by cases h
  | f + 1, p, x, h => by
    obtain ⟨i, hi, hp, hx⟩ := pre_mem.1 h
    have h1 := hF i hi
    rcases hx with rfl | hx
    · exact ⟨hi, by omega, by omega, .inl hp⟩
    · obtain ⟨a, b, c, d⟩ := pre_low hF f i x hx
      refine ⟨a, by omega, by omega, .inr ?_⟩
      rcases d with d | ⟨y, hy, d⟩
      · exact ⟨i, pre_mem.2 ⟨i, hi, hp, .inl rfl⟩, d⟩
      · exact ⟨y, pre_mem.2 ⟨i, hi, hp, .inr hy⟩, d⟩
theorem pre_closed (hF : Fst par n) : ∀ (f : Nat) (p : Int) (x y : Nat), (n : Int) < (f : Int) + p + 1 → y ∈ pre par n f p → x < n → par x = (y : Int) → x ∈ pre par n f p
  | 0, _, _, _, _, h, _, _ => by cases h
  | f + 1, p, x, y, hf, h, hx, hp => by
    obtain ⟨i, hi, hpi, hy⟩ := pre_mem.1 h
    have h1 := hF i hi
    have h2 := hF x hx
    rcases hy with rfl | hy
    · cases f with
      | zero => omega
      | succ f => exact pre_mem.2 ⟨y, hi, hpi, .inr (pre_mem.2 ⟨x, hx, hp, .inl rfl⟩)⟩
    · exact pre_mem.2 ⟨i, hi, hpi, .inr (pre_closed hF f i x y (by omega) hy hx hp)⟩
theorem pre_all (hF : Fst par n) : ∀ (x : Nat), x < n → x ∈ pre par n (n + 1) (-1) := fun x => by
  induction x using Nat.strongRecOn with
  | ind x ih =>
    intro hx
    have h := hF x hx
    by_cases hp : par x = -1
    · exact pre_mem.2 ⟨x, hx, hp, .inl rfl⟩
    · obtain ⟨y, hy⟩ : ∃ y : Nat, par x = (y : Int) := ⟨(par x).toNat, by omega⟩
      exact pre_closed hF (n + 1) (-1) x y (by omega) (ih y (by omega) (by omega)) hx hy
theorem pre_one (hF : Fst par n) {f : Nat} {p : Int} : ∀ (x i j : Nat), i < n → j < n → par i = p → par j = p → (x = i ∨ x ∈ pre par n f i) → (x = j ∨ x ∈ pre par n f j) → i = j := fun x => by
  induction x using Nat.strongRecOn with
  | ind x ih =>
    intro i j hi hj hpi hpj h1 h2
    have fi := hF i hi
    have fj := hF j hj
    rcases h1 with rfl | h1
    · rcases h2 with h2 | h2
      · exact h2
      · have := (pre_low hF f j x h2).2.1; omega
    · have l1 := pre_low hF f i x h1
      rcases h2 with rfl | h2
      · have := l1.2.1; omega
      · have l2 := pre_low hF f j x h2
        rcases l1.2.2.2 with e1 | ⟨y, hy, e1⟩
        · rcases l2.2.2.2 with e2 | ⟨z, hz, e2⟩
          · omega
          · obtain rfl : i = z := by omega
            exact ih i (by have := hF x l1.1; omega) i j hi hj hpi hpj (.inl rfl) (.inr hz)
        · rcases l2.2.2.2 with e2 | ⟨z, hz, e2⟩
          · obtain rfl : j = y := by omega
            exact ih j (by have := hF x l1.1; omega) i j hi hj hpi hpj (.inr hy) (.inl rfl)
          · obtain rfl : y = z := by omega
            exact ih y (by have := hF x l1.1; omega) i j hi hj hpi hpj (.inr hy) (.inr hz)
theorem nodup_flat {β γ : Type} {g : β → List γ} : ∀ {l : List β}, l.Nodup → (∀ a ∈ l, (g a).Nodup) → (∀ a ∈ l, ∀ b ∈ l, ∀ x, x ∈ g a → x ∈ g b → a = b) → (l.flatMap g).Nodup
  | [], _, _, _ => List.nodup_nil
  | a :: l, hn, h1, h2 => by
    have hn' := List.nodup_cons.1 hn
    rw [List.flatMap_cons]
    refine List.nodup_append.2 ⟨h1 a (by simp), nodup_flat hn'.2 (fun b hb => h1 b (by simp [hb])) (fun b hb c hc => h2 b (by simp [hb]) c (by simp [hc])), ?_⟩
    rintro x hx y hy rfl
    obtain ⟨b, hb, hy⟩ := List.mem_flatMap.1 hy
    exact hn'.1 (h2 a (by simp) b (by simp [hb]) x hx hy ▸ hb)
theorem pre_nodup (hF : Fst par n) : ∀ (f : Nat) (p : Int), (pre par n f p).Nodup
  | 0, _ => List.nodup_nil
  | f + 1, p => by
    rw [pre_succ]
    refine nodup_flat List.nodup_range (fun i hi => ?_) (fun i hi j hj x hx hy => ?_)
    · split
      · refine List.nodup_cons.2 ⟨fun h => ?_, pre_nodup hF f i⟩
        have := (pre_low hF f i i h).2.2.1
        omega
      · exact List.nodup_nil
    · split at hx
      · rename_i hpi
        split at hy
        · rename_i hpj
          exact pre_one hF x i j (List.mem_range.1 hi) (List.mem_range.1 hj) hpi hpj (List.mem_cons.1 hx) (List.mem_cons.1 hy)
        · cases hy
      · cases hx
theorem pre_len (hF : Fst par n) : (pre par n (n + 1) (-1)).length = n := by
  have h1 : (pre par n (n + 1) (-1)).Perm (List.range n) := by
    refine (List.perm_ext_iff_of_nodup (pre_nodup hF _ _) List.nodup_range).2 fun x => ?_
    rw [List.mem_range]
    exact ⟨fun h => (pre_low hF _ _ x h).1, fun h => pre_all hF x h⟩
  rw [h1.length_eq, List.length_range]
/-- a parent stands ahead -/
theorem pre_before : ∀ (f : Nat) (p : Int) (A : List Nat) (x : Nat) (B : List Nat), pre par n f p = A ++ x :: B → par x = p ∨ ∃ y ∈ A, par x = (y : Int)
  | 0, p, A, x, B, h => by
    have := congrArg List.length h
    simp [pre] at this
  | f + 1, p, A, x, B, h => by
    rw [pre_succ] at h
    generalize List.range n = is at h
    induction is generalizing A with
    | nil =>
      have := congrArg List.length h
      simp at this
    | cons i is ih =>
      rw [List.flatMap_cons] at h
      by_cases hc : par i = p
      · rw [if_pos hc] at h
        rcases List.append_eq_append_iff.1 h with ⟨a', ha, hb⟩ | ⟨c', ha, hb⟩
        · rcases ih a' hb with h1 | ⟨y, hy, h1⟩
          · exact .inl h1
          · exact .inr ⟨y, by rw [ha]; simp [hy], h1⟩
        · cases c' with
          | nil =>
            rcases ih [] hb.symm with h1 | ⟨y, hy, h1⟩
            · exact .inl h1
            · cases hy
          | cons z c' =>
            rw [List.cons_append] at hb
            injection hb with hb1 hb2
            subst hb1
            cases A with
            | nil =>
              injection ha with ha1 _
              subst ha1
              exact .inl hc
            | cons a A =>
              injection ha with ha1 ha2
              subst ha1
              rcases pre_before f i A x c' ha2 with h1 | ⟨y, hy, h1⟩
              · exact .inr ⟨i, by simp, h1⟩
              · exact .inr ⟨y, by simp [hy], h1⟩
      · rw [if_neg hc, List.nil_append] at h
        exact ih A h
/-- where a scope stands behind it -/
def pos (o : List Nat) (i : Int) : Int := if i < 0 then i else (o.idxOf i.toNat : Int)
theorem pos_inj {o : List Nat} {i j : Int} (hi : -1 ≤ i) (hj : -1 ≤ j) (h1 : 0 ≤ i → i.toNat ∈ o) (h2 : 0 ≤ j → j.toNat ∈ o) (h : pos o i = pos o j) : i = j := by
  unfold pos at h
  split at h
  · split at h
    · omega
    · omega
  · rename_i hi0
    split at h
    · omega
    · rename_i hj0
      have e : o.idxOf i.toNat = o.idxOf j.toNat := by omega
      have a := List.idxOf_lt_length_of_mem (h1 (by omega))
      have b := List.idxOf_lt_length_of_mem (h2 (by omega))
      have e2 : o[o.idxOf i.toNat] = o[o.idxOf j.toNat] := by simp only [e]
      rw [List.getElem_idxOf, List.getElem_idxOf] at e2
      omega
theorem idx_mid : ∀ {A B : List Nat} {x : Nat}, x ∉ A → (A ++ x :: B).idxOf x = A.length
  | [], B, x, _ => by simp
  | a :: A, B, x, h => by
    rw [List.cons_append, List.idxOf_cons, idx_mid (fun hx => h (by simp [hx]))]
    have : (a == x) = false := by rw [beq_eq_false_iff_ne]; rintro rfl; exact h (by simp)
    rw [this]
    rfl
theorem flat_congr {β γ : Type} {f g : β → List γ} : ∀ {l : List β}, (∀ a ∈ l, f a = g a) → l.flatMap f = l.flatMap g
  | [], _ => rfl
  | a :: l, h => by rw [List.flatMap_cons, List.flatMap_cons, h a (by simp), flat_congr fun b hb => h b (by simp [hb])]
theorem flat_zip (g : Nat → List Nat) : ∀ (l : List Nat) (t : Nat), (l.zipIdx t).flatMap (fun x => g x.2) = (List.range' t l.length).flatMap g
  | [], _ => rfl
  | a :: l, t => by rw [List.zipIdx_cons, List.flatMap_cons, flat_zip g l (t + 1), List.length_cons, List.range'_succ, List.flatMap_cons]
theorem flat_none {β γ : Type} {f : β → List γ} : ∀ {l : List β}, (∀ a ∈ l, f a = []) → l.flatMap f = []
  | [], _ => rfl
  | a :: l, h => by rw [List.flatMap_cons, h a (by simp), flat_none fun b hb => h b (by simp [hb])]; rfl
theorem zip_mem {l : List Nat} {t : Nat} {x : Nat × Nat} (h : x ∈ l.zipIdx t) : x.1 ∈ l := by
  have := List.mem_map_of_mem (f := Prod.fst) h
  rwa [List.zipIdx_map_fst] at this
/-- the children's blocks, by their places -/
theorem pre_block (hF : Fst par n) {o : List Nat} (ho : o = pre par n (n + 1) (-1)) {par' : Nat → Int} (hp' : ∀ j (h : j < o.length), par' j = pos o (par o[j])) :
    ∀ (f : Nat) (p : Int) (A B : List Nat), -1 ≤ p → (0 ≤ p → p.toNat ∈ o) → (n : Int) < (f : Int) + p + 1 → o = A ++ pre par n f p ++ B → pre par' n f (pos o p) = List.range' A.length (pre par n f p).length
  | 0, _, _, _, _, _, _, _ => rfl
  | f + 1, p, A, B, hp1, hp2, hf, hsp => by
    have hnd : o.Nodup := ho ▸ pre_nodup hF _ _
    have hln : o.length = n := ho ▸ pre_len hF
    have hmem : ∀ x, x ∈ o ↔ x < n := fun x => by rw [ho]; exact ⟨fun h => (pre_low hF _ _ x h).1, fun h => pre_all hF x h⟩
    have e2 : pre par' n (f + 1) (pos o p) = (o.zipIdx 0).flatMap fun x => if par x.1 = p then x.2 :: pre par' n f x.2 else [] := by
      rw [pre_succ, ← hln, List.range_eq_range', ← flat_zip]
      refine flat_congr fun x hx => ?_
      obtain ⟨h1, h2⟩ := List.mem_zipIdx' hx
      rw [hp' x.2 h1, ← h2, hln]
      have hxo : x.1 < n := (hmem _).1 (zip_mem hx)
      have hfx := hF x.1 hxo
      by_cases hc : par x.1 = p
      · rw [if_pos hc, if_pos (by rw [hc])]
      · rw [if_neg hc, if_neg]
        exact fun h => hc (pos_inj hfx.1 hp1 (fun h0 => (hmem _).2 (by omega)) hp2 h)
    have hin : ∀ x, x < n → par x = p → x ∈ pre par n (f + 1) p := fun x hx hp => pre_mem.2 ⟨x, hx, hp, .inl rfl⟩
    -- the children's blocks one behind the other
    have e3 : ∀ (is A' B' : List Nat), (∀ i ∈ is, i < n) → o = A' ++ (is.flatMap fun i => if par i = p then i :: pre par n f i else []) ++ B' →
        (((is.flatMap fun i => if par i = p then i :: pre par n f i else []).zipIdx A'.length).flatMap fun x => if par x.1 = p then x.2 :: pre par' n f x.2 else []) = List.range' A'.length (is.flatMap fun i => if par i = p then i :: pre par n f i else []).length := by
      intro is
      induction is with
      | nil => intro A' B' _ _; rfl
      | cons i is ih =>
        intro A' B' his hs
        rw [List.flatMap_cons] at hs ⊢
        by_cases hc : par i = p
        · rw [if_pos hc] at hs ⊢
          have hi := his i (by simp)
          have hfi := hF i hi
          generalize hR : (is.flatMap fun i => if par i = p then i :: pre par n f i else []) = R at hs ih ⊢
          have hs2 : o = A' ++ i :: (pre par n f i ++ R ++ B') := by rw [hs]; simp
          have hiA : i ∉ A' := fun h => by
            rw [hs2] at hnd
            exact (List.nodup_append.1 hnd).2.2 i h i (by simp) rfl
          have hpi : pos o i = (A'.length : Int) := by
            unfold pos
            rw [if_neg (by omega), Int.toNat_natCast, hs2, idx_mid hiA]
          have h1 := pre_block hF ho hp' f i (A' ++ [i]) (R ++ B') (by omega) (fun _ => by rw [Int.toNat_natCast]; exact (hmem i).2 hi) (by omega) (by rw [hs]; simp)
          rw [hpi] at h1
          have h2 := ih (A' ++ i :: pre par n f i) B' (fun j hj => his j (by simp [hj])) (by rw [hs]; simp)
          rw [List.cons_append, List.zipIdx_cons, List.flatMap_cons, if_pos hc, List.zipIdx_append, List.flatMap_append]
          dsimp only
          rw [flat_none (l := (pre par n f i).zipIdx (A'.length + 1)) (fun x hx => by
            rw [if_neg]
            have := (pre_low hF f i x.1 (zip_mem hx)).2.1
            omega), List.nil_append, h1]
          rw [List.length_append, List.length_cons] at h2
          rw [show A'.length + 1 + (pre par n f i).length = A'.length + ((pre par n f i).length + 1) by omega, h2, List.length_append, List.length_singleton, List.length_cons, List.length_append,
            show (pre par n f i).length + R.length + 1 = ((pre par n f i).length + 1) + R.length by omega, ← List.range'_append_1, List.range'_succ]
        · rw [if_neg hc, List.nil_append] at hs ⊢
          exact ih A' B' (fun j hj => his j (by simp [hj])) hs
    have hout : ∀ x, x ∈ A ∨ x ∈ B → par x ≠ p := by
      intro x hx hp
      have hxo : x < n := (hmem x).1 (by rw [hsp]; rcases hx with h | h <;> simp [h])
      have hb := hin x hxo hp
      rw [hsp] at hnd
      rcases hx with h | h
      · exact (List.nodup_append.1 (List.nodup_append.1 hnd).1).2.2 x h x hb rfl
      · exact (List.nodup_append.1 hnd).2.2 x (by simp [hb]) x h rfl
    have h3 := e3 (List.range n) A B (fun i hi => List.mem_range.1 hi) hsp
    rw [← pre_succ] at h3
    rw [e2, hsp, List.zipIdx_append, List.zipIdx_append, List.flatMap_append, List.flatMap_append, flat_none (l := A.zipIdx 0) (fun x hx => by rw [if_neg (hout _ (.inl (zip_mem hx)))]),
      flat_none (l := B.zipIdx _) (fun x hx => by rw [if_neg (hout _ (.inr (zip_mem hx)))]), List.nil_append, List.append_nil, Nat.zero_add, h3]
theorem pre_again (hF : Fst par n) {par' : Nat → Int} (hp' : ∀ j (h : j < (pre par n (n + 1) (-1)).length), par' j = pos (pre par n (n + 1) (-1)) (par (pre par n (n + 1) (-1))[j])) :
    pre par' n (n + 1) (-1) = List.range n := by
  have := pre_block hF rfl hp' (n + 1) (-1) [] [] (by omega) (fun h => by omega) (by omega) (by simp)
  rw [pre_len hF] at this
  rw [List.range_eq_range']
  exact this
end
end Go.Proofs.YtbiadennhnokhaaGreatDoor
/- Plain: hierarchies of scopes and variables: what is checked of declarations, the order of scopes, the numbers of signals. -/
namespace Go.Proofs.YtbiadennhnokhaaGreatDoor

/-- a scope: name, type, parent -/
abbrev Sc := Bs × Int × Int
structure Vr where
  nm : Bs
  ty : Int
  sc : Int
  sg : Int
  rg : Bool
  mb : Int
  lb : Int
deriving DecidableEq
def nameOk (s : Bs) : Bool := decide (s ≠ []) && decide (s.length ≤ 32) && s.all prn && (match s with
  | [] => false
  | c :: _ => if c = 92 then decide (2 ≤ s.length) else decide (c ≠ 36) && !s.any fun d => d == 92 || d == 46 || d == 91 || d == 93)
def bndOk (n : Int) : Bool := decide (-32768 ≤ n) && decide (n ≤ 32768)
def widthF (m l : Int) : Int := if (bndOk m && bndOk l) = true then max m l - min m l + 1 else 0
def declF (S : List Sc) (V : List Vr) : Bool := S.zipIdx.all (fun x => decide (-1 ≤ x.1.2.2) && decide (x.1.2.2 < (x.2 : Int))) && V.all fun v => decide (-1 ≤ v.sc) && decide (v.sc < (S.length : Int)) && decide (0 ≤ v.sg)
/-- the scopes from a scope of declarations up -/
def upL (S : List Sc) : Nat → Int → List Nat
  | 0, _ => []
  | f + 1, i => if i < 0 then [] else match S[i.toNat]? with
    | none => []
    | some s => i.toNat :: upL S f s.2.2
def rangeBad (v : Vr) : Bool := if v.rg = true then decide (widthF v.mb v.lb = 0) else decide (v.mb ≠ 0) || decide (v.lb ≠ 0)
abbrev ScK := Int × Bs
abbrev VrK := Int × Bs × Bool × Int × Int
def scKey (s : Sc) : ScK := (s.2.2, s.1)
def vrKey (v : Vr) : VrK := (v.sc, v.nm, v.rg, v.mb, v.lb)
def uniq {α K : Type} [DecidableEq K] (key : α → K) : List α → Bool
  | [] => true
  | x :: l => uniq key l && !(l.map key).contains (key x)
def checkF (S : List Sc) (V : List Vr) : Int :=
  if 32 < S.length ∨ 128 < V.length then 9
  else if declF S V = false then 1
  else if (List.range S.length).any (fun i => decide (8 < (upL S (i + 1) i).length)) = true then 9
  else if (S.any (fun s => !nameOk s.1) || V.any fun v => !nameOk v.nm) = true then 4
  else if (S.any (fun s => decide (s.2.1 < 0) || decide (4 < s.2.1)) || V.any fun v => decide (v.ty < 0) || decide (18 < v.ty)) = true then 7
  else if V.any rangeBad = true then 2
  else if (!uniq scKey S || !uniq vrKey V) = true then 5
  else 0
def parS (S : List Sc) (i : Nat) : Int := (S.getD i ([], 0, 0)).2.2
/-- the scopes below a parent, in preorder -/
def preS (S : List Sc) : List Nat := pre (parS S) S.length (S.length + 1) (-1)
def scF (S : List Sc) : List Sc :=
  (preS S).map fun i => ((S.getD i ([], 0, 0)).1, (S.getD i ([], 0, 0)).2.1, pos (preS S) (parS S i))
/-- signals are numbered by their first use -/
def numF : List Int → List Vr → List Vr × List Int
  | fm, [] => ([], fm)
  | fm, v :: l =>
    if fm.contains v.sg = true then ({ v with sg := (fm.idxOf v.sg : Int) } :: (numF fm l).1, (numF fm l).2)
    else ({ v with sg := (fm.length : Int) } :: (numF (fm ++ [v.sg]) l).1, (numF (fm ++ [v.sg]) l).2)
def vr1 (S : List Sc) (V : List Vr) : List Vr := V.map fun v => { v with sc := pos (preS S) v.sc }
def vr2 (S : List Sc) (V : List Vr) : List Vr := isort (fun v : Vr => v.sc) (vr1 S V)
def vrF (S : List Sc) (V : List Vr) : List Vr × List Int := numF [] (vr2 S V)
def orderF (S : List Sc) (V : List Vr) : List Sc × List Vr × List Int × Int :=
  if checkF S V ≠ 0 then ([], [], [], checkF S V) else (scF S, (vrF S V).1, (vrF S V).2, 0)
end Go.Proofs.YtbiadennhnokhaaGreatDoor
/- Plain: what is ordered is a hierarchy, and ordering it again changes nothing. -/
namespace Go.Proofs.YtbiadennhnokhaaGreatDoor

theorem decl_fst {S : List Sc} {V : List Vr} (h : declF S V = true) : Fst (parS S) S.length := by
  unfold declF at h
  rw [Bool.and_eq_true, List.all_eq_true] at h
  intro i hi
  have := h.1 (S[i], i) (by rw [List.mem_zipIdx_iff_getElem?]; simp [hi])
  rw [Bool.and_eq_true, decide_eq_true_iff, decide_eq_true_iff] at this
  unfold parS
  rw [List.getD, List.getElem?_eq_getElem hi]
  exact this
theorem decl_vars {S : List Sc} {V : List Vr} (h : declF S V = true) : ∀ v ∈ V, -1 ≤ v.sc ∧ v.sc < (S.length : Int) ∧ 0 ≤ v.sg := by
  unfold declF at h
  rw [Bool.and_eq_true, List.all_eq_true, List.all_eq_true] at h
  intro v hv
  have := h.2 v hv
  rw [Bool.and_eq_true, Bool.and_eq_true, decide_eq_true_iff, decide_eq_true_iff, decide_eq_true_iff] at this
  exact ⟨this.1.1, this.1.2, this.2⟩
theorem decl_of {S : List Sc} {V : List Vr} (h : Fst (parS S) S.length) (hv : ∀ v ∈ V, -1 ≤ v.sc ∧ v.sc < (S.length : Int) ∧ 0 ≤ v.sg) : declF S V = true := by
  unfold declF
  rw [Bool.and_eq_true, List.all_eq_true, List.all_eq_true]
  refine ⟨fun x hx => ?_, fun v hv' => ?_⟩
  · obtain ⟨s, i⟩ := x
    have hx' := List.mem_zipIdx_iff_getElem?.1 hx
    dsimp only at hx' ⊢
    obtain ⟨hi, rfl⟩ := List.getElem?_eq_some_iff.1 hx'
    have := h i hi
    unfold parS at this
    rw [List.getD, List.getElem?_eq_getElem hi] at this
    rw [Bool.and_eq_true, decide_eq_true_iff, decide_eq_true_iff]
    exact this
  · rw [Bool.and_eq_true, Bool.and_eq_true, decide_eq_true_iff, decide_eq_true_iff, decide_eq_true_iff]
    have := hv v hv'
    exact ⟨⟨this.1, this.2.1⟩, this.2.2⟩
theorem uniq_iff {α K : Type} [DecidableEq K] {key : α → K} : ∀ {l : List α}, uniq key l = true ↔ (l.map key).Nodup
  | [] => by simp [uniq]
  | x :: l => by
    unfold uniq
    rw [Bool.and_eq_true, uniq_iff, List.map_cons, List.nodup_cons, Bool.not_eq_true', and_comm]
    refine and_congr ?_ Iff.rfl
    rw [← Bool.not_eq_true, List.contains_iff_mem]
theorem pos_range {n : Nat} {i : Int} (h1 : i < (n : Int)) : pos (List.range n) i = i := by
  unfold pos
  split
  · rfl
  · rename_i h0
    obtain ⟨m, rfl⟩ : ∃ m : Nat, i = (m : Int) := ⟨i.toNat, by omega⟩
    have hm : m < n := by omega
    rw [Int.toNat_natCast, show List.range n = List.range m ++ m :: (List.range' (m + 1) (n - m - 1)) by
      rw [List.range_eq_range', List.range_eq_range', ← List.range'_succ, show n - m - 1 + 1 = n - m by omega]
      have := List.range'_append_1 (s := 0) (m := m) (n := n - m)
      rw [Nat.zero_add, show m + (n - m) = n by omega] at this
      exact this.symm]
    rw [idx_mid (fun h => by rw [List.mem_range] at h; omega), List.length_range]

/-! numbers of signals -/
def rgI (k : Nat) : List Int := (List.range k).map fun i : Nat => (i : Int)
theorem rgI_succ (k : Nat) : rgI (k + 1) = rgI k ++ [(k : Int)] := by simp [rgI, List.range_succ]
theorem rgI_len (k : Nat) : (rgI k).length = k := by simp [rgI]
theorem rgI_mem {k : Nat} {x : Int} : x ∈ rgI k ↔ 0 ≤ x ∧ x < (k : Int) := by
  unfold rgI
  rw [List.mem_map]
  constructor
  · rintro ⟨i, hi, rfl⟩
    have := List.mem_range.1 hi
    omega
  · rintro ⟨h1, h2⟩
    exact ⟨x.toNat, List.mem_range.2 (by omega), by omega⟩
theorem rgI_idx : ∀ {k i : Nat}, i < k → (rgI k).idxOf (i : Int) = i
  | k + 1, i, h => by
    rw [rgI_succ, List.idxOf_append]
    by_cases hi : i < k
    · rw [if_pos (rgI_mem.2 (by omega)), rgI_idx hi]
    · obtain rfl : i = k := by omega
      rw [if_neg (fun hm => by have := rgI_mem.1 hm; omega), rgI_len]
      simp
theorem numF_in {fm : List Int} {v : Vr} {l : List Vr} (h : fm.contains v.sg = true) : numF fm (v :: l) = ({ v with sg := (fm.idxOf v.sg : Int) } :: (numF fm l).1, (numF fm l).2) := by rw [numF, if_pos h]
theorem numF_new {fm : List Int} {v : Vr} {l : List Vr} (h : ¬ fm.contains v.sg = true) : numF fm (v :: l) = ({ v with sg := (fm.length : Int) } :: (numF (fm ++ [v.sg]) l).1, (numF (fm ++ [v.sg]) l).2) := by rw [numF, if_neg h]
theorem num_again : ∀ (l : List Vr) (fm : List Int), ∃ m, fm.length ≤ m ∧ (numF fm l).2.length = m ∧ numF (rgI fm.length) (numF fm l).1 = ((numF fm l).1, rgI m)
  | [], fm => ⟨fm.length, Nat.le_refl _, rfl, rfl⟩
  | v :: l, fm => by
    by_cases hc : fm.contains v.sg = true
    · obtain ⟨m, h1, h2, h3⟩ := num_again l fm
      have hi := List.idxOf_lt_length_of_mem (List.contains_iff_mem.1 hc)
      refine ⟨m, h1, ?_, ?_⟩
      · rw [numF_in hc]; exact h2
      · rw [numF_in hc, numF_in (by rw [List.contains_iff_mem]; exact rgI_mem.2 (by dsimp only; omega))]
        dsimp only
        rw [rgI_idx hi, h3]
    · obtain ⟨m, h1, h2, h3⟩ := num_again l (fm ++ [v.sg])
      rw [List.length_append, List.length_singleton] at h1 h3
      refine ⟨m, by omega, ?_, ?_⟩
      · rw [numF_new hc]; exact h2
      · rw [numF_new hc, numF_new (by rw [List.contains_iff_mem]; intro hm; have := (rgI_mem.1 hm).2; dsimp only at this; omega)]
        dsimp only
        rw [rgI_len, ← rgI_succ, h3]
theorem num_keep {β : Type} (g : Vr → β) (hg : ∀ v x, g { v with sg := x } = g v) : ∀ (l : List Vr) (fm : List Int), (numF fm l).1.map g = l.map g
  | [], _ => rfl
  | v :: l, fm => by
    unfold numF
    split
    · dsimp only
      rw [List.map_cons, List.map_cons, hg, num_keep g hg]
    · dsimp only
      rw [List.map_cons, List.map_cons, hg, num_keep g hg]
theorem num_sg : ∀ (l : List Vr) (fm : List Int), ∀ v ∈ (numF fm l).1, 0 ≤ v.sg
  | [], _ => by intro v hv; cases hv
  | v :: l, fm => by
    intro x hx
    unfold numF at hx
    split at hx
    · rcases List.mem_cons.1 hx with rfl | hx
      · dsimp only; omega
      · exact num_sg l _ x hx
    · rcases List.mem_cons.1 hx with rfl | hx
      · dsimp only; omega
      · exact num_sg l _ x hx

/-! what is checked -/
theorem any_false {α : Type} {p : α → Bool} {l : List α} : l.any p = false ↔ ∀ x ∈ l, p x = false := by
  rw [← Bool.not_eq_true, List.any_eq_true]
  exact ⟨fun h x hx => by cases hp : p x with
    | true => exact absurd ⟨x, hx, hp⟩ h
    | false => rfl, fun h ⟨x, hx, hp⟩ => by rw [h x hx] at hp; cases hp⟩
structure ChkOk (S : List Sc) (V : List Vr) : Prop where
  n : S.length ≤ 32
  m : V.length ≤ 128
  d : declF S V = true
  u : ∀ i, i < S.length → (upL S (i + 1) (i : Int)).length ≤ 8
  ns : ∀ s ∈ S, nameOk s.1 = true
  nv : ∀ v ∈ V, nameOk v.nm = true
  ts : ∀ s ∈ S, 0 ≤ s.2.1 ∧ s.2.1 ≤ 4
  tv : ∀ v ∈ V, 0 ≤ v.ty ∧ v.ty ≤ 18
  r : ∀ v ∈ V, rangeBad v = false
  ks : (S.map scKey).Nodup
  kv : (V.map vrKey).Nodup
theorem chk_iff {S : List Sc} {V : List Vr} : checkF S V = 0 ↔ ChkOk S V := by
  unfold checkF
  constructor
  · intro h
    split at h
    · cases h
    rename_i h1
    split at h
    · cases h
    rename_i h2
    split at h
    · cases h
    rename_i h3
    split at h
    · cases h
    rename_i h4
    split at h
    · cases h
    rename_i h5
    split at h
    · cases h
    rename_i h6
    split at h
    · cases h
    rename_i h7
    rw [Bool.not_eq_true, any_false] at h3
    rw [Bool.not_eq_true, Bool.or_eq_false_iff, any_false, any_false] at h4 h5
    rw [Bool.not_eq_true, any_false] at h6
    rw [Bool.not_eq_true, Bool.or_eq_false_iff, Bool.not_eq_false', Bool.not_eq_false', uniq_iff, uniq_iff] at h7
    rw [Bool.not_eq_false] at h2
    refine ⟨by omega, by omega, h2, fun i hi => ?_, fun s hs => ?_, fun v hv => ?_, fun s hs => ?_, fun v hv => ?_, h6, h7.1, h7.2⟩
    · have := of_decide_eq_false (h3 i (List.mem_range.2 hi)); omega
    · have := h4.1 s hs; rwa [Bool.not_eq_false'] at this
    · have := h4.2 v hv; rwa [Bool.not_eq_false'] at this
    · have := h5.1 s hs; rw [Bool.or_eq_false_iff, decide_eq_false_iff_not, decide_eq_false_iff_not] at this; omega
    · have := h5.2 v hv; rw [Bool.or_eq_false_iff, decide_eq_false_iff_not, decide_eq_false_iff_not] at this; omega
  · rintro ⟨a, b, c, d, e, f, g, h, i, j, k⟩
    rw [if_neg (by omega), if_neg (by rw [c]; simp), if_neg, if_neg, if_neg, if_neg, if_neg]
    · rw [Bool.not_eq_true, Bool.or_eq_false_iff, Bool.not_eq_false', Bool.not_eq_false', uniq_iff, uniq_iff]
      exact ⟨j, k⟩
    · rw [Bool.not_eq_true, any_false]; exact i
    · rw [Bool.not_eq_true, Bool.or_eq_false_iff, any_false, any_false]
      refine ⟨fun s hs => ?_, fun v hv => ?_⟩
      · rw [Bool.or_eq_false_iff, decide_eq_false_iff_not, decide_eq_false_iff_not]; have := g s hs; omega
      · rw [Bool.or_eq_false_iff, decide_eq_false_iff_not, decide_eq_false_iff_not]; have := h v hv; omega
    · rw [Bool.not_eq_true, Bool.or_eq_false_iff, any_false, any_false]
      exact ⟨fun s hs => by rw [e s hs]; rfl, fun v hv => by rw [f v hv]; rfl⟩
    · rw [Bool.not_eq_true, any_false]
      intro x hx
      rw [decide_eq_false_iff_not]
      have := d x (List.mem_range.1 hx)
      omega

/-! ordered again -/
theorem preS_len {S : List Sc} (hF : Fst (parS S) S.length) : (preS S).length = S.length := pre_len hF
theorem preS_mem {S : List Sc} (hF : Fst (parS S) S.length) {x : Nat} : x ∈ preS S ↔ x < S.length := ⟨fun h => (pre_low hF _ _ x h).1, fun h => pre_all hF x h⟩
theorem preS_nodup {S : List Sc} (hF : Fst (parS S) S.length) : (preS S).Nodup := pre_nodup hF _ _
theorem scF_len {S : List Sc} (hF : Fst (parS S) S.length) : (scF S).length = S.length := by unfold scF; rw [List.length_map, preS_len hF]
theorem scF_at {S : List Sc} {j : Nat} (h : j < (scF S).length) (h' : j < (preS S).length) : (scF S)[j] = ((S.getD (preS S)[j] ([], 0, 0)).1, (S.getD (preS S)[j] ([], 0, 0)).2.1, pos (preS S) (parS S (preS S)[j])) := by
  simp only [scF, List.getElem_map]
theorem par_scF {S : List Sc} (hF : Fst (parS S) S.length) (j : Nat) (h : j < (preS S).length) : parS (scF S) j = pos (preS S) (parS S (preS S)[j]) := by
  have h2 : j < (scF S).length := by rw [scF_len hF, ← preS_len hF]; exact h
  unfold parS
  rw [List.getD, List.getElem?_eq_getElem h2, Option.getD_some, scF_at h2 h]
  rfl
theorem pos_lt {S : List Sc} (hF : Fst (parS S) S.length) {q : Int} (h : q < (S.length : Int)) : pos (preS S) q < (S.length : Int) := by
  unfold pos
  split
  · exact h
  · have := List.idxOf_lt_length_of_mem ((preS_mem hF (x := q.toNat)).2 (by omega))
    rw [preS_len hF] at this
    omega
theorem preS_again {S : List Sc} (hF : Fst (parS S) S.length) : preS (scF S) = List.range S.length := by
  unfold preS
  rw [scF_len hF]
  exact pre_again hF (par_scF hF)
theorem par_lt {S : List Sc} (hF : Fst (parS S) S.length) {j : Nat} (h : j < S.length) : parS (scF S) j < (S.length : Int) := by
  have h' : j < (preS S).length := by rw [preS_len hF]; exact h
  rw [par_scF hF j h']
  have h2 := (preS_mem hF).1 (List.getElem_mem h')
  have := hF _ h2
  exact pos_lt hF (by omega)
theorem scF_again {S : List Sc} (hF : Fst (parS S) S.length) : scF (scF S) = scF S := by
  have hl := scF_len hF
  apply List.ext_getElem
  · unfold scF
    rw [List.length_map, List.length_map, show preS (List.map _ (preS S)) = List.range S.length from preS_again hF, List.length_range, preS_len hF]
  · intro i h1 h2
    have h3 : i < S.length := by rw [← hl]; exact h2
    rw [show (scF (scF S))[i] = (((scF S).getD (preS (scF S))[i]! ([], 0, 0)).1, ((scF S).getD (preS (scF S))[i]! ([], 0, 0)).2.1, pos (preS (scF S)) (parS (scF S) (preS (scF S))[i]!)) by
      have h4 : i < (preS (scF S)).length := by rw [preS_again hF, List.length_range]; exact h3
      simp only [scF, List.getElem_map]
      rw [getElem!_pos _ i h4]
      rfl]
    rw [preS_again hF]
    have e : (List.range S.length)[i]! = i := by rw [getElem!_pos _ i (by rw [List.length_range]; exact h3), List.getElem_range]
    rw [e, pos_range (par_lt hF h3)]
    unfold parS
    rw [List.getD, List.getElem?_eq_getElem h2, Option.getD_some]
theorem up_fuel {S : List Sc} (hF : Fst (parS S) S.length) : ∀ (f g : Nat) (q : Int), q < (g : Int) → (upL S f q).length ≤ (upL S g q).length
  | 0, _, _, _ => Nat.zero_le _
  | f + 1, 0, q, h => by
    unfold upL
    rw [if_pos (by omega)]
    exact Nat.zero_le _
  | f + 1, g + 1, q, h => by
    unfold upL
    split
    · exact Nat.zero_le _
    · rename_i h0
      split
      · exact Nat.zero_le _
      · rename_i s hs
        obtain ⟨hi, he⟩ := List.getElem?_eq_some_iff.1 hs
        have := hF q.toNat hi
        unfold parS at this
        rw [List.getD, List.getElem?_eq_getElem hi, Option.getD_some, he] at this
        have := up_fuel hF f g s.2.2 (by omega)
        rw [List.length_cons, List.length_cons]
        omega
theorem up_pos {S : List Sc} (hF : Fst (parS S) S.length) : ∀ (f : Nat) (q : Int), q < (S.length : Int) → (upL (scF S) f (pos (preS S) q)).length = (upL S f q).length
  | 0, _, _ => rfl
  | f + 1, q, h => by
    by_cases h0 : q < 0
    · unfold upL
      rw [if_pos h0, if_pos (by unfold pos; rw [if_pos h0]; exact h0)]
    · obtain ⟨x, rfl⟩ : ∃ x : Nat, q = (x : Int) := ⟨q.toNat, by omega⟩
      have hx : x < S.length := by omega
      have hm := (preS_mem hF).2 hx
      have hi := List.idxOf_lt_length_of_mem hm
      have hi2 : (preS S).idxOf x < (scF S).length := by rw [scF_len hF, ← preS_len hF]; exact hi
      have e0 : pos (preS S) (x : Int) = ((preS S).idxOf x : Int) := by unfold pos; rw [if_neg h0, Int.toNat_natCast]
      rw [e0]
      unfold upL
      rw [if_neg (by omega), if_neg h0, Int.toNat_natCast, Int.toNat_natCast, List.getElem?_eq_getElem hi2, List.getElem?_eq_getElem hx]
      dsimp only
      rw [List.length_cons, List.length_cons, scF_at hi2 hi, List.getElem_idxOf]
      dsimp only
      have hp : parS S x = S[x].2.2 := by unfold parS; rw [List.getD, List.getElem?_eq_getElem hx, Option.getD_some]
      rw [hp, up_pos hF f _ (by have := hF x hx; rw [hp] at this; omega)]

theorem map_any {α β : Type} {f : α → β} {p : β → Prop} {l m : List α} (h : (l.map f).Perm (m.map f)) (hm : ∀ x ∈ m, p (f x)) : ∀ x ∈ l, p (f x) := by
  intro x hx
  obtain ⟨y, hy, e⟩ := List.mem_map.1 (h.subset (List.mem_map_of_mem hx))
  rw [← e]
  exact hm y hy
theorem getD_map {β : Type} (S : List Sc) (g : Sc → β) : (List.range S.length).map (fun i => g (S.getD i ([], 0, 0))) = S.map g := by
  apply List.ext_getElem
  · rw [List.length_map, List.length_range, List.length_map]
  · intro i h1 h2
    rw [List.length_map] at h2
    rw [List.getElem_map, List.getElem_map, List.getElem_range, List.getD, List.getElem?_eq_getElem h2, Option.getD_some]
theorem preS_perm {S : List Sc} (hF : Fst (parS S) S.length) : (preS S).Perm (List.range S.length) :=
  (List.perm_ext_iff_of_nodup (preS_nodup hF) List.nodup_range).2 fun x => by rw [List.mem_range]; exact preS_mem hF
/-- what does not speak of the parent stays -/
theorem scF_perm {β : Type} {S : List Sc} (hF : Fst (parS S) S.length) (g : Bs × Int → β) : ((scF S).map fun s => g (s.1, s.2.1)).Perm (S.map fun s => g (s.1, s.2.1)) := by
  rw [← getD_map S fun s => g (s.1, s.2.1)]
  unfold scF
  rw [List.map_map]
  exact (preS_perm hF).map _
theorem nodup_inj {α β γ : Type} {f : α → β} {g : α → γ} : ∀ {l : List α}, (∀ x ∈ l, ∀ y ∈ l, g x = g y → f x = f y) → (l.map f).Nodup → (l.map g).Nodup
  | [], _, _ => List.nodup_nil
  | a :: l, h, hn => by
    rw [List.map_cons, List.nodup_cons] at hn ⊢
    refine ⟨fun hm => hn.1 ?_, nodup_inj (fun x hx y hy => h x (by simp [hx]) y (by simp [hy])) hn.2⟩
    obtain ⟨y, hy, e⟩ := List.mem_map.1 hm
    rw [h a (by simp) y (by simp [hy]) e.symm]
    exact List.mem_map_of_mem hy
theorem vr_perm {β : Type} {S : List Sc} {V : List Vr} (g : Vr → β) (hg : ∀ v x, g { v with sg := x } = g v) : (((vrF S V).1).map g).Perm ((vr1 S V).map g) := by
  unfold vrF
  rw [num_keep g hg]
  exact (isort_perm _).map g
theorem vr_perm2 {β : Type} {S : List Sc} {V : List Vr} (g : Vr → β) (hg : ∀ v x, g { v with sg := x } = g v) (hg2 : ∀ v x, g { v with sc := x } = g v) : (((vrF S V).1).map g).Perm (V.map g) := by
  have h := vr_perm (S := S) (V := V) g hg
  unfold vr1 at h
  rw [List.map_map, show (g ∘ fun v : Vr => { v with sc := pos (preS S) v.sc }) = g from funext fun v => hg2 v _] at h
  exact h
theorem vr_sc {S : List Sc} {V : List Vr} (hF : Fst (parS S) S.length) (hv : ∀ v ∈ V, -1 ≤ v.sc ∧ v.sc < (S.length : Int)) : ∀ v ∈ (vrF S V).1, -1 ≤ v.sc ∧ v.sc < (S.length : Int) :=
  map_any (f := fun v : Vr => v.sc) (p := fun x => -1 ≤ x ∧ x < (S.length : Int)) (vr_perm (S := S) (V := V) (fun v => v.sc) (fun _ _ => rfl)) (by
    intro v hm
    unfold vr1 at hm
    obtain ⟨u, hu, rfl⟩ := List.mem_map.1 hm
    have := hv u hu
    refine ⟨?_, pos_lt hF this.2⟩
    dsimp only
    unfold pos
    split <;> omega)
theorem vr_srt {S : List Sc} {V : List Vr} : Srt (fun v : Vr => v.sc) (vrF S V).1 := by
  have h : Srt (fun v : Vr => v.sc) (vr2 S V) := isort_srt _
  unfold Srt at *
  have e : (vrF S V).1.map (fun v => v.sc) = (vr2 S V).map fun v => v.sc := num_keep (fun v : Vr => v.sc) (fun _ _ => rfl) _ _
  have h1 : ((vr2 S V).map fun v => v.sc).Pairwise (· ≤ ·) := List.pairwise_map.2 h
  rw [← e] at h1
  exact List.pairwise_map.1 h1
theorem order_again {S : List Sc} {V : List Vr} (h : checkF S V = 0) : checkF (scF S) (vrF S V).1 = 0 ∧ scF (scF S) = scF S ∧ vrF (scF S) (vrF S V).1 = ((vrF S V).1, rgI (vrF S V).2.length) := by
  obtain ⟨hn, hm, hd, hu, hns, hnv, hts, htv, hr, hks, hkv⟩ := chk_iff.1 h
  have hF := decl_fst hd
  have hV := decl_vars hd
  have hl := scF_len hF
  have hF2 : Fst (parS (scF S)) (scF S).length := by
    intro j hj
    rw [hl] at hj
    have hj' : j < (preS S).length := by rw [preS_len hF]; exact hj
    rw [par_scF hF j hj']
    have hx := (preS_mem hF).1 (List.getElem_mem hj')
    have hsp : preS S = (preS S).take j ++ (preS S)[j] :: (preS S).drop (j + 1) := by rw [← List.drop_eq_getElem_cons hj', List.take_append_drop]
    have hfx := hF _ hx
    rcases pre_before _ _ _ _ _ hsp with h1 | ⟨y, hy, h1⟩
    · rw [h1]
      exact ⟨by show (-1 : Int) ≤ -1; omega, by show (-1 : Int) < (j : Int); omega⟩
    · rw [h1]
      obtain ⟨i, hi, he⟩ := List.mem_iff_getElem.1 hy
      rw [List.length_take] at hi
      rw [List.getElem_take] at he
      have e : (preS S).idxOf y = i := by rw [← he, (preS_nodup hF).idxOf_getElem]
      unfold pos
      rw [if_neg (by omega), Int.toNat_natCast, e]
      omega
  have hsc := vr_sc hF (fun v hv => ⟨(hV v hv).1, (hV v hv).2.1⟩)
  refine ⟨chk_iff.2 ⟨by rw [hl]; exact hn, ?_, decl_of hF2 (fun v hv => ⟨(hsc v hv).1, by rw [hl]; exact (hsc v hv).2, num_sg _ _ v hv⟩), fun i hi => ?_, ?_, ?_, ?_, ?_, ?_, ?_, ?_⟩, scF_again hF, ?_⟩
  · have := (vr_perm2 (S := S) (V := V) (fun v => v.nm) (fun _ _ => rfl) (fun _ _ => rfl)).length_eq
    rw [List.length_map, List.length_map] at this
    omega
  · rw [hl] at hi
    have hi' : i < (preS S).length := by rw [preS_len hF]; exact hi
    have hx := (preS_mem hF).1 (List.getElem_mem hi')
    have e : pos (preS S) ((preS S)[i] : Int) = (i : Int) := by
      unfold pos
      rw [if_neg (by omega), Int.toNat_natCast, (preS_nodup hF).idxOf_getElem]
    have h1 := up_pos hF (i + 1) ((preS S)[i] : Int) (by omega)
    rw [e] at h1
    rw [h1]
    exact Nat.le_trans (up_fuel hF _ _ _ (by omega)) (hu _ hx)
  · exact map_any (f := fun s : Sc => s.1) (p := fun x => nameOk x = true) (scF_perm hF fun x => x.1) hns
  · exact map_any (f := fun v : Vr => v.nm) (p := fun x => nameOk x = true) (vr_perm2 (fun v => v.nm) (fun _ _ => rfl) fun _ _ => rfl) hnv
  · exact map_any (f := fun s : Sc => s.2.1) (p := fun x => 0 ≤ x ∧ x ≤ 4) (scF_perm hF fun x => x.2) hts
  · exact map_any (f := fun v : Vr => v.ty) (p := fun x => 0 ≤ x ∧ x ≤ 18) (vr_perm2 (fun v => v.ty) (fun _ _ => rfl) fun _ _ => rfl) htv
  · exact map_any (f := fun v : Vr => rangeBad v) (p := fun x => x = false) (vr_perm2 (fun v => rangeBad v) (fun _ _ => rfl) fun _ _ => rfl) hr
  · unfold scF
    rw [List.map_map]
    have h1 : ((List.range S.length).map fun i => scKey (S.getD i ([], 0, 0))).Nodup := by rw [getD_map S scKey]; exact hks
    have h2 : ((preS S).map fun i => scKey (S.getD i ([], 0, 0))).Nodup := ((preS_perm hF).map _).nodup_iff.2 h1
    refine nodup_inj (fun x hx y hy e => ?_) h2
    have hx' := (preS_mem hF).1 hx
    have hy' := (preS_mem hF).1 hy
    injection e with e1 e2
    have h3 := pos_inj (hF x hx').1 (hF y hy').1 (fun _ => (preS_mem hF).2 (by have := hF x hx'; omega)) (fun _ => (preS_mem hF).2 (by have := hF y hy'; omega)) e1
    exact Prod.ext h3 e2
  · have h1 := vr_perm (S := S) (V := V) vrKey (fun _ _ => rfl)
    refine h1.nodup_iff.2 ?_
    unfold vr1
    rw [List.map_map]
    refine nodup_inj (fun x hx y hy e => ?_) hkv
    have hx' := hV x hx
    have hy' := hV y hy
    injection e with e1 e2
    have h3 := pos_inj hx'.1 hy'.1 (fun _ => (preS_mem hF).2 (by omega)) (fun _ => (preS_mem hF).2 (by omega)) e1
    exact Prod.ext h3 e2
  · have h1 : vr1 (scF S) (vrF S V).1 = (vrF S V).1 := by
      unfold vr1
      rw [preS_again hF]
      conv => rhs; rw [← List.map_id (vrF S V).1]
      exact List.map_congr_left fun v hv => by rw [pos_range (hsc v hv).2]; rfl
    show numF [] (isort _ (vr1 (scF S) (vrF S V).1)) = _
    rw [h1, isort_id vr_srt]
    obtain ⟨m, -, h2, h3⟩ := num_again (vr2 S V) []
    rw [show (vrF S V).2.length = m from h2]
    exact h3
end Go.Proofs.YtbiadennhnokhaaGreatDoor
/- Memory words of my own: rows that the call owns, slices that read as lists. Nothing here names the program. -/
namespace Go.Proofs.YtbiadennhnokhaaGreatDoor
open Go.RowKit

theorem ext_trans {a b c : World} (h : Below a.heap.size a b) (k : Below b.heap.size b c) : Below a.heap.size a c := h.trans (k.mono h.size)

theorem bcell {W w1 : World} (hb : Below W.heap.size W w1) : (∀ b o, b < W.heap.size → w1.cell? ⟨b, o, none⟩ = W.cell? ⟨b, o, none⟩) ∧ (∀ b o, b < W.heap.size → w1.frozen? ⟨b, o, none⟩ = W.frozen? ⟨b, o, none⟩) :=
  ⟨fun b o h => hb.cell (p := ⟨b, o, none⟩) h, fun b o h => hb.frozen (p := ⟨b, o, none⟩) h⟩

theorem cell_lt {w : World} {b o : Nat} {v : Value} (h : w.cell? ⟨b, o, none⟩ = some v) : b < w.heap.size := World.block_lt_of_cell? (h := h)

theorem ret_int' {k : IntKind} {a b : Int} (h : a = b) : Ending.returned (.int k a) = .returned (.int k b) := by rw [h]
theorem ret_bool {a b : Bool} (h : a = b) : Ending.returned (.bool a) = .returned (.bool b) := by rw [h]
theorem ret_str {a b : ByteArray} (h : a = b) : Ending.returned (.string a) = .returned (.string b) := by rw [h]

theorem addr_add (b o j : Nat) : (⟨b, o, none⟩ : Addr).add j = ⟨b, o + j, none⟩ := by unfold Addr.add; split <;> simp_all

theorem ret_str_int {a b : ByteArray} {i j : Int} (h : (a, i) = (b, j)) : Ending.returned (.tuple #[.string a, .int .i64 i]) = .returned (.tuple #[.string b, .int .i64 j]) := by
  injection h with h1 h2; rw [h1, h2]

/-- block b holds these cells from its head on, and they may be written -/
def OwnRow (w : World) (b : Nat) (xs : List Value) : Prop :=
  ∀ j v, xs[j]? = some v → w.cell? ⟨b, j, none⟩ = some v ∧ w.frozen? ⟨b, j, none⟩ = false

theorem OwnRow.cell {w : World} {b : Nat} {xs : List Value} (h : OwnRow w b xs) {j : Nat} {v : Value} (hj : xs[j]? = some v) : w.cell? ⟨b, j, none⟩ = some v := (h j v hj).1
theorem OwnRow.free {w : World} {b : Nat} {xs : List Value} (h : OwnRow w b xs) {j : Nat} (hj : j < xs.length) : w.frozen? ⟨b, j, none⟩ = false := (h j _ (List.getElem?_eq_getElem hj)).2
theorem OwnRow.below {w w' : World} {B b : Nat} {xs : List Value} (h : OwnRow w b xs) (hb : Below B w w') (hB : b < B) : OwnRow w' b xs :=
  fun j v hj => ⟨(hb.cell (p := ⟨b, j, none⟩) hB).trans (h j v hj).1, (hb.frozen (p := ⟨b, j, none⟩) hB).trans (h j v hj).2⟩
theorem OwnRow.drew {w : World} {b : Nat} {xs : List Value} (h : OwnRow w b xs) : OwnRow w.drew b xs := h
theorem OwnRow.set {w : World} {b : Nat} {xs : List Value} (h : OwnRow w b xs) {j : Nat} (hj : j < xs.length) (u : Value) : OwnRow (w.setCell ⟨b, j, none⟩ u) b (xs.set j u) := by
  intro i v hi
  have hc := h.cell (List.getElem?_eq_getElem hj)
  by_cases e : i = j
  · subst e
    rw [List.getElem?_set_self hj] at hi
    obtain rfl := Option.some.inj hi
    exact ⟨World.cell?_setCell_same _ _ _ hc, by rw [World.frozen?_setCell]; exact h.free hj⟩
  · rw [List.getElem?_set_ne (fun h => e h.symm)] at hi
    refine ⟨?_, by rw [World.frozen?_setCell]; exact (h i v hi).2⟩
    rw [World.cell?_setCell_other (h := by intro h; apply e; injection h with _ h2 _; exact h2.symm)]
    exact (h i v hi).1

/-- v is a slice of n elements whose cells, one behind the other, are xs -/
def SlR (w : World) (v : Value) (n : Nat) (xs : List Value) : Prop :=
  ∃ a cap, v = .slice a n cap ∧ n ≤ cap ∧ cap ≤ maxLen ∧ (a = none → cap = 0) ∧ (0 < n → ∃ b o, a = some ⟨b, o, none⟩ ∧ ∀ j u, xs[j]? = some u → w.cell? ⟨b, o + j, none⟩ = some u)

theorem SlR.below {w w' : World} {v : Value} {n : Nat} {xs : List Value} (h : SlR w v n xs) (hb : Below w.heap.size w w') : SlR w' v n xs := by
  obtain ⟨a, cap, hv, h1, h2, h3, h4⟩ := h
  refine ⟨a, cap, hv, h1, h2, h3, fun hn => ?_⟩
  obtain ⟨b, o, ha, hc⟩ := h4 hn
  refine ⟨b, o, ha, fun j u hj => ?_⟩
  have := hc j u hj
  exact (hb.cell (p := ⟨b, o + j, none⟩) (cell_lt this)).trans this
theorem SlR.nil (w : World) : SlR w (.slice none 0 0) 0 [] := ⟨none, 0, rfl, Nat.le_refl _, by simp [maxLen], fun _ => rfl, fun h => absurd h (by simp)⟩

theorem SlR.of_own {w : World} {base e size : Nat} {v : Value} {n : Nat} {xs : List Value} (h : w.ownsRow base e size v n xs) : SlR w v n xs := by
  rcases h.2 with ⟨rfl, rfl⟩ | ⟨g, cap, cur, rfl, hb, hg, hn, hm, hs, hx⟩
  · exact ⟨none, 0, rfl, Nat.le_refl _, by simp [maxLen], fun _ => rfl, fun h => absurd h (by simp)⟩
  · refine ⟨some ⟨g, 0, none⟩, cap, rfl, hn, hm, fun h => by simp at h, fun _ => ⟨g, 0, rfl, fun j u hj => ?_⟩⟩
    have := h.cells (g := g) rfl j u hj
    rwa [addr_add] at this

/-- a slice that is not empty has an address -/
theorem SlR.at {w : World} {v : Value} {n : Nat} {xs : List Value} (h : SlR w v n xs) (hn : 0 < n) :
    ∃ b o cap, v = .slice (some ⟨b, o, none⟩) n cap ∧ n ≤ cap ∧ cap ≤ maxLen ∧ ∀ j u, xs[j]? = some u → w.cell? ⟨b, o + j, none⟩ = some u := by
  obtain ⟨a, cap, hv, h1, h2, h3, h4⟩ := h
  obtain ⟨b, o, rfl, hc⟩ := h4 hn
  exact ⟨b, o, cap, hv, h1, h2, hc⟩
theorem SlR.zero {w : World} {v : Value} {xs : List Value} (h : SlR w v 0 xs) : ∃ a cap, v = .slice a 0 cap ∧ cap ≤ maxLen ∧ (a = none → cap = 0) := by
  obtain ⟨a, cap, hv, h1, h2, h3, h4⟩ := h
  exact ⟨a, cap, hv, h2, h3⟩

theorem SlR.shape {w : World} {v : Value} {n : Nat} {xs : List Value} (h : SlR w v n xs) : ∃ a cap, v = .slice a n cap ∧ n ≤ cap ∧ cap ≤ maxLen := by
  obtain ⟨a, cap, hv, h1, h2, h3, h4⟩ := h
  exact ⟨a, cap, hv, h1, h2⟩
/-- the same slice, cut at its front part -/
theorem SlR.cut {w : World} {a : Option Addr} {n k cap cap' : Nat} {xs ys : List Value} (h : SlR w (.slice a n cap) n (xs ++ ys)) (hk : k ≤ n) (hc : k ≤ cap') (hc' : cap' ≤ cap) : SlR w (.slice a k cap') k xs := by
  obtain ⟨a', cap1, hv, h1, h2, h3, h4⟩ := h
  injection hv with e1 e2 e3
  subst e1 e3
  refine ⟨_, cap', rfl, hc, by omega, fun h => by have := h3 h; omega, fun hn => ?_⟩
  obtain ⟨b, o, ha, hcc⟩ := h4 (by omega)
  exact ⟨b, o, ha, fun j u hj => hcc j u (by rw [List.getElem?_append_left]; exact hj; exact (List.getElem?_eq_some_iff.1 hj).1)⟩

/-- the three cells of a box, later -/
theorem box3 {w W : World} {x y z : Value} {T : TypeId} (hb : Below (w.alloc (.cells #[x, y, z] T)).heap.size (w.alloc (.cells #[x, y, z] T)) W) :
    W.cell? ⟨w.heap.size, 0, none⟩ = some x ∧ W.cell? ⟨w.heap.size, 1, none⟩ = some y ∧ W.cell? ⟨w.heap.size, 2, none⟩ = some z := by
  have h : ∀ i, W.cell? ⟨w.heap.size, i, none⟩ = (#[x, y, z] : Array Value)[i]? := fun i => by
    rw [hb.cell (p := ⟨w.heap.size, i, none⟩) (by simp), World.cell?_alloc_mark]
  exact ⟨h 0, h 1, h 2⟩

theorem ba_eq (a : ByteArray) (l : List UInt8) (h : a.data.toList = l) : a = ⟨l.toArray⟩ := by
  obtain ⟨d⟩ := a
  subst h
  rfl

theorem OwnRow.fresh (w : World) (C : Array Value) (T : TypeId) : OwnRow (w.alloc (.cells C T)) w.heap.size C.toList := by
  intro j v hj
  refine ⟨?_, ?_⟩
  · rw [World.cell?_alloc_mark]; simpa using hj
  · rw [World.frozen?_alloc_mark]; simp
theorem OwnRow.alloc {w : World} {b : Nat} {xs : List Value} (h : OwnRow w b xs) (hb : b < w.heap.size) (o : Obj) : OwnRow (w.alloc o) b xs :=
  h.below ((Below.refl _ w).alloc (Nat.le_refl _) o) hb
theorem cell_alloc {w : World} {b o : Nat} {v : Value} (h : w.cell? ⟨b, o, none⟩ = some v) (x : Obj) : (w.alloc x).cell? ⟨b, o, none⟩ = some v :=
  (((Below.refl _ w).alloc (Nat.le_refl _) x).cell (p := ⟨b, o, none⟩) (cell_lt h)).trans h

theorem box3f {w W : World} {x y z : Value} {T : TypeId} (hb : Below (w.alloc (.cells #[x, y, z] T)).heap.size (w.alloc (.cells #[x, y, z] T)) W) :
    W.frozen? ⟨w.heap.size, 0, none⟩ = false ∧ W.frozen? ⟨w.heap.size, 1, none⟩ = false ∧ W.frozen? ⟨w.heap.size, 2, none⟩ = false := by
  have h : ∀ i, W.frozen? ⟨w.heap.size, i, none⟩ = false := fun i => by
    rw [hb.frozen (p := ⟨w.heap.size, i, none⟩) (by simp), World.frozen?_alloc_mark]; simp
  exact ⟨h 0, h 1, h 2⟩
theorem ext_alloc {w w1 : World} {o : Obj} (hb : Below (w.alloc o).heap.size (w.alloc o) w1) : Below w.heap.size w w1 :=
  ((Below.refl _ _).alloc (Nat.le_refl _) o).trans (hb.mono (by simp))

theorem set3 {w : World} {b : Nat} {x y z : Value} (h0 : w.cell? ⟨b, 0, none⟩ = some x) (h1 : w.cell? ⟨b, 1, none⟩ = some y) (h2 : w.cell? ⟨b, 2, none⟩ = some z) (p q r : Value) :
    (((w.setCell ⟨b, 0, none⟩ p).setCell ⟨b, 1, none⟩ q).setCell ⟨b, 2, none⟩ r).cell? ⟨b, 0, none⟩ = some p ∧ (((w.setCell ⟨b, 0, none⟩ p).setCell ⟨b, 1, none⟩ q).setCell ⟨b, 2, none⟩ r).cell? ⟨b, 1, none⟩ = some q ∧ (((w.setCell ⟨b, 0, none⟩ p).setCell ⟨b, 1, none⟩ q).setCell ⟨b, 2, none⟩ r).cell? ⟨b, 2, none⟩ = some r := by
  have o : ∀ (W : World) (i j : Nat) (v u : Value), i ≠ j → W.cell? ⟨b, i, none⟩ = some v → (W.setCell ⟨b, j, none⟩ u).cell? ⟨b, i, none⟩ = some v := fun W i j v u hij h => by
    rw [World.cell?_setCell_other (h := by intro e; apply hij; injection e with _ e2 _; exact e2.symm)]; exact h
  have s : ∀ (W : World) (i : Nat) (v u : Value), W.cell? ⟨b, i, none⟩ = some v → (W.setCell ⟨b, i, none⟩ u).cell? ⟨b, i, none⟩ = some u := fun W i v u h => World.cell?_setCell_same _ _ _ h
  exact ⟨o _ _ _ _ _ (by omega) (o _ _ _ _ _ (by omega) (s _ _ _ _ h0)), o _ _ _ _ _ (by omega) (s _ _ _ _ (o _ _ _ _ _ (by omega) h1)), s _ _ _ _ (o _ _ _ _ _ (by omega) (o _ _ _ _ _ (by omega) h2))⟩

theorem boxN {w W : World} {C : Array Value} {T : TypeId} (hb : Below (w.alloc (.cells C T)).heap.size (w.alloc (.cells C T)) W) (i : Nat) :
    W.cell? ⟨w.heap.size, i, none⟩ = C[i]? ∧ W.frozen? ⟨w.heap.size, i, none⟩ = false := by
  refine ⟨?_, ?_⟩
  · rw [hb.cell (p := ⟨w.heap.size, i, none⟩) (by simp), World.cell?_alloc_mark]
  · rw [hb.frozen (p := ⟨w.heap.size, i, none⟩) (by simp), World.frozen?_alloc_mark]; simp

theorem ba_ne {s v : ByteArray} (h : s ≠ v) : (s.toList == v.toList) = false := by
  rw [beq_eq_false_iff_ne, ByteArray.toList_eq, ByteArray.toList_eq]
  intro e
  apply h
  obtain ⟨⟨a⟩⟩ := s
  obtain ⟨⟨b⟩⟩ := v
  simp at e
  rw [e]

end Go.Proofs.YtbiadennhnokhaaGreatDoor

namespace Go.Proofs.YtbiadennhnokhaaGreatDoor
open Go.RowKit

def codeOf (c : UInt8) : Int := if c = 48 then 0 else if c = 49 then 1 else if c = 120 then 2 else if c = 122 then 3 else -1

theorem u8_ne {a b : UInt8} (h : a ≠ b) : ((a.toNat : Int) == (b.toNat : Int)) = false := by
  rw [beq_eq_false_iff_ne]; intro e; apply h; apply UInt8.toNat_inj.1; omega

set_option maxHeartbeats 400000 in
theorem logic_Code (c : UInt8) (w : World) :
    Calls Tryz.prog 279 #[.int .u8 c.toNat] w fun e w' => e = .returned (.int .i64 (codeOf c)) ∧ w = w' := by
  by_cases h0 : c = 48
  · subst h0
    go_enter Tryz.func279, Tryz.ntmps279
    go_wp2
    refine wp_loop_rounds 5 ?_
    rw [rounds_succ]
    go_wp2
    go_ret
    exact ⟨rfl, rfl⟩
  by_cases h1 : c = 49
  · subst h1
    go_enter Tryz.func279, Tryz.ntmps279
    go_wp2
    refine wp_loop_rounds 5 ?_
    iterate 2 (rw [rounds_succ]; go_wp2)
    go_ret
    exact ⟨rfl, rfl⟩
  by_cases h2 : c = 120
  · subst h2
    go_enter Tryz.func279, Tryz.ntmps279
    go_wp2
    refine wp_loop_rounds 5 ?_
    iterate 3 (rw [rounds_succ]; go_wp2)
    go_ret
    exact ⟨rfl, rfl⟩
  by_cases h3 : c = 122
  · subst h3
    go_enter Tryz.func279, Tryz.ntmps279
    go_wp2
    refine wp_loop_rounds 5 ?_
    iterate 4 (rw [rounds_succ]; go_wp2)
    go_ret
    exact ⟨rfl, rfl⟩
  have g0 := u8_ne (a := (⟨#[48, 49, 120, 122]⟩ : ByteArray)[0]) (b := c) (fun e => h0 e.symm)
  have g1 := u8_ne (a := (⟨#[48, 49, 120, 122]⟩ : ByteArray)[1]) (b := c) (fun e => h1 e.symm)
  have g2 := u8_ne (a := (⟨#[48, 49, 120, 122]⟩ : ByteArray)[2]) (b := c) (fun e => h2 e.symm)
  have g3 := u8_ne (a := (⟨#[48, 49, 120, 122]⟩ : ByteArray)[3]) (b := c) (fun e => h3 e.symm)
  have e : codeOf c = -1 := by simp [codeOf, h0, h1, h2, h3]
  have E := Lib.hid e
  clear e
  go_enter Tryz.func279, Tryz.ntmps279
  go_wp2
  refine wp_loop_rounds 5 ?_
  iterate 5 (rw [rounds_succ]; go_wp2)
  go_ret
  exact ⟨ret_int' E.out.symm, rfl⟩
end Go.Proofs.YtbiadennhnokhaaGreatDoor

namespace Go.Proofs.YtbiadennhnokhaaGreatDoor
open Go.RowKit

/-- how many of the first k bytes have the code j -/
def cntC (j : Int) (l : List UInt8) : Nat := (l.filter fun c => codeOf c == j).length
theorem cntC_le (j : Int) (l : List UInt8) : cntC j l ≤ l.length := List.length_filter_le _ _
theorem cntC_snoc (j : Int) (l : List UInt8) (c : UInt8) : cntC j (l ++ [c]) = cntC j l + if codeOf c = j then 1 else 0 := by
  unfold cntC
  by_cases h : codeOf c = j <;> simp [List.filter_append, h]
theorem take_snoc (s : ByteArray) (k : Nat) (h : k < s.size) : s.data.toList.take (k + 1) = s.data.toList.take k ++ [s[k]] := by
  rw [List.take_succ_eq_append_getElem (by simpa using h)]; rfl
theorem codeOf_cases (c : UInt8) : codeOf c = 0 ∨ codeOf c = 1 ∨ codeOf c = 2 ∨ codeOf c = 3 ∨ codeOf c = -1 := by
  unfold codeOf; repeat' split
  all_goals simp

def cnt4 (l : List UInt8) : Array Value := #[.int .i64 (cntC 0 l), .int .i64 (cntC 1 l), .int .i64 (cntC 2 l), .int .i64 (cntC 3 l)]

theorem cnt4_step (s : ByteArray) (k : Nat) (h : k < s.size) {j : Int} (hj : codeOf s[k] = j) :
    cntC 0 (s.data.toList.take (k+1)) = cntC 0 (s.data.toList.take k) + (if j = 0 then 1 else 0) ∧
    cntC 1 (s.data.toList.take (k+1)) = cntC 1 (s.data.toList.take k) + (if j = 1 then 1 else 0) ∧
    cntC 2 (s.data.toList.take (k+1)) = cntC 2 (s.data.toList.take k) + (if j = 2 then 1 else 0) ∧
    cntC 3 (s.data.toList.take (k+1)) = cntC 3 (s.data.toList.take k) + (if j = 3 then 1 else 0) := by
  subst hj
  rw [take_snoc s k h]
  exact ⟨cntC_snoc _ _ _, cntC_snoc _ _ _, cntC_snoc _ _ _, cntC_snoc _ _ _⟩

set_option maxHeartbeats 400000 in
theorem logic_Count (s : ByteArray) (w : World) (hs : s.size ≤ maxLen) :
    Calls Tryz.prog 246 #[.string s] w fun e w' => e = .returned (.agg (cnt4 s.data.toList)) ∧ Below w.heap.size w w' := by
  unfold maxLen at hs
  go_enter Tryz.func246, Tryz.ntmps246
  go_wp2
  go_loopw [4, 5, 8] (fun _ _ i wr => ∃ k : Nat, k ≤ s.size ∧ i = .int .i64 k ∧
      wr = (w.alloc (.cells #[.int .i64 0, .int .i64 0, .int .i64 0, .int .i64 0] 253)).alloc (.cells #[.int .i64 (cntC 0 (s.data.toList.take k)), .int .i64 (cntC 1 (s.data.toList.take k)), .int .i64 (cntC 2 (s.data.toList.take k)), .int .i64 (cntC 3 (s.data.toList.take k))] 253))
    (fun _ _ i _ => s.size - (intOf i).toNat)
  case atStart => exact ⟨0, Nat.zero_le _, rfl, rfl⟩
  case round =>
    obtain ⟨k, hk, rfl, rfl⟩ := hrel
    by_cases hlt : k < s.size
    · rcases codeOf_cases s[k] with h | h | h | h | h
      all_goals
        have hst := cnt4_step s k hlt h
        have HS := Lib.hid hst
        have H := Lib.hid h
        clear h hst
        have l0 := cntC_le 0 (s.data.toList.take k)
        have l1 := cntC_le 1 (s.data.toList.take k)
        have l2 := cntC_le 2 (s.data.toList.take k)
        have l3 := cntC_le 3 (s.data.toList.take k)
        have hl : (s.data.toList.take k).length ≤ k := List.length_take_le _ _
        go_wp2_with fail
        refine (logic_Code _ _).mono ?_
        rintro e w' ⟨rfl, rfl⟩
        rw [H.out]
        go_wp2_with fail
        go_roundw
        case rel => exact ⟨k + 1, by omega, by go_num, by rw [HS.out.1, HS.out.2.1, HS.out.2.2.1, HS.out.2.2.2]; rfl⟩
        case measure => simp [intOf]; omega
    · obtain rfl : k = s.size := by omega
      have e : s.data.toList.take s.size = s.data.toList := List.take_of_length_le (by simp)
      rw [e]
      go_wp2
      exact bodyPost_ret (v := .agg (cnt4 s.data.toList)) (by simp [results, Tryz.results246, go_sem, cnt4]) rfl ⟨rfl, ((Below.refl _ _).alloc (Nat.le_refl _) _).alloc (by simp) _⟩
end Go.Proofs.YtbiadennhnokhaaGreatDoor

namespace Go.Proofs.YtbiadennhnokhaaGreatDoor
open Go.RowKit

theorem cntC_sum (l : List UInt8) : (cntC 0 l + cntC 1 l + cntC 2 l + cntC 3 l = l.length) ↔ l.all (fun c => codeOf c != -1) = true := by
  have key : cntC 0 l + cntC 1 l + cntC 2 l + cntC 3 l = (l.filter fun c => codeOf c != -1).length := by
    induction l with
    | nil => rfl
    | cons c l ih =>
      unfold cntC at *
      rcases codeOf_cases c with h | h | h | h | h <;> simp [h] <;> omega
  rw [key]
  constructor
  · intro h
    rw [List.all_eq_true]
    intro c hc
    by_cases hh : (codeOf c != -1) = true
    · exact hh
    · exfalso
      have := List.length_filter_lt_length_iff_exists (p := fun c => codeOf c != -1) (l := l) |>.2 ⟨c, hc, hh⟩
      omega
  · intro h
    rw [List.filter_eq_self.2 (by simpa using h)]

theorem toList_ne (s : ByteArray) (h : s.size ≠ 0) : s.toList.isEmpty = false := by
  rw [ByteArray.toList_eq]
  cases hl : s.data.toList with
  | nil => exact absurd (by have := congrArg List.length hl; simpa using this) h
  | cons => rfl

/-- a value of some width -/
def bvIs (s : ByteArray) : Bool := decide (1 ≤ s.size) && decide (s.size ≤ 128) && s.data.toList.all (fun c => codeOf c != -1)

set_option maxHeartbeats 400000 in
theorem bits_is (s : ByteArray) (w : World) (hs : s.size ≤ maxLen) :
    Calls Tryz.prog 182 #[.string s] w fun e w' => e = .returned (.bool (bvIs s)) ∧ Below w.heap.size w w' := by
  unfold maxLen at hs
  by_cases h0 : s.size = 0
  · obtain rfl : s = ⟨#[]⟩ := by
      obtain ⟨a⟩ := s
      have : a = #[] := Array.eq_empty_of_size_eq_zero h0
      rw [this]
    go_enter Tryz.func182, Tryz.ntmps182
    go_wp2
    go_ret
    exact ⟨ret_bool (by rfl), Below.refl _ _⟩
  have hE := toList_ne s h0
  by_cases h1 : 128 < s.size
  · have e : bvIs s = false := by unfold bvIs; simp; omega
    have E := Lib.hid e
    clear e
    go_enter Tryz.func182, Tryz.ntmps182
    go_wp2
    go_ret
    exact ⟨ret_bool E.out.symm, Below.refl _ _⟩
  have h2 : s.size ≤ 128 := by omega
  clear h1
  have hc : decide (cntC 0 s.data.toList + cntC 1 s.data.toList + cntC 2 s.data.toList + cntC 3 s.data.toList = s.size) = bvIs s := by
    have h3 := cntC_sum s.data.toList
    rw [show s.data.toList.length = s.size by simp] at h3
    have h4 : 1 ≤ s.size := by omega
    unfold bvIs
    rw [decide_eq_true h4, decide_eq_true h2, Bool.true_and, Bool.true_and, Bool.eq_iff_iff, decide_eq_true_iff]
    exact h3
  have HC := Lib.hid hc
  clear hc
  have l0 := cntC_le 0 s.data.toList
  have l1 := cntC_le 1 s.data.toList
  have l2 := cntC_le 2 s.data.toList
  have l3 := cntC_le 3 s.data.toList
  have hl : s.data.toList.length ≤ s.size := by simp
  go_enter Tryz.func182, Tryz.ntmps182
  go_wp2_with fail
  refine (logic_Count _ _ (by unfold maxLen; omega)).mono ?_
  rintro e w1 ⟨rfl, hb⟩
  unfold cnt4
  go_wp2_with fail
  go_ret
  refine ⟨ret_bool ?_, ?_⟩
  · rw [← HC.out, Bool.eq_iff_iff, beq_iff_eq, decide_eq_true_iff]; omega
  · exact hb.alloc hb.size _
end Go.Proofs.YtbiadennhnokhaaGreatDoor

namespace Go.Proofs.YtbiadennhnokhaaGreatDoor
open Go.RowKit

set_option maxHeartbeats 400000 in
theorem logic_Valid (c : UInt8) (w : World) :
    Calls Tryz.prog 271 #[.int .u8 c.toNat] w fun e w' => e = .returned (.bool (codeOf c != -1)) ∧ w = w' := by
  go_enter Tryz.func271, Tryz.ntmps271
  go_wp2_with fail
  refine (logic_Code _ _).mono ?_
  rintro e w' ⟨rfl, rfl⟩
  go_wp2
  go_ret
  refine ⟨ret_bool ?_, rfl⟩
  rcases codeOf_cases c with h | h | h | h | h <;> simp [h]

set_option maxHeartbeats 400000 in
theorem bits_Valid (n : Int) (s : ByteArray) (w : World) (hs : s.size ≤ maxLen) :
    Calls Tryz.prog 151 #[.int .i64 n, .string s] w fun e w' => e = .returned (.bool (bvIs s && decide ((s.size : Int) = n))) ∧ Below w.heap.size w w' := by
  unfold maxLen at hs
  go_enter Tryz.func151, Tryz.ntmps151
  go_wp2_with fail
  refine (bits_is _ _ hs).mono ?_
  rintro e w1 ⟨rfl, hb⟩
  cases h : bvIs s
  all_goals
    go_wp2
    go_ret
    refine ⟨ret_bool ?_, hb⟩
  · simp [h]
  · rw [Bool.eq_iff_iff]; simp [h]

end Go.Proofs.YtbiadennhnokhaaGreatDoor

namespace Go.Proofs.YtbiadennhnokhaaGreatDoor
open Go.RowKit

def byteVal (c : UInt8) : Value := .int .u8 c.toNat

theorem bytesRow_own (w : World) (s : ByteArray) (cap : Nat) (e : TypeId) (n : Nat) (hn : s.size ≤ n) :
    OwnRow (w.alloc (.cells (bytesRow s cap) e (n, n+1))) w.heap.size (s.data.toList.map byteVal) := by
  intro j v hj
  have hlt : j < s.data.toList.length := by
    have := (List.getElem?_eq_some_iff.1 hj).1
    simpa using this
  have hlt' : j < s.data.size := by simpa using hlt
  refine ⟨?_, ?_⟩
  · rw [World.cell?_alloc_mark, bytesRow_at s cap j hlt', ← hj]
    rw [List.getElem?_map, List.getElem?_eq_getElem hlt]; rfl
  · rw [World.frozen?_alloc_mark]
    have : s.data.size = s.size := rfl
    simp; omega

theorem bytesRow_size (s : ByteArray) (cap : Nat) : s.size ≤ (bytesRow s cap).size := by
  have : s.data.size = s.size := rfl
  simp [bytesRow]

end Go.Proofs.YtbiadennhnokhaaGreatDoor
/- Scopes, variables and gaps in memory. -/
namespace Go.Proofs.YtbiadennhnokhaaGreatDoor
open Go.RowKit
set_option linter.unusedSimpArgs false

def vrC (v : Vr) : List Value := [.string (bsB v.nm), .int .i64 v.ty, .int .i64 v.sc, .int .i64 v.sg, .bool v.rg, .int .i64 v.mb, .int .i64 v.lb]
def scC (s : Sc) : List Value := [.string (bsB s.1), .int .i64 s.2.1, .int .i64 s.2.2]
def gpC (g : Int × Int) : List Value := [.int .i64 g.1, .int .i64 g.2]
def vrs (l : List Vr) : List Value := l.flatMap vrC
def scs (l : List Sc) : List Value := l.flatMap scC
def gps (l : List (Int × Int)) : List Value := l.flatMap gpC
abbrev vrV (v : Vr) : Value := .agg #[.string (bsB v.nm), .int .i64 v.ty, .int .i64 v.sc, .int .i64 v.sg, .bool v.rg, .int .i64 v.mb, .int .i64 v.lb]
abbrev scV (s : Sc) : Value := .agg #[.string (bsB s.1), .int .i64 s.2.1, .int .i64 s.2.2]
abbrev gpV (g : Int × Int) : Value := .agg #[.int .i64 g.1, .int .i64 g.2]
theorem vrs_app (l m : List Vr) : vrs (l ++ m) = vrs l ++ vrs m := by simp [vrs]
theorem vrs_cons (x : Vr) (l : List Vr) : vrs (x :: l) = vrC x ++ vrs l := rfl
theorem vrs_len : ∀ l : List Vr, (vrs l).length = 7 * l.length
  | [] => rfl
  | x :: l => by rw [vrs_cons, List.length_append, vrs_len l, List.length_cons]; show 7 + _ = _; omega
theorem vrs_one : ∀ (l : List Vr), ∀ u ∈ vrs l, u.oneCell' = true
  | [], u, hu => by simp [vrs] at hu
  | x :: l, u, hu => by
    rw [vrs_cons] at hu
    rcases List.mem_append.1 hu with hu | hu
    · simp only [vrC, List.mem_cons, List.mem_nil_iff, or_false] at hu
      rcases hu with rfl | rfl | rfl | rfl | rfl | rfl | rfl <;> rfl
    · exact vrs_one l u hu
theorem vrs_at : ∀ (l : List Vr) (k : Nat) (h : k < l.length) (j : Nat), j < 7 → (vrs l)[7 * k + j]? = (vrC l[k])[j]?
  | x :: l, 0, _, j, hj => by
    rw [vrs_cons, List.getElem?_append_left (by simp [vrC]; omega)]
    simp
  | x :: l, k + 1, h, j, hj => by
    have := vrs_at l k (by simpa using h) j hj
    rw [vrs_cons, List.getElem?_append_right (by simp [vrC]; omega)]
    rw [show 7 * (k + 1) + j - (vrC x).length = 7 * k + j by simp [vrC]; omega]
    simpa using this
theorem SlR.vrs {w : World} {a : Option Addr} {cap : Nat} {l : List Vr} (h : SlR w (.slice a l.length cap) l.length (vrs l)) {k : Nat} (hk : k < l.length) :
    ∃ b o, a = some ⟨b, o, none⟩ ∧ ∀ (j : Nat) (u : Value), (vrC l[k])[j]? = some u → w.cell? ⟨b, o + k * 7 + j, none⟩ = some u := by
  obtain ⟨b, o, cap', hv, -, -, hcell⟩ := h.at (by omega)
  injection hv with e1 _ _
  refine ⟨b, o, e1, fun j u hj => ?_⟩
  have hjk : j < 7 := by have := (List.getElem?_eq_some_iff.1 hj).1; simpa [vrC] using this
  have := hcell _ _ ((vrs_at l k hk j hjk).trans hj)
  rwa [Nat.mul_comm 7 k, ← Nat.add_assoc] at this
theorem scs_app (l m : List Sc) : scs (l ++ m) = scs l ++ scs m := by simp [scs]
theorem scs_cons (x : Sc) (l : List Sc) : scs (x :: l) = scC x ++ scs l := rfl
theorem scs_len : ∀ l : List Sc, (scs l).length = 3 * l.length
  | [] => rfl
  | x :: l => by rw [scs_cons, List.length_append, scs_len l, List.length_cons]; show 3 + _ = _; omega
theorem scs_one : ∀ (l : List Sc), ∀ u ∈ scs l, u.oneCell' = true
  | [], u, hu => by simp [scs] at hu
  | x :: l, u, hu => by
    rw [scs_cons] at hu
    rcases List.mem_append.1 hu with hu | hu
    · simp only [scC, List.mem_cons, List.mem_nil_iff, or_false] at hu
      rcases hu with rfl | rfl | rfl <;> rfl
    · exact scs_one l u hu
theorem scs_at : ∀ (l : List Sc) (k : Nat) (h : k < l.length) (j : Nat), j < 3 → (scs l)[3 * k + j]? = (scC l[k])[j]?
  | x :: l, 0, _, j, hj => by
    rw [scs_cons, List.getElem?_append_left (by simp [scC]; omega)]
    simp
  | x :: l, k + 1, h, j, hj => by
    have := scs_at l k (by simpa using h) j hj
    rw [scs_cons, List.getElem?_append_right (by simp [scC]; omega)]
    rw [show 3 * (k + 1) + j - (scC x).length = 3 * k + j by simp [scC]; omega]
    simpa using this
theorem SlR.scs {w : World} {a : Option Addr} {cap : Nat} {l : List Sc} (h : SlR w (.slice a l.length cap) l.length (scs l)) {k : Nat} (hk : k < l.length) :
    ∃ b o, a = some ⟨b, o, none⟩ ∧ ∀ (j : Nat) (u : Value), (scC l[k])[j]? = some u → w.cell? ⟨b, o + k * 3 + j, none⟩ = some u := by
  obtain ⟨b, o, cap', hv, -, -, hcell⟩ := h.at (by omega)
  injection hv with e1 _ _
  refine ⟨b, o, e1, fun j u hj => ?_⟩
  have hjk : j < 3 := by have := (List.getElem?_eq_some_iff.1 hj).1; simpa [scC] using this
  have := hcell _ _ ((scs_at l k hk j hjk).trans hj)
  rwa [Nat.mul_comm 3 k, ← Nat.add_assoc] at this
theorem gps_app (l m : List (Int × Int)) : gps (l ++ m) = gps l ++ gps m := by simp [gps]
theorem gps_cons (x : (Int × Int)) (l : List (Int × Int)) : gps (x :: l) = gpC x ++ gps l := rfl
theorem gps_len : ∀ l : List (Int × Int), (gps l).length = 2 * l.length
  | [] => rfl
  | x :: l => by rw [gps_cons, List.length_append, gps_len l, List.length_cons]; show 2 + _ = _; omega
theorem gps_one : ∀ (l : List (Int × Int)), ∀ u ∈ gps l, u.oneCell' = true
  | [], u, hu => by simp [gps] at hu
  | x :: l, u, hu => by
    rw [gps_cons] at hu
    rcases List.mem_append.1 hu with hu | hu
    · simp only [gpC, List.mem_cons, List.mem_nil_iff, or_false] at hu
      rcases hu with rfl | rfl <;> rfl
    · exact gps_one l u hu
theorem gps_at : ∀ (l : List (Int × Int)) (k : Nat) (h : k < l.length) (j : Nat), j < 2 → (gps l)[2 * k + j]? = (gpC l[k])[j]?
  | x :: l, 0, _, j, hj => by
    rw [gps_cons, List.getElem?_append_left (by simp [gpC]; omega)]
    simp
  | x :: l, k + 1, h, j, hj => by
    have := gps_at l k (by simpa using h) j hj
    rw [gps_cons, List.getElem?_append_right (by simp [gpC]; omega)]
    rw [show 2 * (k + 1) + j - (gpC x).length = 2 * k + j by simp [gpC]; omega]
    simpa using this
theorem SlR.gps {w : World} {a : Option Addr} {cap : Nat} {l : List (Int × Int)} (h : SlR w (.slice a l.length cap) l.length (gps l)) {k : Nat} (hk : k < l.length) :
    ∃ b o, a = some ⟨b, o, none⟩ ∧ ∀ (j : Nat) (u : Value), (gpC l[k])[j]? = some u → w.cell? ⟨b, o + k * 2 + j, none⟩ = some u := by
  obtain ⟨b, o, cap', hv, -, -, hcell⟩ := h.at (by omega)
  injection hv with e1 _ _
  refine ⟨b, o, e1, fun j u hj => ?_⟩
  have hjk : j < 2 := by have := (List.getElem?_eq_some_iff.1 hj).1; simpa [gpC] using this
  have := hcell _ _ ((gps_at l k hk j hjk).trans hj)
  rwa [Nat.mul_comm 2 k, ← Nat.add_assoc] at this
theorem vr_info : (Tryz.prog.info? 42).map (fun i => (i.zero, i.size, i.bytes)) = some (some (.agg #[.string ⟨#[]⟩, .int .i64 0, .int .i64 0, .int .i64 0, .bool false, .int .i64 0, .int .i64 0]), 7, 64) := by kernel_rfl
theorem sc_info : (Tryz.prog.info? 55).map (fun i => (i.zero, i.size, i.bytes)) = some (some (.agg #[.string ⟨#[]⟩, .int .i64 0, .int .i64 0]), 3, 32) := by kernel_rfl
theorem gp_info : (Tryz.prog.info? 57).map (fun i => (i.zero, i.size, i.bytes)) = some (some (.agg #[.int .i64 0, .int .i64 0]), 2, 16) := by kernel_rfl
/-- the cells of a row of the call's own -/
theorem own_row {w : World} {B e size n : Nat} {g c : Nat} {xs : List Value} (h : w.ownsRow B e size (.slice (some ⟨g, 0, none⟩) n c) n xs) : OwnRow w g xs := by
  rcases h.2 with ⟨h0, -⟩ | ⟨g', cap', cur, h0, hbase, hb, hn, hm, hsz, htk⟩
  · cases h0
  injection h0 with e1 _ e3
  injection e1 with e1
  injection e1 with e1 _ _
  subst e1 e3
  intro j u hj
  have hj' : cur.toList[j]? = some u := by
    rw [← htk, List.getElem?_take] at hj
    split at hj
    · exact hj
    · cases hj
  rw [Array.getElem?_toList] at hj'
  exact ⟨by simp [World.cell?, hb, hj'], by simp [World.frozen?, hb]⟩
theorem own_set {w : World} {B e size n g c : Nat} {xs : List Value} (h : w.ownsRow B e size (.slice (some ⟨g, 0, none⟩) n c) n xs) (j : Nat) (u : Value) :
    (w.setCell ⟨g, j, none⟩ u).ownsRow B e size (.slice (some ⟨g, 0, none⟩) n c) n (xs.set j u) := (h.stored j u).1
end Go.Proofs.YtbiadennhnokhaaGreatDoor
namespace Go.Proofs.YtbiadennhnokhaaGreatDoor
open Go.RowKit

def allR (n : Int) (c : UInt8) : ByteArray := if n < 1 ∨ 128 < n ∨ codeOf c = -1 then ⟨#[]⟩ else ⟨(List.replicate n.toNat c).toArray⟩

theorem repeatL_one (c : UInt8) (n : Nat) : Lib.repeatL [c] n = List.replicate n c := by
  induction n with
  | zero => rfl
  | succ n ih => rw [Lib.repeatL, ih]; rfl

theorem one_byte (P : Program) (w : World) (src dst e : TypeId) (c : UInt8) (hs : P.underlying src = some (.slice e)) (he : P.underlying e = some (.int .u8)) (hd : P.underlying dst = some .string) :
    (convert src dst (.slice (some ⟨w.heap.size, 0, none⟩) 1 1)).run P (w.alloc (.cells #[.int .u8 c.toNat] e)) = .ok (.string ⟨#[c]⟩) (w.alloc (.cells #[.int .u8 c.toNat] e)) := by
  have := run_convert_bytes_back (P := P) (w.alloc (.cells #[.int .u8 c.toNat] e)) src dst e ⟨w.heap.size, 0, none⟩ 1 [c] hs he hd (fun j hj => by
    simp at hj; subst hj; rw [addr_add, World.cell?_alloc_mark]; rfl)
  exact this

set_option maxHeartbeats 400000 in
set_option maxRecDepth 100000 in
theorem bits_All (n : Int) (c : UInt8) (w : World) :
    Calls Tryz.prog 230 #[.int .i64 n, .int .u8 c.toNat] w fun e w' => e = .returned (.string (allR n c)) ∧ Below w.heap.size w w' := by
  by_cases h1 : n < 1 ∨ 128 < n
  · have e : allR n c = ⟨#[]⟩ := by rw [allR, if_pos]; omega
    have E := Lib.hid e
    clear e
    rcases h1 with h1 | h1
    all_goals
      go_enter Tryz.func230, Tryz.ntmps230
      go_wp2_with fail
      go_ret
      exact ⟨ret_str E.out.symm, Below.refl _ _⟩
  obtain ⟨g1, g2⟩ : 1 ≤ n ∧ n ≤ 128 := by omega
  clear h1
  by_cases h2 : codeOf c = -1
  · have e : allR n c = ⟨#[]⟩ := by rw [allR, if_pos]; omega
    have E := Lib.hid e
    have h3 : (codeOf c != -1) = false := by simp [h2]
    clear e h2
    go_enter Tryz.func230, Tryz.ntmps230
    go_wp2_with fail
    refine (logic_Valid _ _).mono ?_
    rintro e w' ⟨rfl, rfl⟩
    go_wp2_with fail
    go_ret
    exact ⟨ret_str E.out.symm, Below.refl _ _⟩
  · have e : allR n c = ⟨(List.replicate n.toNat c).toArray⟩ := by rw [allR, if_neg]; omega
    have E := Lib.hid e
    have h3 : (codeOf c != -1) = true := by simp [h2]
    clear e h2
    obtain ⟨k, rfl⟩ := Int.eq_ofNat_of_zero_le (show 0 ≤ n by omega)
    have hcb := one_byte Tryz.prog w 94 9 5 c Tryz.underlying94 Tryz.underlying5 Tryz.underlying9
    go_enter Tryz.func230, Tryz.ntmps230
    go_wp2_with fail
    refine (logic_Valid _ _).mono ?_
    rintro e w' ⟨rfl, rfl⟩
    go_wp2_with fail
    refine (Tryz.strings_Repeat ⟨#[c]⟩ k _ (by omega) (by simp [ByteArray.size]; omega)).mono ?_
    rintro e w1 ⟨rfl, hb⟩
    go_wp2_with fail
    go_ret
    exact ⟨ret_str (by rw [E.out, Int.toNat_natCast, repeatL_one]), ((Below.refl _ _).alloc (Nat.le_refl _) _).trans (hb.mono (by simp))⟩
end Go.Proofs.YtbiadennhnokhaaGreatDoor
