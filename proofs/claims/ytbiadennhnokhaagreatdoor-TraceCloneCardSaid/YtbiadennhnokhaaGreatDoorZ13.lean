import Derived.Test.YtbiadennhnokhaaGreatDoorZ12
import Derived.Test.YtbiadennhnokhaaGreatDoorZ01
import Derived.Test.YtbiadennhnokhaaGreatDoorZ11
namespace Go.Proofs.YtbiadennhnokhaaGreatDoor
open Go.RowKit

def nzGo (k n : Int) (at_ : Int) : List Ch → Int
  | [] => 0
  | c :: l => if c.1 < at_ ∨ 1099511627776 < c.1 then 2 else if vv k n c.2 = false then 1 else nzGo k n c.1 l
def normalizeR (k n : Int) (l : List Ch) : SigR := if vt k n = false then ((0, 0, []), 7) else if nzGo k n 0 l ≠ 0 then ((0, 0, []), nzGo k n 0 l) else madeR k n l

set_option maxHeartbeats 1600000 in
set_option maxRecDepth 100000 in
theorem sig_Normalize (k n : Int) (v : Value) (l : List Ch) (w : World) (hg : Glob w) (hs : SlR w v l.length (chs l)) (hf : Fit l) :
    Calls Tryz.prog 27 #[.int .i64 k, .int .i64 n, v] w (SigPost (normalizeR k n l) w) := by
  obtain ⟨a, cap, rfl, hc, hm⟩ := hs.shape
  have hln := hf.1
  unfold maxLen at hm
  have HS := Lib.hid hs
  have HG := Lib.hid hg
  have HF := Lib.hid hf
  clear hs hg hf
  go_enter Tryz.func27, Tryz.ntmps27
  go_wp2_with fail
  refine (val_ValidType k n _).mono ?_
  rintro e w1 ⟨rfl, hb⟩
  cases hv : vt k n
  · obtain ⟨c0, c1, c2⟩ := box3 hb
    obtain ⟨f0, f1, f2⟩ := box3f hb
    have HR := Lib.hid (show normalizeR k n l = ((0, 0, []), 7) by unfold normalizeR; rw [if_pos hv])
    have HB := Lib.hid (ext_alloc hb)
    clear hv hb
    go_wp2_with fail
    refine bodyPost_ret (v := .tuple #[.agg #[.int .i64 0, .int .i64 0, .slice none 0 0], .int .i64 7]) (by simp [results, Tryz.results27, go_sem, c0, c1, c2]) rfl ?_
    rw [HR.out]
    exact SigPost.zero 7 (below_set3 HB.out _ _ _)
  have hR : normalizeR k n l = if nzGo k n 0 l ≠ 0 then ((0, 0, []), nzGo k n 0 l) else madeR k n l := by unfold normalizeR; rw [if_neg (by rw [hv]; simp)]
  have HR := Lib.hid hR
  have HB := Lib.hid hb
  clear hv hb hR
  go_wp2_with fail
  go_loopw [8, 18] (fun a_ i wr => ∃ (j : Nat) (at_ : Int), j ≤ l.length ∧ i = .int .i64 j ∧ a_ = .int .i64 at_ ∧ nzGo k n at_ (l.drop j) = nzGo k n 0 l ∧
      Below (w.alloc (.cells #[.int .i64 0, .int .i64 0, .slice none 0 0] 45)).heap.size (w.alloc (.cells #[.int .i64 0, .int .i64 0, .slice none 0 0] 45)) wr)
    (fun _ i _ => l.length - (intOf i).toNat)
  case atStart => exact ⟨0, 0, Nat.zero_le _, rfl, rfl, rfl, HB.out⟩
  case round =>
    obtain ⟨j, at_, hj, rfl, rfl, hgo, hb⟩ := hrel
    obtain ⟨c0, c1, c2⟩ := box3 hb
    obtain ⟨f0, f1, f2⟩ := box3f hb
    have hsz0 : w.heap.size < wr.heap.size := by have := hb.size; simp at this; omega
    have HGO := Lib.hid hgo
    have HB2 := Lib.hid hb
    have HBW := Lib.hid (ext_alloc hb)
    clear hgo hb HB
    by_cases hlt : j < l.length
    · obtain ⟨b, o, rfl, d0, d1⟩ := (HS.out.below HBW.out).ch hlt
      have hfit : l[j].2.size ≤ maxLen := by
        have := HF.out.2 l[j] (List.getElem_mem hlt)
        unfold maxLen; omega
      have HGO2 : Hid ((if l[j].1 < at_ ∨ 1099511627776 < l[j].1 then 2 else if vv k n l[j].2 = false then 1 else nzGo k n l[j].1 (l.drop (j + 1))) = nzGo k n 0 l) := Lib.hid (by
        have := HGO.out
        rw [List.drop_eq_getElem_cons hlt, nzGo] at this
        exact this)
      generalize l[j] = c at d0 d1 hfit HGO2
      obtain ⟨t, s⟩ := c
      simp only at d0 d1 hfit
      by_cases hA : t < at_ ∨ 1099511627776 < t
      · have e : nzGo k n 0 l = 2 := by rw [← HGO2.out, if_pos hA]
        have E2 := Lib.hid (show normalizeR k n l = ((0, 0, []), 2) by rw [HR.out, e, if_pos (by decide)])
        clear e
        rcases hA with hA | hA
        all_goals
          go_wp2_with fail
        all_goals
          obtain ⟨e0, e1, e2⟩ := set3 c0 c1 c2 (.int .i64 0) (.int .i64 0) (.slice none 0 0)
          have e0 := cell_alloc e0 (.cells #[.int .i64 t, .string s] 53)
          have e1 := cell_alloc e1 (.cells #[.int .i64 t, .string s] 53)
          have e2 := cell_alloc e2 (.cells #[.int .i64 t, .string s] 53)
          refine bodyPost_ret (v := .tuple #[.agg #[.int .i64 0, .int .i64 0, .slice none 0 0], .int .i64 2]) (by simp [results, Tryz.results27, go_sem, e0, e1, e2]) rfl ?_
          rw [E2.out]
          exact SigPost.zero 2 ((below_set3 HBW.out _ _ _).alloc (by simp; omega) _)
      · obtain ⟨hA1, hA2⟩ : at_ ≤ t ∧ t ≤ 1099511627776 := by omega
        have HGO3 := Lib.hid ((if_neg hA).symm.trans HGO2.out)
        clear hA
        have hbw2 := HBW.out.alloc (by omega) (.cells #[.int .i64 t, .string s] 53)
        have HVal := Lib.hid (val_Valid k n s _ (HG.out.below hbw2) hfit)
        clear hbw2
        cases hV : vv k n s
        · have e : nzGo k n 0 l = 1 := by rw [← HGO3.out, if_pos hV]
          have E2 := Lib.hid (show normalizeR k n l = ((0, 0, []), 1) by rw [HR.out, e, if_pos (by decide)])
          clear e
          go_wp2_with fail
          refine HVal.out.mono ?_
          rintro e w3 ⟨rfl, hb3⟩
          rw [hV]
          clear hV
          have hb4 := ext_trans HB2.out (ext_alloc hb3)
          obtain ⟨c0', c1', c2'⟩ := box3 hb4
          obtain ⟨f0', f1', f2'⟩ := box3f hb4
          have HB4 := Lib.hid (ext_alloc hb4)
          clear hb4 hb3 c0 c1 c2 f0 f1 f2
          go_wp2_with fail
          refine bodyPost_ret (v := .tuple #[.agg #[.int .i64 0, .int .i64 0, .slice none 0 0], .int .i64 1]) (by simp [results, Tryz.results27, go_sem, c0', c1', c2']) rfl ?_
          rw [E2.out]
          exact SigPost.zero 1 (below_set3 HB4.out _ _ _)
        · have e : nzGo k n t (l.drop (j + 1)) = nzGo k n 0 l := by rw [← HGO3.out, if_neg (by rw [hV]; simp)]
          have E2 := Lib.hid e
          clear e
          go_wp2_with fail
          refine HVal.out.mono ?_
          rintro e w3 ⟨rfl, hb3⟩
          rw [hV]
          have hb4 := ext_trans HB2.out (ext_alloc hb3)
          have p0 : w3.cell? ⟨wr.heap.size, 0, none⟩ = some (.int .i64 t) := (boxN hb3 0).1
          have HB4 := Lib.hid hb4
          clear hb4 hb3 c0 c1 c2 f0 f1 f2 hV
          go_wp2_with fail
          go_roundw
          case rel => exact ⟨j + 1, t, by omega, by go_num, rfl, E2.out, HB4.out⟩
          case measure => simp [intOf]; omega
    · obtain rfl : j = l.length := by omega
      have e : nzGo k n 0 l = 0 := by rw [← HGO.out, List.drop_length]; rfl
      have E2 := Lib.hid (show normalizeR k n l = madeR k n l by rw [HR.out, e]; simp)
      clear e
      go_wp2_with fail
      refine (sig_made k n _ l _ (HS.out.below HBW.out) hln).mono ?_
      rintro e w3 ⟨v3, rfl, ho3, hb3⟩
      obtain ⟨a3, cap3, rfl, -, -⟩ := (SlR.of_own ho3).shape
      have hb4 := ext_trans HB2.out hb3
      obtain ⟨c0', c1', c2'⟩ := box3 hb4
      obtain ⟨f0', f1', f2'⟩ := box3f hb4
      have HB4 := Lib.hid (ext_alloc hb4)
      have HO3 := Lib.hid ho3
      clear hb4 hb3 c0 c1 c2 f0 f1 f2 ho3
      go_wp2_with fail
      refine bodyPost_ret (v := .tuple #[.agg #[.int .i64 (madeR k n l).1.1, .int .i64 (madeR k n l).1.2.1, .slice a3 (madeR k n l).1.2.2.length cap3], .int .i64 (madeR k n l).2]) (by simp [results, Tryz.results27, go_sem, c0', c1', c2']) rfl ?_
      rw [E2.out]
      exact ⟨_, rfl, ownsRow_base (ownsRow_set3 HO3.out hsz0 _ _ _) (by omega), below_set3 HB4.out _ _ _⟩
end Go.Proofs.YtbiadennhnokhaaGreatDoor
namespace Go.Proofs.YtbiadennhnokhaaGreatDoor
/- Plain laws of signals: the value at a time, normalized changes. No program in sight. -/

/-- a signal -/
abbrev Sg := Int × Int × List Ch
/-- the value at a time, read from the front -/
def val (v : ByteArray) : List Ch → Int → ByteArray
  | [], _ => v
  | c :: l, t => val (if c.1 ≤ t then c.2 else v) l t
theorem val_cons (v : ByteArray) (c : Ch) (l : List Ch) (t : Int) : val v (c :: l) t = val (if c.1 ≤ t then c.2 else v) l t := rfl
theorem val_append (t : Int) : ∀ (l m : List Ch) (v : ByteArray), val v (l ++ m) t = val (val v l t) m t
  | [], _, _ => rfl
  | _ :: l, m, _ => val_append t l m _

/-- times that do not decrease, from a on -/
def NonDec (a : Int) : List Ch → Prop
  | [] => True
  | c :: l => a ≤ c.1 ∧ NonDec c.1 l
theorem NonDec.mono {a b : Int} (h : b ≤ a) : ∀ {l : List Ch}, NonDec a l → NonDec b l
  | [], _ => trivial
  | _ :: _, ⟨h1, h2⟩ => ⟨by omega, h2⟩
theorem NonDec.mem {a : Int} : ∀ {l : List Ch}, NonDec a l → ∀ c ∈ l, a ≤ c.1
  | [], _, c, h => by cases h
  | d :: l, ⟨h1, h2⟩, c, h => by
    rcases List.mem_cons.1 h with rfl | h
    · exact h1
    · exact Int.le_trans h1 (NonDec.mem h2 c h)
theorem NonDec.sub {m : List Ch} : ∀ {l : List Ch} {a : Int}, List.Sublist m l → NonDec a l → NonDec a m := by
  intro l a hs
  induction hs generalizing a with
  | slnil => intro _; trivial
  | cons x _ ih => intro h; exact (ih h.2).mono h.1
  | cons_cons x _ ih => intro h; exact ⟨h.1, ih h.2⟩
theorem NonDec.append {a b : Int} : ∀ {l m : List Ch}, NonDec a l → (∀ c ∈ l, c.1 ≤ b) → a ≤ b → NonDec b m → NonDec a (l ++ m)
  | [], _, _, _, hab, hm => hm.mono hab
  | c :: _, _, ⟨h1, h2⟩, hl, _, hm => ⟨h1, NonDec.append h2 (fun d hd => hl d (List.mem_cons_of_mem _ hd)) (hl c List.mem_cons_self) hm⟩

theorem val_late {v : ByteArray} {t : Int} : ∀ {l : List Ch} {a : Int}, NonDec a l → t < a → val v l t = v
  | [], _, _, _ => rfl
  | c :: l, a, ⟨h1, h2⟩, h => by
    rw [val_cons, if_neg (by omega)]
    exact val_late h2 (by omega)
theorem val_all {t t' : Int} : ∀ {l : List Ch} (v : ByteArray), (∀ c ∈ l, c.1 ≤ t) → t ≤ t' → val v l t' = val v l t
  | [], _, _, _ => rfl
  | c :: l, v, h, ht => by
    have h1 := h c List.mem_cons_self
    rw [val_cons, val_cons, if_pos h1, if_pos (by omega)]
    exact val_all _ (fun d hd => h d (List.mem_cons_of_mem _ hd)) ht
theorem val_mem {t : Int} (P : ByteArray → Prop) : ∀ {l : List Ch} {v : ByteArray}, P v → (∀ c ∈ l, P c.2) → P (val v l t)
  | [], _, hv, _ => hv
  | c :: l, v, hv, h => by
    rw [val_cons]
    refine val_mem P ?_ (fun d hd => h d (List.mem_cons_of_mem _ hd))
    split
    · exact h c List.mem_cons_self
    · exact hv

theorem normGo_sub (k : Int) : ∀ (l : List Ch) (v : ByteArray), (normGo k v l).Sublist l
  | [], _ => List.Sublist.refl _
  | c :: l, v => by
    unfold normGo
    split
    · exact (normGo_sub k l v).cons _
    · exact (normGo_sub k l c.2).cons_cons _
theorem normGo_nonDec {k a : Int} {v : ByteArray} {l : List Ch} (h : NonDec a l) : NonDec a (normGo k v l) := h.sub (normGo_sub k l v)

theorem val_normGo (k : Int) (t : Int) : ∀ (l : List Ch) (v : ByteArray) (a : Int), NonDec a l → val v (normGo k v l) t = val v l t
  | [], _, _, _ => rfl
  | c :: l, v, a, ⟨h1, h2⟩ => by
    unfold normGo
    split
    · rename_i hc
      rw [val_normGo k t l v c.1 h2, val_cons]
      rcases hc with ⟨d, hd, he⟩ | ⟨-, he⟩
      · cases l with
        | nil => simp at hd
        | cons d' l =>
          simp at hd
          subst hd
          rw [val_cons, val_cons, he]
          split <;> rfl
      · rw [he]; simp
    · rw [val_cons, val_cons]
      by_cases ht : c.1 ≤ t
      · rw [if_pos ht]; exact val_normGo k t l c.2 c.1 h2
      · rw [if_neg ht, val_late h2 (by omega), val_late (normGo_nonDec h2) (by omega)]

theorem svGo_cons (k n a : Int) (v : ByteArray) (c : Ch) (l : List Ch) : svGo k n a v (c :: l) = true ↔ a < c.1 ∧ c.1 ≤ 1099511627776 ∧ vv k n c.2 = true ∧ (k ≠ 3 → c.2 ≠ v) ∧ svGo k n c.1 c.2 l = true := by
  rw [svGo]
  split
  · rename_i h; exact ⟨fun h => by (cases h), fun h' => by omega⟩
  · rename_i h1
    split
    · rename_i h2; exact ⟨fun h => by (cases h), fun h' => by rw [h'.2.2.1] at h2; cases h2⟩
    · rename_i h2
      split
      · rename_i h3; exact ⟨fun h => by (cases h), fun h' => absurd h3.2 (h'.2.2.2.1 h3.1)⟩
      · rename_i h3
        exact ⟨fun h => ⟨by omega, by omega, by simpa using h2, fun hk he => h3 ⟨hk, he⟩, h⟩, fun h => h.2.2.2.2⟩

theorem svGo_nonDec {k n : Int} : ∀ {l : List Ch} {a : Int} {v : ByteArray}, svGo k n a v l = true → NonDec (a + 1) l
  | [], _, _, _ => trivial
  | c :: l, a, v, h => by
    obtain ⟨h1, -, -, -, h5⟩ := (svGo_cons ..).1 h
    exact ⟨by omega, (svGo_nonDec h5).mono (by omega)⟩
theorem svGo_mem {k n : Int} : ∀ {l : List Ch} {a : Int} {v : ByteArray}, svGo k n a v l = true → ∀ c ∈ l, a < c.1 ∧ c.1 ≤ 1099511627776 ∧ vv k n c.2 = true
  | [], _, _, _, c, h => by cases h
  | d :: l, a, v, h, c, hc => by
    obtain ⟨h1, h2, h3, -, h5⟩ := (svGo_cons ..).1 h
    rcases List.mem_cons.1 hc with rfl | hc
    · exact ⟨h1, h2, h3⟩
    · have := svGo_mem h5 c hc
      exact ⟨by omega, this.2⟩

theorem svGo_normGo (k n : Int) : ∀ (l : List Ch) (v : ByteArray) (a : Int), NonDec (a + 1) l → (∀ c ∈ l, c.1 ≤ 1099511627776 ∧ vv k n c.2 = true) → svGo k n a v (normGo k v l) = true
  | [], _, _, _, _ => rfl
  | c :: l, v, a, ⟨h1, h2⟩, h => by
    unfold normGo
    split
    · exact svGo_normGo k n l v a (h2.mono h1) (fun d hd => h d (List.mem_cons_of_mem _ hd))
    · rename_i hc
      obtain ⟨h3, h4⟩ := h c List.mem_cons_self
      refine (svGo_cons ..).2 ⟨by omega, h3, h4, fun hk he => hc (.inr ⟨hk, he⟩), svGo_normGo k n l c.2 c.1 ?_ (fun d hd => h d (List.mem_cons_of_mem _ hd))⟩
      cases l with
      | nil => trivial
      | cons d l =>
        have hne : d.1 ≠ c.1 := fun he => hc (.inl ⟨d, by simp, he⟩)
        exact ⟨by have := h2.1; omega, h2.2⟩

theorem normGo_id {k n : Int} : ∀ {l : List Ch} {v : ByteArray} {a : Int}, svGo k n a v l = true → normGo k v l = l
  | [], _, _, _ => rfl
  | c :: l, v, a, h => by
    obtain ⟨h1, h2, h3, h4, h5⟩ := (svGo_cons ..).1 h
    unfold normGo
    rw [if_neg, normGo_id h5]
    rintro (⟨d, hd, he⟩ | ⟨hk, he⟩)
    · cases l with
      | nil => simp at hd
      | cons d' l =>
        simp at hd
        subst hd
        have := ((svGo_cons ..).1 h5).1
        omega
    · exact h4 hk he

theorem nzGo_zero {k n : Int} : ∀ {l : List Ch} {a : Int}, nzGo k n a l = 0 ↔ NonDec a l ∧ ∀ c ∈ l, c.1 ≤ 1099511627776 ∧ vv k n c.2 = true
  | [], _ => ⟨fun _ => ⟨trivial, fun c h => by cases h⟩, fun _ => rfl⟩
  | c :: l, a => by
    rw [nzGo]
    split
    · rename_i h1
      refine ⟨fun h => absurd h (by decide), fun ⟨h2, h3⟩ => ?_⟩
      have := h2.1
      have := (h3 c List.mem_cons_self).1
      omega
    · rename_i h1
      split
      · rename_i h2
        refine ⟨fun h => absurd h (by decide), fun ⟨_, h3⟩ => ?_⟩
        have := (h3 c List.mem_cons_self).2
        rw [this] at h2; cases h2
      · rename_i h2
        rw [nzGo_zero]
        refine ⟨fun ⟨h3, h4⟩ => ⟨⟨by omega, h3⟩, fun d hd => ?_⟩, fun ⟨h3, h4⟩ => ⟨h3.2, fun d hd => h4 d (List.mem_cons_of_mem _ hd)⟩⟩
        rcases List.mem_cons.1 hd with rfl | hd
        · exact ⟨by omega, by simpa using h2⟩
        · exact h4 d hd

/-- a signal is known by its values -/
theorem svGo_unique {k n : Int} (hk : k ≠ 3) : ∀ (l m : List Ch) (a : Int) (v : ByteArray), svGo k n a v l = true → svGo k n a v m = true → (∀ t, a < t → t ≤ 1099511627776 → val v l t = val v m t) → l = m
  | [], [], _, _, _, _, _ => rfl
  | [], d :: m, a, v, _, h, hv => by
    obtain ⟨h1, h2, h3, h4, h5⟩ := (svGo_cons ..).1 h
    have := hv d.1 h1 h2
    rw [val_cons, if_pos (Int.le_refl _), val_late (svGo_nonDec h5) (by omega)] at this
    exact absurd this.symm (h4 hk)
  | c :: l, [], a, v, h, _, hv => by
    obtain ⟨h1, h2, h3, h4, h5⟩ := (svGo_cons ..).1 h
    have := hv c.1 h1 h2
    rw [val_cons, if_pos (Int.le_refl _), val_late (svGo_nonDec h5) (by omega)] at this
    exact absurd this (h4 hk)
  | c :: l, d :: m, a, v, h, h', hv => by
    obtain ⟨h1, h2, h3, h4, h5⟩ := (svGo_cons ..).1 h
    obtain ⟨g1, g2, g3, g4, g5⟩ := (svGo_cons ..).1 h'
    have e1 := hv c.1 h1 h2
    have e2 := hv d.1 g1 g2
    rw [val_cons, val_cons, if_pos (Int.le_refl _), val_late (svGo_nonDec h5) (by omega)] at e1
    rw [val_cons, val_cons, if_pos (Int.le_refl _), val_late (v := d.2) (svGo_nonDec g5) (by omega)] at e2
    rcases Int.lt_trichotomy c.1 d.1 with hlt | heq | hgt
    · rw [if_neg (by omega), val_late (svGo_nonDec g5) (by omega)] at e1
      exact absurd e1 (h4 hk)
    · rw [if_pos (by omega), val_late (svGo_nonDec g5) (by omega)] at e1
      have hcd : c = d := Prod.ext heq e1
      subst hcd
      congr 1
      refine svGo_unique hk l m c.1 c.2 h5 g5 (fun t ht ht2 => ?_)
      have := hv t (by omega) ht2
      rwa [val_cons, val_cons, if_pos (by omega)] at this
    · rw [if_neg (by omega), val_late (svGo_nonDec h5) (by omega)] at e2
      exact absurd e2.symm (g4 hk)

theorem sv_iff {k n : Int} {l : List Ch} : sv k n l = true ↔ vt k n = true ∧ l.length ≤ 4096 ∧ svGo k n (-1) (vi k n) l = true := by
  unfold sv
  rw [Bool.and_eq_true, Bool.and_eq_true, decide_eq_true_iff, and_assoc]
theorem sv_nonDec {k n : Int} {l : List Ch} (h : sv k n l = true) : NonDec 0 l := svGo_nonDec (sv_iff.1 h).2.2
theorem sv_mem {k n : Int} {l : List Ch} (h : sv k n l = true) : ∀ c ∈ l, 0 ≤ c.1 ∧ c.1 ≤ 1099511627776 ∧ vv k n c.2 = true := fun c hc => by
  have := svGo_mem (sv_iff.1 h).2.2 c hc
  exact ⟨by omega, this.2⟩
theorem sv_norm {k n : Int} {l : List Ch} (h : sv k n l = true) : normS k n l = l := normGo_id (sv_iff.1 h).2.2
/-- what normalizes to a valid signal -/
def Nrm (k n : Int) (l : List Ch) : Prop := vt k n = true ∧ l.length ≤ 4096 ∧ NonDec 0 l ∧ ∀ c ∈ l, c.1 ≤ 1099511627776 ∧ vv k n c.2 = true
theorem Nrm.made {k n : Int} {l : List Ch} (h : Nrm k n l) : madeR k n l = ((k, n, normS k n l), 0) := by
  unfold madeR
  have := normGo_len k l (vi k n)
  have := h.2.1
  rw [if_neg (by unfold normS; omega)]
theorem Nrm.sv {k n : Int} {l : List Ch} (h : Nrm k n l) : sv k n (normS k n l) = true :=
  sv_iff.2 ⟨h.1, by have := normGo_len k l (vi k n); have := h.2.1; unfold normS; omega, svGo_normGo k n l _ _ h.2.2.1 h.2.2.2⟩
theorem Nrm.val {k n : Int} {l : List Ch} (h : Nrm k n l) (t : Int) : val (vi k n) (normS k n l) t = val (vi k n) l t := val_normGo k t l _ 0 h.2.2.1
theorem sv_Nrm {k n : Int} {l : List Ch} (h : Go.Proofs.YtbiadennhnokhaaGreatDoor.sv k n l = true) : Nrm k n l := ⟨(sv_iff.1 h).1, (sv_iff.1 h).2.1, sv_nonDec h, fun c hc => (sv_mem h c hc).2⟩

theorem lo_cons_lt {c : Ch} {l : List Ch} {t : Int} (h : c.1 < t) : lo (c :: l) t = lo l t + 1 := by
  unfold lo; rw [List.takeWhile_cons_of_pos (by simpa using h)]; rfl
theorem lo_cons_ge {c : Ch} {l : List Ch} {t : Int} (h : t ≤ c.1) : lo (c :: l) t = 0 := by
  unfold lo; rw [List.takeWhile_cons_of_neg (by simp; omega)]; rfl
theorem valAt_go (t : Int) : ∀ (l : List Ch) (v : ByteArray) (a : Int), NonDec a l → (match lo l (t + 1) with | 0 => v | j + 1 => (l.getD j (0, ⟨#[]⟩)).2) = val v l t
  | [], v, a, _ => rfl
  | c :: l, v, a, ⟨h1, h2⟩ => by
    by_cases hc : c.1 ≤ t
    · rw [lo_cons_lt (by omega), val_cons, if_pos hc, ← valAt_go t l c.2 c.1 h2]
      cases lo l (t + 1) with
      | zero => rfl
      | succ j => rfl
    · rw [lo_cons_ge (by omega), val_cons, if_neg hc, val_late h2 (by omega)]
theorem vv3 {n : Int} {s : ByteArray} (h : vv 3 n s = true) : s = ⟨#[]⟩ := by
  unfold vv at h
  have : nilB s = true := by
    revert h
    simp
  unfold nilB at this
  have h0 : s.size = 0 := by simpa using this
  obtain ⟨a⟩ := s
  have : a = #[] := Array.eq_empty_of_size_eq_zero h0
  rw [this]
theorem vi3 {n : Int} : vi 3 n = ⟨#[]⟩ := by unfold vi; simp
theorem valAt_eq {k n : Int} {l : List Ch} (h : sv k n l = true) (t : Int) : valAt k n l t = val (vi k n) l t := by
  unfold valAt
  split
  · rename_i hk
    subst hk
    have := val_mem (t := t) (fun s => s = ⟨#[]⟩) (l := l) (v := vi 3 n) vi3 (fun c hc => vv3 (sv_mem h c hc).2.2)
    rw [this, vi3]
  · exact valAt_go t l _ 0 (sv_nonDec h)
theorem atR_eq {k n : Int} {l : List Ch} (h : sv k n l = true) {t : Int} (h0 : 0 ≤ t) (h1 : t ≤ 1099511627776) : atR k n l t = (val (vi k n) l t, 0) := by
  unfold atR
  rw [if_neg (by rw [h]; simp), if_neg (by omega), valAt_eq h]

end Go.Proofs.YtbiadennhnokhaaGreatDoor
/- Plain: traces: what is built of a loose one. -/
namespace Go.Proofs.YtbiadennhnokhaaGreatDoor

abbrev Gp := Int × Int
structure Tr where
  sc : Int
  dt : Bs
  vn : Bs
  cm : Bs
  S : List Sc
  V : List Vr
  G : List Sg
  P : List Gp
  en : Int
def tr0 : Tr := ⟨0, [], [], [], [], [], [], [], 0⟩
def kindF (t : Int) : Int := if t = 3 ∨ t = 4 then 1 else if t = 6 then 2 else if t = 0 then 3 else 0
/-- the parts of a text between the spaces -/
def spl : Bs → Bs → List Bs
  | [], cur => [cur]
  | c :: t, cur => if c = 32 then cur :: spl t [] else spl t (cur ++ [c])
def wordOk (w : Bs) : Bool := !decide (w = []) && !decide (w.head? = some 36) && w.all prn
def wordsOk (s : Bs) : Bool := decide (s = []) || ((spl s []).all wordOk && decide (s.length ≤ 200))
def textsF (t : Tr) : Int := if t.sc < -15 ∨ 2 < t.sc then 2 else if (wordsOk t.dt && wordsOk t.vn && wordsOk t.cm) = true then 0 else 3
def sgI (G : List Sg) (n : Int) : Sg := G.getD n.toNat (0, 0, [])
def declE (t : Tr) : Int :=
  if (orderF t.S t.V).2.2.2 ≠ 0 then (orderF t.S t.V).2.2.2
  else if (orderF t.S t.V).2.2.1.any (fun n => decide ((t.G.length : Int) ≤ n)) = true then 1
  else if 64 < (orderF t.S t.V).2.2.1.length then 9 else 0
def sig1 (t : Tr) : List Sg := (orderF t.S t.V).2.2.1.map (sgI t.G)
def firstE {α : Type} (f : α → Int) : List α → Int
  | [] => 0
  | x :: l => if f x ≠ 0 then f x else firstE f l
def fitE (G : List Sg) (v : Vr) : Int :=
  if (sgI G v.sg).1 ≠ kindF v.ty ∨ (v.rg = true ∧ (sgI G v.sg).1 ≠ 0) then 7
  else if v.rg = true ∧ (sgI G v.sg).2.1 ≠ widthF v.mb v.lb then 8 else 0
def normE (G : List Sg) : Int := firstE (fun s => (normalizeR s.1 s.2.1 s.2.2).2) G
def normL (G : List Sg) : List Sg := G.map fun s => (normalizeR s.1 s.2.1 s.2.2).1
def addGap (acc : List Gp) (g : Gp) : List Gp := match acc.getLast? with
  | none => [g]
  | some h => if g.1 ≤ h.2 then acc.dropLast ++ [(h.1, max h.2 g.2)] else acc ++ [g]
def gapsGo : Int → List Gp → Int → List Gp → Option (List Gp × Int)
  | _, acc, en, [] => some (acc, en)
  | b, acc, en, g :: t => if g.1 < b ∨ g.1 < 0 ∨ g.2 ≤ g.1 ∨ 1099511627777 < g.2 then none else gapsGo g.1 (addGap acc g) (max en (g.2 - 1)) t
def lastT (G : List Sg) (en : Int) : Int := G.foldl (fun e s => match s.2.2.getLast? with
  | none => e
  | some c => max e c.1) en
def timesF (t : Tr) (G : List Sg) : Option (List Gp × Int) :=
  if t.en < 0 ∨ 1099511627776 < t.en then none else (gapsGo 0 [] t.en t.P).map fun r => (r.1, lastT G r.2)
def gapTo (en : Int) (g : Gp) : Int := if en < g.2 then 1099511627777 else g.2
def offL (x : ByteArray) (at_ : Int → ByteArray) (en : Int) : List Gp → List Ch → List Ch
  | [], cs => cs
  | g :: t, cs => cs.takeWhile (fun c => decide (c.1 < g.1)) ++ ((g.1, x) :: ((if gapTo en g ≤ 1099511627776 then [(gapTo en g, at_ (gapTo en g))] else []) ++
      offL x at_ en t ((cs.dropWhile fun c => decide (c.1 < g.1)).dropWhile fun c => decide (c.1 ≤ gapTo en g))))
def offF (P : List Gp) (en : Int) (s : Sg) : SigR := normalizeR s.1 s.2.1 (offL (vi s.1 s.2.1) (fun t => (atR s.1 s.2.1 s.2.2 t).1) en P s.2.2)
def clrE (P : List Gp) (en : Int) (G : List Sg) : Int := firstE (fun s => if s.1 = 0 then (offF P en s).2 else 0) G
def clrL (P : List Gp) (en : Int) (G : List Sg) : List Sg := G.map fun s => if s.1 = 0 then (offF P en s).1 else s
def countL (G : List Sg) : Nat := (G.map fun s => s.2.2.length).sum
def clearF (P : List Gp) (en : Int) (G : List Sg) : Int :=
  if 16 < P.length then 9 else if clrE P en G ≠ 0 then clrE P en G else if 4096 < countL (clrL P en G) then 9 else 0
def buildF (t : Tr) : Tr × Int :=
  if textsF t ≠ 0 then (tr0, textsF t)
  else if declE t ≠ 0 then (tr0, declE t)
  else if firstE (fitE (sig1 t)) (orderF t.S t.V).2.1 ≠ 0 then (tr0, firstE (fitE (sig1 t)) (orderF t.S t.V).2.1)
  else if normE (sig1 t) ≠ 0 then (tr0, normE (sig1 t))
  else match timesF t (normL (sig1 t)) with
    | none => (tr0, 2)
    | some (P, en) => if clearF P en (normL (sig1 t)) ≠ 0 then (tr0, clearF P en (normL (sig1 t)))
      else (⟨t.sc, t.dt, t.vn, t.cm, (orderF t.S t.V).1, (orderF t.S t.V).2.1, clrL P en (normL (sig1 t)), P, en⟩, 0)
def validF (t : Tr) : Prop := buildF t = (t, 0)
end Go.Proofs.YtbiadennhnokhaaGreatDoor
/- Signals in memory. -/
namespace Go.Proofs.YtbiadennhnokhaaGreatDoor
open Go.RowKit

def sgC (x : Sg × Value) : List Value := [.int .i64 x.1.1, .int .i64 x.1.2.1, x.2]
def sgs (L : List (Sg × Value)) : List Value := L.flatMap sgC
theorem sgs_cons (x : Sg × Value) (L : List (Sg × Value)) : sgs (x :: L) = .int .i64 x.1.1 :: .int .i64 x.1.2.1 :: x.2 :: sgs L := rfl
theorem sgs_app (L M : List (Sg × Value)) : sgs (L ++ M) = sgs L ++ sgs M := by simp [sgs]
theorem sgs_len (L : List (Sg × Value)) : (sgs L).length = 3 * L.length := by
  induction L with
  | nil => rfl
  | cons x L ih => rw [sgs_cons, List.length_cons, List.length_cons, List.length_cons, List.length_cons, ih]; omega
theorem sgs_at : ∀ (L : List (Sg × Value)) (k : Nat) (h : k < L.length), (sgs L)[3 * k]? = some (.int .i64 L[k].1.1) ∧ (sgs L)[3 * k + 1]? = some (.int .i64 L[k].1.2.1) ∧ (sgs L)[3 * k + 2]? = some L[k].2
  | x :: L, 0, _ => ⟨rfl, rfl, rfl⟩
  | x :: L, k + 1, h => by
    have := sgs_at L k (by simpa using h)
    rw [sgs_cons, show 3 * (k + 1) = 3 * k + 1 + 1 + 1 by omega]
    simpa using this
structure Sigs (w : World) (v : Value) (L : List (Sg × Value)) : Prop where
  s : SlR w v L.length (sgs L)
  m : ∀ x ∈ L, SlR w x.2 x.1.2.2.length (chs x.1.2.2)
theorem Sigs.below {w W : World} {v : Value} {L : List (Sg × Value)} (h : Sigs w v L) (hb : Below w.heap.size w W) : Sigs W v L := ⟨h.s.below hb, fun x hx => (h.m x hx).below hb⟩
theorem Sigs.at {w : World} {a : Option Addr} {cap : Nat} {L : List (Sg × Value)} (h : Sigs w (.slice a L.length cap) L) {j : Nat} (hj : j < L.length) :
    ∃ b o, a = some ⟨b, o, none⟩ ∧ w.cell? ⟨b, o + j * 3, none⟩ = some (.int .i64 L[j].1.1) ∧ w.cell? ⟨b, o + j * 3 + 1, none⟩ = some (.int .i64 L[j].1.2.1) ∧ w.cell? ⟨b, o + j * 3 + 2, none⟩ = some L[j].2 ∧ SlR w L[j].2 L[j].1.2.2.length (chs L[j].1.2.2) := by
  obtain ⟨b, o, cap', hv, -, -, hcell⟩ := h.s.at (by omega)
  injection hv with e1 _ _
  obtain ⟨h0, h1, h2⟩ := sgs_at L j hj
  refine ⟨b, o, e1, ?_, ?_, ?_, h.m _ (List.getElem_mem hj)⟩
  · have := hcell _ _ h0; rwa [Nat.mul_comm 3 j] at this
  · have := hcell _ _ h1; rwa [Nat.mul_comm 3 j, ← Nat.add_assoc] at this
  · have := hcell _ _ h2; rwa [Nat.mul_comm 3 j, ← Nat.add_assoc] at this
end Go.Proofs.YtbiadennhnokhaaGreatDoor
