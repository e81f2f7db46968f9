import Derived.Test.YtlbcfmhpkcpmaaaGreatDoorDec2
namespace Go.Proofs.YtlbcfmhpkcpmaaaGreatDoor
open Go.RowKit

def bys (l : List UInt8) : List Value := l.map byteVal
theorem bys_at (l : List UInt8) (j : Nat) (h : j < l.length) : (bys l)[j]? = some (byteVal l[j]) := by
  unfold bys; rw [List.getElem?_map, List.getElem?_eq_getElem h]; rfl
def lenOf : Value → Nat
  | .slice _ n _ => n
  | _ => 0

theorem SlR.tail {w : World} {b o n cap : Nat} {x : Value} {xs : List Value} (hn : n + 1 ≤ cap) (hm : cap ≤ maxLen) (hc : ∀ j u, (x :: xs)[j]? = some u → w.cell? ⟨b, o + j, none⟩ = some u) (a : Option Addr) (ha : 0 < n → a = some ⟨b, o + 1, none⟩) (ha' : a = none → False) :
    SlR w (.slice a n (cap - 1)) n xs :=
  ⟨a, cap - 1, rfl, by omega, by omega, fun h => (ha' h).elim, fun h => ⟨b, o + 1, ha h, fun j u hj => by have := hc (j + 1) u (by simpa using hj); rwa [show o + (j + 1) = o + 1 + j by omega] at this⟩⟩

theorem SlR.tail' {w : World} {b o n cap : Nat} {x : Value} {xs : List Value} (h : SlR w (.slice (some ⟨b, o, none⟩) (n + 1) cap) (n + 1) (x :: xs)) (a : Option Addr) (ha : 0 < n → a = some ⟨b, o + 1, none⟩) (ha' : a = none → False) :
    SlR w (.slice a n (cap - 1)) n xs := by
  obtain ⟨b', o', cap', hv, h1, h2, hc⟩ := h.at (by omega)
  injection hv with e1 _ e3
  injection e1 with e1
  injection e1 with e1 e2 _
  subst e1 e2 e3
  exact SlR.tail h1 h2 hc a ha ha'

set_option maxHeartbeats 400000 in
set_option maxRecDepth 100000 in
theorem trimLeftByte (v : Value) (l : List UInt8) (w : World) (c : UInt8) (h : SlR w v l.length (bys l)) :
    Calls Tryz.prog 175 #[v, .int .u8 c.toNat] w fun e w' => w = w' ∧ ∃ v', e = .returned v' ∧ ∀ W, SlR W v l.length (bys l) → SlR W v' (l.dropWhile (· == c)).length (bys (l.dropWhile (· == c))) := by
  go_enter Tryz.func175, Tryz.ntmps175
  go_wp2_with fail
  go_loop [0] (fun v' => ∃ l' : List UInt8, SlR w v' l'.length (bys l') ∧ (∀ W, SlR W v l.length (bys l) → SlR W v' l'.length (bys l')) ∧ l'.dropWhile (· == c) = l.dropWhile (· == c)) (fun v' => lenOf v')
  case atStart => exact ⟨l, h, fun _ h => h, rfl⟩
  case round =>
    obtain ⟨l', h', hW, hd⟩ := hrel
    have HW := Lib.hid hW
    clear h hW
    have HD := Lib.hid hd
    clear hd
    cases l' with
    | nil =>
      obtain ⟨a, cap, rfl, hm, hz⟩ := h'.zero
      clear h' hz
      go_wp2_with fail
      go_ret
      exact ⟨rfl, _, rfl, by rw [← HD.out]; exact fun W _ => SlR.nil W⟩
    | cons x l' =>
      obtain ⟨b, o, cap, rfl, hlc, hm, hc⟩ := h'.at (by simp)
      have hc0 : w.cell? ⟨b, o, none⟩ = some (.int .u8 x.toNat) := hc 0 (byteVal x) rfl
      have HC := Lib.hid hc
      have HH := Lib.hid h'
      clear hc h'
      simp only [List.length_cons] at hlc
      unfold maxLen at hm
      by_cases hx : x = c
      · have hx' := u8_eq_t hx
        have Hx := Lib.hid hx
        clear hx
        by_cases hcap : cap = 1
        · subst hcap
          obtain rfl : l' = [] := List.length_eq_zero_iff.1 (by omega)
          go_wp2_with fail
          go_round
          case rel => exact ⟨[], ⟨_, 0, rfl, Nat.le_refl _, by simp [maxLen], fun h => by simp at h, fun h => by simp at h⟩, fun W h => (HW.out W h).tail' (some ⟨b, o, none⟩) (fun h => by simp at h) (by simp), by rw [← HD.out, List.dropWhile_cons_of_pos (by simp [Hx.out])]⟩
          case measure => simp [lenOf]
        · go_wp2_with fail
          go_round
          case rel => exact ⟨l', SlR.tail hlc hm HC.out _ (fun _ => rfl) (by simp), fun W h => (HW.out W h).tail' _ (fun _ => rfl) (by simp), by rw [← HD.out, List.dropWhile_cons_of_pos (by simp [Hx.out])]⟩
          case measure => simp [lenOf]
      · have hx' := u8_ne hx
        go_wp2_with fail
        go_ret
        refine ⟨rfl, _, rfl, ?_⟩
        rw [← HD.out, List.dropWhile_cons_of_neg (by simpa using hx)]
        exact HW.out
def trimR (c : UInt8) (l : List UInt8) : List UInt8 := (l.reverse.dropWhile (· == c)).reverse
theorem trimR_snoc (c x : UInt8) (l : List UInt8) : trimR c (l ++ [x]) = if x = c then trimR c l else l ++ [x] := by
  unfold trimR
  rw [List.reverse_append, List.reverse_singleton, List.singleton_append]
  by_cases h : x = c
  · rw [List.dropWhile_cons_of_pos (by simp [h]), if_pos h]
  · rw [List.dropWhile_cons_of_neg (by simpa using h), if_neg h]; simp

theorem SlR.front {w : World} {b o n cap : Nat} {xs ys : List Value} (hn : n ≤ cap) (hm : cap ≤ maxLen) (hc : ∀ j u, (xs ++ ys)[j]? = some u → w.cell? ⟨b, o + j, none⟩ = some u) :
    SlR w (.slice (some ⟨b, o, none⟩) n cap) n xs :=
  ⟨_, cap, rfl, hn, hm, fun h => by simp at h, fun _ => ⟨b, o, rfl, fun j u hj => hc j u (by rw [List.getElem?_append_left]; exact hj; exact (List.getElem?_eq_some_iff.1 hj).1)⟩⟩

set_option maxHeartbeats 400000 in
set_option maxRecDepth 100000 in
theorem trimRightByte (v : Value) (l : List UInt8) (w : World) (c : UInt8) (h : SlR w v l.length (bys l)) :
    Calls Tryz.prog 179 #[v, .int .u8 c.toNat] w fun e w' => w = w' ∧ ∃ v', e = .returned v' ∧ ∀ W, SlR W v l.length (bys l) → SlR W v' (trimR c l).length (bys (trimR c l)) := by
  go_enter Tryz.func179, Tryz.ntmps179
  go_wp2_with fail
  go_loop [0] (fun v' => ∃ l' : List UInt8, SlR w v' l'.length (bys l') ∧ (∀ W, SlR W v l.length (bys l) → SlR W v' l'.length (bys l')) ∧ trimR c l' = trimR c l) (fun v' => lenOf v')
  case atStart => exact ⟨l, h, fun _ h => h, rfl⟩
  case round =>
    obtain ⟨l', h', hW, hd⟩ := hrel
    have HW := Lib.hid hW
    clear h hW
    have HD := Lib.hid hd
    clear hd
    rcases List.eq_nil_or_concat l' with rfl | ⟨l'', x, rfl⟩
    · obtain ⟨a, cap, rfl, hm, hz⟩ := h'.zero
      have HH := Lib.hid h'
      clear h' hz
      go_wp2_with fail
      go_ret
      exact ⟨rfl, _, rfl, by rw [← HD.out]; exact HW.out⟩
    · rw [List.concat_eq_append] at *
      obtain ⟨b, o, cap, rfl, hlc, hm, hc⟩ := h'.at (by simp)
      have hc0 : w.cell? ⟨b, o + l''.length, none⟩ = some (.int .u8 x.toNat) := hc l''.length (byteVal x) (by rw [bys_at _ _ (by simp)]; simp)
      have HC := Lib.hid hc
      have HH := Lib.hid h'
      clear hc h'
      simp only [List.length_append, List.length_singleton] at hlc ⊢
      unfold maxLen at hm
      by_cases hx : x = c
      · have hx' := u8_eq_t hx
        have Hx := Lib.hid hx
        clear hx
        go_wp2_with fail
        go_round
        case rel => exact ⟨l'', SlR.front (by omega) hm (by have := HC.out; unfold bys at this; rwa [List.map_append] at this), fun W h => by
          have := HW.out W h
          rw [show bys (l'' ++ [x]) = bys l'' ++ bys [x] by simp [bys]] at this
          exact this.cut (by simp) (by omega) (Nat.le_refl _), by rw [← HD.out, trimR_snoc, if_pos Hx.out]⟩
        case measure => simp [lenOf]
      · have hx' := u8_ne hx
        go_wp2_with fail
        go_ret
        refine ⟨rfl, _, rfl, ?_⟩
        rw [← HD.out, trimR_snoc, if_neg hx]
        simpa using HW.out
set_option maxHeartbeats 400000 in
set_option maxRecDepth 100000 in
theorem bytes_TrimLeft (v : Value) (l : List UInt8) (w : World) (h : SlR w v l.length (bys l)) (hl : l.length ≤ 1000) :
    Calls Tryz.prog 166 #[v, .string ⟨#[48]⟩] w fun e w' => w = w' ∧ ∃ v', e = .returned v' ∧ ∀ W, SlR W v l.length (bys l) → SlR W v' (l.dropWhile (· == 48)).length (bys (l.dropWhile (· == 48))) := by
  cases l with
  | nil =>
    obtain ⟨a, cap, rfl, hm, hz⟩ := h.zero
    clear h hz hl
    go_enter Tryz.func166, Tryz.ntmps166
    go_wp2_with fail
    go_ret
    exact ⟨rfl, _, rfl, fun W _ => SlR.nil W⟩
  | cons x l =>
    have HH := Lib.hid h
    obtain ⟨b, o, cap, rfl, hlc, hm, hc⟩ := h.at (by simp)
    clear h hc
    simp only [List.length_cons] at hlc hl
    have hne : (((l.length + 1 : Nat) : Int) == 0) = false := by rw [beq_eq_false_iff_ne]; omega
    go_enter Tryz.func166, Tryz.ntmps166
    go_wp2_with fail
    refine (trimLeftByte _ (x :: l) _ 48 HH.out).mono ?_
    rintro e w' ⟨rfl, v', rfl, hv⟩
    have HV := Lib.hid hv
    clear hv
    go_wp2_with fail
    go_ret
    exact ⟨rfl, _, rfl, HV.out⟩

theorem trimR_nil (c : UInt8) : trimR c [] = [] := rfl
set_option maxHeartbeats 400000 in
set_option maxRecDepth 100000 in
theorem bytes_TrimRight (v : Value) (l : List UInt8) (w : World) (h : SlR w v l.length (bys l)) (hl : l.length ≤ 1000) :
    Calls Tryz.prog 167 #[v, .string ⟨#[48]⟩] w fun e w' => w = w' ∧ ∃ v', e = .returned v' ∧ ∀ W, SlR W v l.length (bys l) → SlR W v' (trimR 48 l).length (bys (trimR 48 l)) := by
  cases l with
  | nil =>
    obtain ⟨a, cap, rfl, hm, hz⟩ := h.zero
    clear h hz hl
    go_enter Tryz.func167, Tryz.ntmps167
    go_wp2_with fail
    go_ret
    exact ⟨rfl, _, rfl, fun _ h => h⟩
  | cons x l =>
    have HH := Lib.hid h
    obtain ⟨b, o, cap, rfl, hlc, hm, hc⟩ := h.at (by simp)
    clear h hc
    simp only [List.length_cons] at hlc hl
    have hne : (((l.length + 1 : Nat) : Int) == 0) = false := by rw [beq_eq_false_iff_ne]; omega
    go_enter Tryz.func167, Tryz.ntmps167
    go_wp2_with fail
    refine (trimRightByte _ (x :: l) _ 48 HH.out).mono ?_
    rintro e w' ⟨rfl, v', rfl, hv⟩
    have HV := Lib.hid hv
    clear hv
    go_wp2_with fail
    go_ret
    exact ⟨rfl, _, rfl, HV.out⟩
end Go.Proofs.YtlbcfmhpkcpmaaaGreatDoor
