import Derived.Test.YtbiadennhnokhaaGreatDoorZ17
import Derived.Test.YtbiadennhnokhaaGreatDoorZ15
import Derived.Test.YtbiadennhnokhaaGreatDoorZ01
import Derived.Deep.RegionHeld
import Derived.BigRegion
/- quote.word, Join, Words, ValidWords. -/
namespace Go.Proofs.YtbiadennhnokhaaGreatDoor
open Go.RowKit
set_option linter.unusedSimpArgs false

/-- strings.MaxLen is there -/
def Glm (w : World) : Prop := ∃ m, w.cell? ⟨0, 0, none⟩ = some (.int .i64 m)
theorem Glm.below {w w' : World} (h : Glm w) (hb : Below w.heap.size w w') : Glm w' := by
  obtain ⟨m, hm⟩ := h
  exact ⟨m, (hb.cell (p := ⟨0, 0, none⟩) (cell_lt hm)).trans hm⟩
set_option maxHeartbeats 400000 in
theorem qt_word (s : ByteArray) (w : World) (hm : s.size ≤ 1000000) : Calls Tryz.prog 257 #[.string s] w fun e w' => e = .returned (.bool (wordOk s.data.toList)) ∧ Below w.heap.size w w' := by
  have hP := Lib.hid (quo_printable s)
  by_cases h0 : s.size = 0
  · have HR := Lib.hid (show false = wordOk s.data.toList by
      have : s.data.toList = [] := by rw [← List.length_eq_zero_iff]; simpa using h0
      rw [this]; rfl)
    have hb : (s == (⟨#[]⟩ : ByteArray)) = true := by
      have : s = ⟨#[]⟩ := by cases s with | mk d => congr; exact Array.eq_empty_of_size_eq_zero h0
      rw [this]; rfl
    obtain rfl : s = ⟨#[]⟩ := by cases s with | mk d => congr; exact Array.eq_empty_of_size_eq_zero h0
    go_enter Tryz.func257, Tryz.ntmps257
    go_wp2_with fail
    go_ret
    exact ⟨ret_bool HR.out, Below.refl _ _⟩
  · have hne : decide (s = (⟨#[]⟩ : ByteArray)) = false := by
      rw [decide_eq_false_iff_not]; rintro rfl; exact h0 rfl
    have hlt : 0 < s.size := by omega
    have hte := toList_no h0
    have htn : ¬ s.toList = [] := by intro h; rw [h] at hte; cases hte
    have hW : wordOk s.data.toList = (!decide (s[0]'hlt = 36) && s.data.toList.all prn) := by
      unfold wordOk
      have h1 : s.data.toList ≠ [] := by
        intro h; apply h0; have := congrArg List.length h; simpa using this
      rw [decide_eq_false h1]
      have h2 : s.data.toList.head? = some (s[0]'hlt) := by
        rw [List.head?_eq_getElem?, List.getElem?_eq_getElem (by simpa using hlt)]; rfl
      rw [h2]
      simp
    have hu : (((s[0]'hlt).toNat : Int) == 36) = decide (s[0]'hlt = 36) := u8_dec (s[0]'hlt) 36 (by omega)
    by_cases hc : s[0]'hlt = 36
    · have HR := Lib.hid (show false = wordOk s.data.toList by rw [hW, decide_eq_true hc]; rfl)
      rw [decide_eq_true hc] at hu
      have hcn : (s[0]'hlt).toNat = 36 := by rw [hc]; rfl
      clear hW hc
      go_enter Tryz.func257, Tryz.ntmps257
      go_wp2_with fail
      go_ret
      exact ⟨ret_bool HR.out, Below.refl _ _⟩
    · have HR := Lib.hid (show s.data.toList.all prn = wordOk s.data.toList by rw [hW, decide_eq_false hc]; rfl)
      rw [decide_eq_false hc] at hu
      have hcn : ¬ ((s[0]'hlt).toNat : Int) = 36 := by simpa using hu
      clear hW hc
      go_enter Tryz.func257, Tryz.ntmps257
      go_wp2_with fail
      refine (hP.out _).mono ?_
      rintro e w1 ⟨rfl, hb⟩
      rw [HR.out]
      go_wp2_with fail
      go_ret
      exact ⟨ret_bool (by simp [bne, hu]), hb⟩
theorem spl_le : ∀ (s cur : Bs), ∀ y ∈ spl s cur, y.length ≤ cur.length + s.length
  | [], cur, y, h => by
    rw [show spl [] cur = [cur] from rfl, List.mem_singleton] at h
    subst h; simp
  | c :: t, cur, y, h => by
    unfold spl at h
    split at h
    · rcases List.mem_cons.1 h with rfl | h
      · omega
      · have := spl_le t [] y h
        simp at this ⊢; omega
    · have := spl_le t _ y h
      simp at this ⊢; omega
/-- what quote.Join says -/
def joinE (L : List ByteArray) : Int := if L.all (fun x => wordOk x.data.toList) = true then if 200 < (Lib.join (L.map (·.data.toList)) [32]).length then 9 else 0 else 3
set_option maxHeartbeats 400000 in
set_option maxRecDepth 100000 in
theorem qt_Join (g : Nat) (L : List ByteArray) (w : World) (hc : ∀ (j : Nat) x, L[j]? = some x → w.cell? ⟨g, j, none⟩ = some (.string x)) (hg : g < w.heap.size) (hL : L.length ≤ 1000000)
    (hx : ∀ x ∈ L, x.size ≤ 1000000) (hz : (Lib.join (L.map (·.data.toList)) [32]).length ≤ 1000000) :
    Calls Tryz.prog 201 #[.slice (some ⟨g, 0, none⟩) L.length L.length] w fun e w' =>
      (∃ s, e = .returned (.tuple #[.string s, .int .i64 (joinE L)])) ∧ Below w.heap.size w w' := by
  have HC := Lib.hid hc
  have HX := Lib.hid hx
  obtain ⟨J, hJ⟩ : ∃ J, J = Lib.join (L.map (·.data.toList)) [32] := ⟨_, rfl⟩
  rw [← hJ] at hz
  have HJ := Lib.hid hJ
  have HJoin := Lib.hid (fun (W : World) (hb : Below w.heap.size w W) => Tryz.strings_Join g 0 L.length L ⟨#[32]⟩ W (fun j x h => by rw [Nat.zero_add]; exact (hb.cell (p := ⟨g, j, none⟩) hg).trans (hc j x h)) (Nat.lt_of_lt_of_le hg hb.size) (by omega) (Nat.le_refl _) (by
    show (Lib.join (L.map (·.data.toList)) [32]).length ≤ _
    rw [← hJ]; omega))
  clear hc hx hJ
  have HB0 := Lib.hid (Below.refl w.heap.size w)
  go_enter Tryz.func201, Tryz.ntmps201
  go_wp2_with fail
  go_loopw [9] (fun i wr => ∃ k : Nat, k ≤ L.length ∧ i = .int .i64 k ∧ (L.take k).all (fun x => wordOk x.data.toList) = true ∧ Below w.heap.size w wr) (fun i _ => L.length - (intOf i).toNat)
  case atStart => exact ⟨0, Nat.zero_le _, rfl, rfl, HB0.out⟩
  case round =>
    obtain ⟨k, hk, rfl, hal, hb⟩ := hrel
    have HB := Lib.hid hb
    have HA := Lib.hid hal
    clear hal hb
    by_cases hlt : k < L.length
    · have d0 : wr.cell? ⟨g, k, none⟩ = some (.string L[k]) := (HB.out.cell (p := ⟨g, k, none⟩) hg).trans (HC.out k _ (List.getElem?_eq_getElem hlt))
      have HW := Lib.hid (qt_word L[k] wr (HX.out _ (List.getElem_mem hlt)))
      by_cases hw : wordOk L[k].data.toList = true
      · rw [hw] at HW
        have HA2 := Lib.hid (show (L.take (k + 1)).all (fun x => wordOk x.data.toList) = true by
          rw [List.take_succ_eq_append_getElem hlt, List.all_append, HA.out]; simp [hw])
        clear hw
        generalize L[k] = x at *
        go_wp2_with fail
        refine HW.out.mono ?_
        rintro e w1 ⟨rfl, hb1⟩
        have HB1 := Lib.hid (HB.out.trans (hb1.mono HB.out.size))
        clear hb1
        go_wp2_with fail
        go_roundw
        case rel => exact ⟨k + 1, hlt, by go_num, HA2.out, HB1.out⟩
        case measure => simp [intOf]; omega
      · have hwf : wordOk L[k].data.toList = false := by simpa using hw
        rw [hwf] at HW
        have HR := Lib.hid (show (3 : Int) = joinE L by
          unfold joinE
          rw [← HJ.out]
          rw [if_neg]
          intro h
          rw [List.all_eq_true] at h
          exact hw (h _ (List.getElem_mem hlt)))
        clear hw hwf
        generalize L[k] = x at *
        go_wp2_with fail
        refine HW.out.mono ?_
        rintro e w1 ⟨rfl, hb1⟩
        have HB1 := Lib.hid (HB.out.trans (hb1.mono HB.out.size))
        clear hb1
        go_wp2_with fail
        refine bodyPost_ret (v := .tuple #[.string ⟨#[]⟩, .int .i64 3]) (by simp [results, Tryz.results201, go_sem]) rfl ?_
        exact ⟨⟨_, by rw [← HR.out]⟩, HB1.out⟩
    · obtain rfl : k = L.length := by omega
      have hal : L.all (fun x => wordOk x.data.toList) = true := by have := HA.out; rwa [List.take_length] at this
      have HAL := Lib.hid hal
      clear hal hlt
      obtain ⟨SS, hSS⟩ : ∃ SS : ByteArray, SS = ⟨(Lib.join (L.map (·.data.toList)) [32]).toArray⟩ := ⟨_, rfl⟩
      have hsz : SS.size = J.length := by rw [hSS, HJ.out]; rfl
      have HJN := HJoin.out wr HB.out
      rw [show (Lib.join (L.map (·.data.toList)) (⟨#[32]⟩ : ByteArray).data.toList) = (Lib.join (L.map (·.data.toList)) [32]) from rfl, ← hSS] at HJN
      have HJN := Lib.hid HJN
      clear hSS
      by_cases h200 : 200 < J.length
      · have h2 : (200 : Int) < (SS.size : Int) := by omega
        have HR := Lib.hid (show (9 : Int) = joinE L by
          unfold joinE; rw [← HJ.out];  rw [if_pos HAL.out, if_pos h200])
        clear h200 hsz
        go_wp2_with fail
        refine HJN.out.mono ?_
        rintro e w1 ⟨rfl, hb1⟩
        have HB1 := Lib.hid (HB.out.trans (hb1.mono HB.out.size))
        clear hb1
        go_wp2_with fail
        refine bodyPost_ret (v := .tuple #[.string ⟨#[]⟩, .int .i64 9]) (by simp [results, Tryz.results201, go_sem]) rfl ?_
        exact ⟨⟨_, by rw [← HR.out]⟩, HB1.out⟩
      · have h2 : ¬ (200 : Int) < (SS.size : Int) := by omega
        have HR := Lib.hid (show (0 : Int) = joinE L by
          unfold joinE; rw [← HJ.out];  rw [if_pos HAL.out, if_neg h200])
        clear h200 hsz
        go_wp2_with fail
        refine HJN.out.mono ?_
        rintro e w1 ⟨rfl, hb1⟩
        have HB1 := Lib.hid (HB.out.trans (hb1.mono HB.out.size))
        clear hb1
        go_wp2_with fail
        refine bodyPost_ret (v := .tuple #[.string SS, .int .i64 0]) (by simp [results, Tryz.results201, go_sem]) rfl ?_
        exact ⟨⟨_, by rw [← HR.out]⟩, HB1.out⟩
set_option maxHeartbeats 400000 in
set_option maxRecDepth 100000 in
theorem qt_Words (s : ByteArray) (w : World) (hm : s.size ≤ 100000) (hg : Glm w) : Calls Tryz.prog 161 #[.string s] w fun e w' =>
    (∃ v, e = .returned v ∧ ((s.data.toList ≠ [] ∧ wordsOk s.data.toList = true ∧ ∃ g n, v = .slice (some ⟨g, 0, none⟩) (n + 1) (n + 1)) ∨ (v = .slice none 0 0 ∧ (s.data.toList = [] ∨ wordsOk s.data.toList = false)))) ∧ Below w.heap.size w w' := by
  by_cases h0 : s.size = 0
  · obtain rfl : s = ⟨#[]⟩ := by cases s with | mk d => congr; exact Array.eq_empty_of_size_eq_zero h0
    go_enter Tryz.func161, Tryz.ntmps161
    go_wp2_with fail
    go_ret
    exact ⟨⟨_, rfl, Or.inr ⟨rfl, by simp⟩⟩, Below.refl _ _⟩
  · have hte := toList_no h0
    have htn : ¬ s.toList = [] := by intro h; rw [h] at hte; cases hte
    have hne : ¬ s = (⟨#[]⟩ : ByteArray) := by rintro rfl; exact h0 rfl
    obtain ⟨m, hm0⟩ := hg
    have HSP := Lib.hid (Tryz.strings_Split s ⟨#[32]⟩ m w (by omega) hm0 (by decide))
    have hl0 : s.data.toList ≠ [] := by
      intro h; apply h0; have := congrArg List.length h; simpa using this
    have HL0 := Lib.hid hl0
    have hs : s = bsB s.data.toList := by obtain ⟨⟨l⟩⟩ := s; rfl
    have hall : Lib.splitB ⟨#[32]⟩ 0 (Lib.countB s ⟨#[32]⟩) s = (spl s.data.toList []).map bsB := by
      conv => lhs; rw [hs]
      exact splitB_all1 s.data.toList
    have hct : Lib.countB s ⟨#[32]⟩ + 1 = (spl s.data.toList []).length := by
      rw [← Lib.splitB_all ⟨#[32]⟩ (by decide) 0 _ s rfl, hall, List.length_map]
    rw [hall, hct] at HSP
    obtain ⟨L, hL⟩ : ∃ L, L = (spl s.data.toList []).map bsB := ⟨_, rfl⟩
    have hll : (spl s.data.toList []).length = L.length := by rw [hL, List.length_map]
    rw [hll, ← hL] at HSP
    have hlm : L.map (·.data.toList) = spl s.data.toList [] := by
      rw [hL, List.map_map]
      conv => rhs; rw [← List.map_id (spl s.data.toList [])]
      rfl
    have hjn : Lib.join (L.map (·.data.toList)) [32] = s.data.toList := by rw [hlm, spl_join]
    have hE : joinE L = 0 ↔ wordsOk s.data.toList = true := by
      unfold joinE wordsOk
      rw [hjn, decide_eq_false hl0, Bool.false_or, hL, List.all_map]
      have e1 : ((fun x => wordOk x.data.toList) ∘ bsB) = wordOk := by funext x; rfl
      rw [e1]
      by_cases h1 : (spl s.data.toList []).all wordOk = true
      · rw [if_pos h1, h1]
        by_cases h2 : 200 < s.data.toList.length
        · rw [if_pos h2]; simp; simpa using h2
        · rw [if_neg h2]; simp; simpa using h2
      · rw [if_neg h1]; simp [h1]
    have HE := Lib.hid hE
    have hlen : L.length = s.data.toList.count 32 + 1 := by rw [← hll, spl_len]
    have hcz : s.data.toList.count 32 ≤ s.size := Nat.le_trans List.count_le_length (by simp)
    obtain ⟨n, hn⟩ : ∃ n, L.length = n + 1 := ⟨_, hlen⟩
    have HN := Lib.hid hn
    have HJN := Lib.hid (fun (W : World) => qt_Join w.heap.size L (w.alloc (.cells (L.map Value.string).toArray 9)) (fun j x h => by
      have := (OwnRow.fresh w (L.map Value.string).toArray 9).cell (j := j) (v := .string x) (by simp [h])
      exact this) (by simp) (by omega) (fun x hx => by
        rw [hL] at hx
        obtain ⟨y, hy, rfl⟩ := List.mem_map.1 hx
        have := spl_le _ _ y hy
        have h2 : (bsB y).size = y.length := rfl
        rw [h2]
        have h3 : s.data.toList.length = s.size := rfl
        simp at this; omega) (by rw [hjn]; simpa using (show s.size ≤ 1000000 by omega)))
    have HNE := Lib.hid hlen
    clear hE hlen hcz hjn hlm hll hL hct hall hs hl0 hn hm0
    go_enter Tryz.func161, Tryz.ntmps161
    go_wp2_with fail
    refine HSP.out.mono ?_
    rintro e w1 ⟨rfl, rfl⟩
    have HB0 := Lib.hid (show Below w.heap.size w (w.alloc (.cells (L.map Value.string).toArray 9)) from (Below.refl _ _).alloc (Nat.le_refl _) _)
    have HJ1 := Lib.hid (HJN.out w)
    clear HSP HJN
    rw [HN.out]
    generalize w.alloc (.cells (L.map Value.string).toArray 9) = w1 at *
    rw [HN.out] at HJ1
    by_cases hw : wordsOk s.data.toList = true
    · have hj := HE.out.2 hw
      rw [hj] at HJ1
      have HW := Lib.hid hw
      clear hw hj
      go_wp2_with fail
      refine HJ1.out.mono ?_
      rintro e w2 ⟨⟨x, rfl⟩, hb⟩
      have HB := Lib.hid (HB0.out.trans (hb.mono HB0.out.size))
      clear hb
      go_wp2_with fail
      go_ret
      exact ⟨⟨_, rfl, Or.inl ⟨HL0.out, HW.out, _, _, rfl⟩⟩, HB.out⟩
    · have hj : ¬ joinE L = 0 := fun h => hw (HE.out.1 h)
      have hj2 : (joinE L == 0) = false := by simpa using hj
      have HW := Lib.hid (show wordsOk s.data.toList = false by simpa using hw)
      clear hw
      generalize joinE L = q at *
      go_wp2_with fail
      refine HJ1.out.mono ?_
      rintro e w2 ⟨⟨x, rfl⟩, hb⟩
      have HB := Lib.hid (HB0.out.trans (hb.mono HB0.out.size))
      clear hb
      go_wp2_with fail
      go_ret
      exact ⟨⟨_, rfl, Or.inr ⟨rfl, Or.inr HW.out⟩⟩, HB.out⟩
set_option maxHeartbeats 400000 in
theorem qt_ValidWords (s : ByteArray) (w : World) (hm : s.size ≤ 100000) (hg : Glm w) : Calls Tryz.prog 120 #[.string s] w fun e w' => e = .returned (.bool (wordsOk s.data.toList)) ∧ Below w.heap.size w w' := by
  have HWD := Lib.hid (qt_Words s w hm hg)
  by_cases h0 : s.size = 0
  · obtain rfl : s = ⟨#[]⟩ := by cases s with | mk d => congr; exact Array.eq_empty_of_size_eq_zero h0
    go_enter Tryz.func120, Tryz.ntmps120
    go_wp2_with fail
    go_ret
    exact ⟨rfl, Below.refl _ _⟩
  · have hte := toList_no h0
    have htn : ¬ s.toList = [] := by intro h; rw [h] at hte; cases hte
    have hne : ¬ s = (⟨#[]⟩ : ByteArray) := by rintro rfl; exact h0 rfl
    have hl0 : s.data.toList ≠ [] := by
      intro h; apply h0; have := congrArg List.length h; simpa using this
    have HL := Lib.hid hl0
    clear hl0
    go_enter Tryz.func120, Tryz.ntmps120
    go_wp2_with fail
    refine HWD.out.mono ?_
    rintro e w1 ⟨⟨v, rfl, hv⟩, hb⟩
    have HB := Lib.hid hb
    clear hb
    rcases hv with ⟨-, hv, g, n, rfl⟩ | ⟨rfl, hv⟩
    · have HV := Lib.hid hv
      clear hv
      have hn : (0 : Int) < ((n + 1 : Nat) : Int) := by omega
      have hn1 : decide ((0 : Int) < (n : Int) + 1) = true := by rw [decide_eq_true_iff]; omega
      go_wp2_with fail
      go_ret
      exact ⟨ret_bool HV.out.symm, HB.out⟩
    · have HV := Lib.hid (show wordsOk s.data.toList = false by rcases hv with hv | hv; exact absurd hv HL.out; exact hv)
      clear hv
      go_wp2_with fail
      go_ret
      exact ⟨ret_bool HV.out.symm, HB.out⟩
end Go.Proofs.YtbiadennhnokhaaGreatDoor
/- trace's builder in memory; builder.texts. -/
namespace Go.Proofs.YtbiadennhnokhaaGreatDoor
open Go.RowKit
set_option linter.unusedSimpArgs false

def trC (t : Tr) (p : TP) : List Value := [.int .i64 t.sc, .string (bsB t.dt), .string (bsB t.vn), .string (bsB t.cm), p.vs, p.vv, p.vg, p.vp, .int .i64 t.en]
/-- the builder's steps, bound to it -/
def fnsL (b : Nat) : List Value := [.func (.func 53) #[.pointer (some ⟨b, 0, none⟩)] #[], .func (.func 54) #[.pointer (some ⟨b, 0, none⟩)] #[], .func (.func 55) #[.pointer (some ⟨b, 0, none⟩)] #[], .func (.func 56) #[.pointer (some ⟨b, 0, none⟩)] #[], .func (.func 57) #[.pointer (some ⟨b, 0, none⟩)] #[], .func (.func 58) #[.pointer (some ⟨b, 0, none⟩)] #[]]
/-- the builder: its box lies where w ended; what it has built is its own -/
structure BI (w : World) (t : Tr) (p : TP) (u : Tr) (q : TP) (W : World) : Prop where
  x : OwnRow W w.heap.size (trC t p ++ trC u q)
  s : W.ownsRow (w.heap.size + 2) 55 3 q.vs u.S.length (scs u.S)
  v : W.ownsRow (w.heap.size + 2) 42 7 q.vv u.V.length (vrs u.V)
  g : W.ownsRow (w.heap.size + 2) 45 3 q.vg q.M.length (sgs q.M)
  c : ∀ x ∈ q.M, x ∈ p.M ∨ W.ownsRow (w.heap.size + 2) 53 2 x.2 x.1.2.2.length (chs x.1.2.2)
  r : W.ownsRow (w.heap.size + 2) 57 2 q.vp u.P.length (gps u.P)
  m : q.M.map Prod.fst = u.G
  b : Below w.heap.size w W
  k : OwnRow W (w.heap.size + 1) (fnsL w.heap.size)
  l : ∀ x ∈ p.M, SlR w x.2 x.1.2.2.length (chs x.1.2.2)
/-- what a step of the builder leaves -/
def StepP (w : World) (t : Tr) (p : TP) (code : Int) (u : Tr) (e : Ending) (W : World) : Prop := e = .returned (.int .i64 code) ∧ Below w.heap.size w W ∧ (code = 0 → ∃ q, BI w t p u q W)
/-- .. and where its gaps lie has not changed -/
def StepZ (w : World) (t : Tr) (p : TP) (vp : Value) (code : Int) (u : Tr) (e : Ending) (W : World) : Prop := e = .returned (.int .i64 code) ∧ Below w.heap.size w W ∧ (code = 0 → ∃ q, BI w t p u q W ∧ q.vp = vp)
theorem BI.lt {w W : World} {t u : Tr} {p q : TP} (h : BI w t p u q W) : w.heap.size < W.heap.size := cell_lt (h.x.cell (j := 0) rfl)
theorem BI.lt2 {w W : World} {t u : Tr} {p q : TP} (h : BI w t p u q W) : w.heap.size + 1 < W.heap.size := cell_lt (h.k.cell (j := 0) rfl)
theorem BI.next {w W V : World} {t u : Tr} {p q : TP} (h : BI w t p u q W) (hb : Below W.heap.size W V) : BI w t p u q V :=
  { x := h.x.below hb h.lt
    s := below_own h.s hb
    v := below_own h.v hb
    g := below_own h.g hb
    c := fun x hx => (h.c x hx).imp id (fun h => below_own h hb)
    r := below_own h.r hb
    m := h.m
    b := h.b.trans (hb.mono h.b.size)
    k := h.k.below hb h.lt2
    l := h.l }
theorem BI.set {w W : World} {t u : Tr} {p q : TP} (h : BI w t p u q W) {j : Nat} (hj : j < 18) (z : Value) {u' : Tr} {q' : TP} (hx : (trC t p ++ trC u q).set j z = trC t p ++ trC u' q')
    (hs : (W.setCell ⟨w.heap.size, j, none⟩ z).ownsRow (w.heap.size + 2) 55 3 q'.vs u'.S.length (scs u'.S))
    (hv : (W.setCell ⟨w.heap.size, j, none⟩ z).ownsRow (w.heap.size + 2) 42 7 q'.vv u'.V.length (vrs u'.V))
    (hg : (W.setCell ⟨w.heap.size, j, none⟩ z).ownsRow (w.heap.size + 2) 45 3 q'.vg q'.M.length (sgs q'.M))
    (hc : ∀ x ∈ q'.M, x ∈ p.M ∨ (W.setCell ⟨w.heap.size, j, none⟩ z).ownsRow (w.heap.size + 2) 53 2 x.2 x.1.2.2.length (chs x.1.2.2))
    (hq : (W.setCell ⟨w.heap.size, j, none⟩ z).ownsRow (w.heap.size + 2) 57 2 q'.vp u'.P.length (gps u'.P))
    (hm : q'.M.map Prod.fst = u'.G) : BI w t p u' q' (W.setCell ⟨w.heap.size, j, none⟩ z) :=
  { x := by rw [← hx]; exact h.x.set (j := j) (by simpa [trC] using hj) z
    s := hs, v := hv, g := hg, c := hc, r := hq, m := hm
    b := h.b.setCell (by simp) z
    k := h.k.other (a := ⟨w.heap.size, j, none⟩) (by show w.heap.size ≠ w.heap.size + 1; omega) z
    l := h.l }
theorem own_box {w W : World} {e size n : Nat} {v : Value} {xs : List Value} (h : W.ownsRow (w.heap.size + 2) e size v n xs) (j : Nat) (z : Value) : (W.setCell ⟨w.heap.size, j, none⟩ z).ownsRow (w.heap.size + 2) e size v n xs :=
  ownsRow_setCell_below h (by simp) z
theorem Glm.from {w w' : World} (h : Glm w) (hb : Below w.heap.size w w') : Glm w' := h.below hb
/-- the same parts, another cell -/
theorem BI.put {w W : World} {t u : Tr} {p q : TP} (h : BI w t p u q W) {j : Nat} (hj : j < 18) (z : Value) {u' : Tr} (hx : (trC t p ++ trC u q).set j z = trC t p ++ trC u' q) (h1 : u'.S = u.S) (h2 : u'.V = u.V) (h3 : u'.G = u.G) (h4 : u'.P = u.P) :
    BI w t p u' q (W.setCell ⟨w.heap.size, j, none⟩ z) :=
  h.set hj z hx (by rw [h1]; exact own_box h.s _ _) (by rw [h2]; exact own_box h.v _ _) (own_box h.g _ _) (fun x hx => (h.c x hx).imp id (fun h => own_box h _ _)) (by rw [h4]; exact own_box h.r _ _) (by rw [h3]; exact h.m)
theorem BI.drew {w W : World} {t u : Tr} {p q : TP} (h : BI w t p u q W) : BI w t p u q W.drew := h.next (Below.refl _ _).drew
set_option maxHeartbeats 1600000 in
set_option maxRecDepth 100000 in
theorem tb_texts (w W : World) (t u : Tr) (p q : TP) (h : BI w t p u q W) (hg : Glm w) (hl : t.dt.length ≤ 100000 ∧ t.vn.length ≤ 100000 ∧ t.cm.length ≤ 100000) :
    Calls Tryz.prog 53 #[.pointer (some ⟨w.heap.size, 0, none⟩)] W fun e W' => StepZ w t p q.vp (textsF t) { u with sc := t.sc, dt := t.dt, vn := t.vn, cm := t.cm } e W' := by
  obtain ⟨t1, t2, t3, t4, t5, t6, t7, t8, t9⟩ := t
  have HI := Lib.hid h
  dsimp only at hl
  obtain ⟨l1, l2, l3⟩ := hl
  have c0 := h.x.cell (j := 0) rfl
  have c1 := h.x.cell (j := 1) rfl
  have c2 := h.x.cell (j := 2) rfl
  have c3 := h.x.cell (j := 3) rfl
  clear h
  dsimp only at c0 c1 c2 c3
  have HT := Lib.hid (ts_Valid t1)
  by_cases hsc : t1 < -15 ∨ 2 < t1
  · have HE := Lib.hid (show 2 = textsF ⟨t1, t2, t3, t4, t5, t6, t7, t8, t9⟩ by unfold textsF; rw [if_pos hsc])
    have HF := Lib.hid (show (decide (-15 ≤ t1) && decide (t1 ≤ 2)) = false by
      rcases hsc with h | h
      · rw [decide_eq_false (by omega)]; rfl
      · rw [decide_eq_false (show ¬ t1 ≤ 2 by omega), Bool.and_false])
    clear hsc
    go_enter Tryz.func53, Tryz.ntmps53
    go_wp2_with fail
    refine (HT.out _).mono ?_
    rintro e w1 ⟨rfl, rfl⟩
    rw [HF.out]
    go_wp2_with fail
    go_ret
    exact ⟨ret_int' HE.out, HI.out.b, fun h => by rw [← HE.out] at h; cases h⟩
  · have HF := Lib.hid (show (decide (-15 ≤ t1) && decide (t1 ≤ 2)) = true by
      rw [decide_eq_true (by omega), decide_eq_true (by omega)]; rfl)
    have HE := Lib.hid (show (if (wordsOk t2 && wordsOk t3 && wordsOk t4) = true then 0 else 3) = textsF ⟨t1, t2, t3, t4, t5, t6, t7, t8, t9⟩ by unfold textsF; rw [if_neg hsc])
    clear hsc
    go_enter Tryz.func53, Tryz.ntmps53
    go_wp2_with fail
    refine (HT.out _).mono ?_
    rintro e w1 ⟨rfl, rfl⟩
    rw [HF.out]
    go_wp2_with fail
    go_region
    clear c0 c1 c2 c3
    obtain ⟨L, hL⟩ : ∃ L, L = [t2, t3, t4] := ⟨_, rfl⟩
    have hL3 : L.length = 3 := by rw [hL]; rfl
    have HL3 := Lib.hid hL3
    have HSZ := Lib.hid (show ∀ x ∈ L, x.length ≤ 100000 by rw [hL]; intro x hx; simp at hx; rcases hx with rfl | rfl | rfl <;> assumption)
    have hE2 : (if L.all wordsOk = true then 0 else 3) = textsF ⟨t1, t2, t3, t4, t5, t6, t7, t8, t9⟩ := by
      rw [← HE.out, hL]; simp [Bool.and_assoc]
    have HE2 := Lib.hid hE2
    have HC := Lib.hid (show ∀ (k : Nat) (x : Bs), L[k]? = some x → (W.alloc (.cells #[.string (bsB t2), .string (bsB t3), .string (bsB t4)] 9)).drew.cell? ⟨W.heap.size, k, none⟩ = some (.string (bsB x)) from fun k x hx => by
      rw [hL] at hx
      refine (OwnRow.fresh W #[.string (bsB t2), .string (bsB t3), .string (bsB t4)] 9).drew.cell (j := k) ?_
      match k, hx with
      | 0, hx => exact congrArg (fun y => some (Value.string (bsB y))) (Option.some.inj hx)
      | 1, hx => exact congrArg (fun y => some (Value.string (bsB y))) (Option.some.inj hx)
      | 2, hx => exact congrArg (fun y => some (Value.string (bsB y))) (Option.some.inj hx)
      | k + 3, hx => simp at hx)
    have hW2 : W.heap.size < (W.alloc (.cells #[.string (bsB t2), .string (bsB t3), .string (bsB t4)] 9)).drew.heap.size := by
      show W.heap.size < (W.alloc _).heap.size
      simp
    have HB0 := Lib.hid (show Below W.heap.size W (W.alloc (.cells #[.string (bsB t2), .string (bsB t3), .string (bsB t4)] 9)).drew from ((Below.refl _ _).alloc (Nat.le_refl _) _).drew)
    generalize (W.alloc (.cells #[.string (bsB t2), .string (bsB t3), .string (bsB t4)] 9)).drew = W2 at *
    clear hE2 hL3 hL HE
    have HB1 := Lib.hid (Below.refl W2.heap.size W2)
    go_wp2_with fail
    go_loopw [29] (fun i wr => ∃ k : Nat, k ≤ 3 ∧ i = .int .i64 k ∧ (L.take k).all wordsOk = true ∧ Below W2.heap.size W2 wr) (fun i _ => 3 - (intOf i).toNat)
    case atStart => exact ⟨0, Nat.zero_le _, rfl, rfl, HB1.out⟩
    case round =>
      obtain ⟨k, hk, rfl, hal, hb⟩ := hrel
      have HB := Lib.hid hb
      have HA := Lib.hid hal
      clear hal hb
      have HBW := Lib.hid (HB0.out.trans (HB.out.mono HB0.out.size))
      by_cases hlt : k < 3
      · have hlt3 : k < L.length := by rw [HL3.out]; exact hlt
        have hxx := List.getElem?_eq_getElem hlt3
        have hsz := HSZ.out _ (List.getElem_mem hlt3)
        have HTS := Lib.hid (fun (hw : wordsOk L[k] = true) => show (L.take (k + 1)).all wordsOk = true by
          rw [List.take_succ_eq_append_getElem hlt3, List.all_append, HA.out]; simp [hw])
        have HTN := Lib.hid (fun (hw : wordsOk L[k] = false) => show ¬ L.all wordsOk = true by
          intro h; rw [List.all_eq_true] at h; have := h _ (List.getElem_mem hlt3); rw [hw] at this; cases this)
        generalize L[k] = x at *
        have d0 : wr.cell? ⟨W.heap.size, k, none⟩ = some (.string (bsB x)) := (HB.out.cell (p := ⟨W.heap.size, k, none⟩) hW2).trans (HC.out k _ hxx)
        have HVW := Lib.hid (qt_ValidWords (bsB x) wr (by exact hsz) ((Glm.from hg HI.out.b).below HBW.out))
        rw [show (bsB x).data.toList = x from rfl] at HVW
        clear hxx hlt3
        by_cases hw : wordsOk x = true
        · rw [hw] at HVW
          have HTS := Lib.hid (HTS.out hw)
          clear hw
          go_wp2_with fail
          refine HVW.out.mono ?_
          rintro e w1 ⟨rfl, hb1⟩
          have HB2 := Lib.hid (HB.out.trans (hb1.mono HB.out.size))
          clear hb1
          go_wp2_with fail
          go_roundw
          case rel => exact ⟨k + 1, hlt, by go_num, HTS.out, HB2.out⟩
          case measure => simp [intOf]; omega
        · have hwf : wordsOk x = false := by simpa using hw
          rw [hwf] at HVW
          have HR := Lib.hid (show (3 : Int) = textsF ⟨t1, t2, t3, t4, t5, t6, t7, t8, t9⟩ by rw [← HE2.out, if_neg (HTN.out hwf)])
          clear hw hwf
          go_wp2_with fail
          refine HVW.out.mono ?_
          rintro e w1 ⟨rfl, hb1⟩
          have HB2 := Lib.hid (HBW.out.trans (hb1.mono HBW.out.size))
          clear hb1
          go_wp2_with fail
          go_ret
          exact ⟨ret_int' HR.out, (HI.out.next HB2.out).b, fun h => by rw [← HR.out] at h; cases h⟩
      · obtain rfl : k = 3 := by omega
        have HR := Lib.hid (show (0 : Int) = textsF ⟨t1, t2, t3, t4, t5, t6, t7, t8, t9⟩ by
          rw [← HE2.out, if_pos]
          have := HA.out
          rwa [List.take_of_length_le (by rw [HL3.out]; exact Nat.le_refl _)] at this)
        have HI2 := Lib.hid (HI.out.next HBW.out)
        have c0 := HI2.out.x.cell (j := 0) rfl
        have c1 := HI2.out.x.cell (j := 1) rfl
        have c2 := HI2.out.x.cell (j := 2) rfl
        have c3 := HI2.out.x.cell (j := 3) rfl
        have c9 := HI2.out.x.cell (j := 9) rfl
        have c10 := HI2.out.x.cell (j := 10) rfl
        have c11 := HI2.out.x.cell (j := 11) rfl
        have c12 := HI2.out.x.cell (j := 12) rfl
        have f9 := HI2.out.x.free (j := 9) (by simp [trC])
        have f10 := HI2.out.x.free (j := 10) (by simp [trC])
        have f11 := HI2.out.x.free (j := 11) (by simp [trC])
        have f12 := HI2.out.x.free (j := 12) (by simp [trC])
        dsimp only at c0 c1 c2 c3 c9 c10 c11 c12
        have HBF := Lib.hid (((HI2.out.drew.put (j := 9) (by decide) (.int .i64 t1) (u' := { u with sc := t1 }) rfl rfl rfl rfl rfl).put (j := 10) (by decide) (.string (bsB t2)) (u' := { u with sc := t1, dt := t2 }) rfl rfl rfl rfl rfl).put (j := 11) (by decide) (.string (bsB t3)) (u' := { u with sc := t1, dt := t2, vn := t3 }) rfl rfl rfl rfl rfl |>.put (j := 12) (by decide) (.string (bsB t4)) (u' := { u with sc := t1, dt := t2, vn := t3, cm := t4 }) rfl rfl rfl rfl rfl)
        clear hlt
        go_wp2_with fail
        refine wp_region_late (S := fun w' => w'.cell? ⟨w.heap.size, 0, none⟩ = some (.int .i64 t1) ∧ w'.cell? ⟨w.heap.size, 1, none⟩ = some (.string (bsB t2)) ∧ w'.cell? ⟨w.heap.size, 2, none⟩ = some (.string (bsB t3)) ∧ w'.cell? ⟨w.heap.size, 3, none⟩ = some (.string (bsB t4))) (X := fun _ => false) (by kernel_rfl) ?_
        have HS := Lib.hid (show wr.drew.cell? ⟨w.heap.size, 0, none⟩ = some (.int .i64 t1) ∧ wr.drew.cell? ⟨w.heap.size, 1, none⟩ = some (.string (bsB t2)) ∧ wr.drew.cell? ⟨w.heap.size, 2, none⟩ = some (.string (bsB t3)) ∧ wr.drew.cell? ⟨w.heap.size, 3, none⟩ = some (.string (bsB t4)) from ⟨c0, c1, c2, c3⟩)
        refine wpAnyX_take (i := 0) (v := ?_) rfl (by kernel_rfl) (by kernel_rfl) (by kernel_rfl) (by kernel_rfl) (fun _ _ _ h => h) (Or.inl ⟨by rfl, ?_⟩) HS.out ?_
        rotate_left
        · intro w hSw
          (try dsimp only at hSw)
          go_simp
          all_goals with_reducible rfl
        simp only [Act.put, List.getElem_toArray, List.getElem_cons_succ, List.getElem_cons_zero, List.setIfInBounds_toArray, List.set_cons_zero, List.set_cons_succ]
        refine wpAnyX_take (i := 1) (v := ?_) rfl (by kernel_rfl) (by kernel_rfl) (by kernel_rfl) (by kernel_rfl) (fun _ _ _ h => h) (Or.inl ⟨by rfl, ?_⟩) HS.out ?_
        rotate_left
        · intro w hSw
          (try dsimp only at hSw)
          go_simp
          all_goals with_reducible rfl
        simp only [Act.put, List.getElem_toArray, List.getElem_cons_succ, List.getElem_cons_zero, List.setIfInBounds_toArray, List.set_cons_zero, List.set_cons_succ]
        refine wpAnyX_take (i := 2) (v := ?_) rfl (by kernel_rfl) (by kernel_rfl) (by kernel_rfl) (by kernel_rfl) (fun _ _ _ h => h) (Or.inl ⟨by rfl, ?_⟩) HS.out ?_
        rotate_left
        · intro w hSw
          (try dsimp only at hSw)
          go_simp
          all_goals with_reducible rfl
        simp only [Act.put, List.getElem_toArray, List.getElem_cons_succ, List.getElem_cons_zero, List.setIfInBounds_toArray, List.set_cons_zero, List.set_cons_succ]
        refine wpAnyX_take (i := 3) (v := ?_) rfl (by kernel_rfl) (by kernel_rfl) (by kernel_rfl) (by kernel_rfl) (fun _ _ _ h => h) (Or.inl ⟨by rfl, ?_⟩) HS.out ?_
        rotate_left
        · intro w hSw
          (try dsimp only at hSw)
          go_simp
          all_goals with_reducible rfl
        simp only [Act.put, List.getElem_toArray, List.getElem_cons_succ, List.getElem_cons_zero, List.setIfInBounds_toArray, List.set_cons_zero, List.set_cons_succ]
        refine wpAnyX_take (i := 4) (v := ?_) rfl (by kernel_rfl) (by kernel_rfl) (by kernel_rfl) (by kernel_rfl) (fun _ _ _ h => h) (Or.inl ⟨by rfl, ?_⟩) HS.out ?_
        rotate_left
        · intro w hSw
          (try dsimp only at hSw)
          go_simp
          all_goals with_reducible rfl
        simp only [Act.put, List.getElem_toArray, List.getElem_cons_succ, List.getElem_cons_zero, List.setIfInBounds_toArray, List.set_cons_zero, List.set_cons_succ]
        refine wpAnyX_take (i := 5) (v := ?_) rfl (by kernel_rfl) (by kernel_rfl) (by kernel_rfl) (by kernel_rfl) (fun _ _ _ h => h) (Or.inl ⟨by rfl, ?_⟩) HS.out ?_
        rotate_left
        · intro w hSw
          (try dsimp only at hSw)
          go_simp
          all_goals with_reducible rfl
        simp only [Act.put, List.getElem_toArray, List.getElem_cons_succ, List.getElem_cons_zero, List.setIfInBounds_toArray, List.set_cons_zero, List.set_cons_succ]
        refine wpAnyX_take (i := 6) (v := ?_) rfl (by kernel_rfl) (by kernel_rfl) (by kernel_rfl) (by kernel_rfl) (fun _ _ _ h => h) (Or.inl ⟨by rfl, ?_⟩) HS.out ?_
        rotate_left
        · intro w hSw
          (try dsimp only at hSw)
          go_simp
          all_goals with_reducible rfl
        simp only [Act.put, List.getElem_toArray, List.getElem_cons_succ, List.getElem_cons_zero, List.setIfInBounds_toArray, List.set_cons_zero, List.set_cons_succ]
        refine wpAnyX_take (i := 7) (v := ?_) rfl (by kernel_rfl) (by kernel_rfl) (by kernel_rfl) (by kernel_rfl) (fun _ _ _ h => h) (Or.inl ⟨by rfl, ?_⟩) HS.out ?_
        rotate_left
        · intro w hSw
          (try dsimp only at hSw)
          go_simp
          all_goals with_reducible rfl
        simp only [Act.put, List.getElem_toArray, List.getElem_cons_succ, List.getElem_cons_zero, List.setIfInBounds_toArray, List.set_cons_zero, List.set_cons_succ]
        refine wpAnyX_take (i := 8) (v := ?_) rfl (by kernel_rfl) (by kernel_rfl) (by kernel_rfl) (by kernel_rfl) (fun _ _ _ h => h) (Or.inl ⟨by rfl, ?_⟩) HS.out ?_
        rotate_left
        · intro w hSw
          (try dsimp only at hSw)
          go_simp
          all_goals with_reducible rfl
        simp only [Act.put, List.getElem_toArray, List.getElem_cons_succ, List.getElem_cons_zero, List.setIfInBounds_toArray, List.set_cons_zero, List.set_cons_succ]
        refine wpAnyX_take (i := 9) (v := ?_) rfl (by kernel_rfl) (by kernel_rfl) (by kernel_rfl) (by kernel_rfl) (fun _ _ _ h => h) (Or.inl ⟨by rfl, ?_⟩) HS.out ?_
        rotate_left
        · intro w hSw
          (try dsimp only at hSw)
          go_simp
          all_goals with_reducible rfl
        simp only [Act.put, List.getElem_toArray, List.getElem_cons_succ, List.getElem_cons_zero, List.setIfInBounds_toArray, List.set_cons_zero, List.set_cons_succ]
        refine wpAnyX_take (i := 10) (v := ?_) rfl (by kernel_rfl) (by kernel_rfl) (by kernel_rfl) (by kernel_rfl) (fun _ _ _ h => h) (Or.inl ⟨by rfl, ?_⟩) HS.out ?_
        rotate_left
        · intro w hSw
          (try dsimp only at hSw)
          go_simp
          all_goals with_reducible rfl
        simp only [Act.put, List.getElem_toArray, List.getElem_cons_succ, List.getElem_cons_zero, List.setIfInBounds_toArray, List.set_cons_zero, List.set_cons_succ]
        refine wpAnyX_take (i := 11) (v := ?_) rfl (by kernel_rfl) (by kernel_rfl) (by kernel_rfl) (by kernel_rfl) (fun _ _ _ h => h) (Or.inl ⟨by rfl, ?_⟩) HS.out ?_
        rotate_left
        · intro w hSw
          (try dsimp only at hSw)
          go_simp
          all_goals with_reducible rfl
        simp only [Act.put, List.getElem_toArray, List.getElem_cons_succ, List.getElem_cons_zero, List.setIfInBounds_toArray, List.set_cons_zero, List.set_cons_succ]
        refine wpAnyX_take (i := 12) (v := ?_) rfl (by kernel_rfl) (by kernel_rfl) (by kernel_rfl) (by kernel_rfl) (fun _ _ _ h => h) (Or.inl ⟨by rfl, ?_⟩) HS.out ?_
        rotate_left
        · intro w hSw
          (try dsimp only at hSw)
          go_simp
          all_goals with_reducible rfl
        simp only [Act.put, List.getElem_toArray, List.getElem_cons_succ, List.getElem_cons_zero, List.setIfInBounds_toArray, List.set_cons_zero, List.set_cons_succ]
        refine wpAnyX_take (i := 13) (v := ?_) rfl (by kernel_rfl) (by kernel_rfl) (by kernel_rfl) (by kernel_rfl) (fun _ _ _ h => h) (Or.inl ⟨by rfl, ?_⟩) HS.out ?_
        rotate_left
        · intro w hSw
          (try dsimp only at hSw)
          go_simp
          all_goals with_reducible rfl
        simp only [Act.put, List.getElem_toArray, List.getElem_cons_succ, List.getElem_cons_zero, List.setIfInBounds_toArray, List.set_cons_zero, List.set_cons_succ]
        refine wpAnyX_take (i := 14) (v := ?_) rfl (by kernel_rfl) (by kernel_rfl) (by kernel_rfl) (by kernel_rfl) (fun _ _ _ h => h) (Or.inl ⟨by rfl, ?_⟩) HS.out ?_
        rotate_left
        · intro w hSw
          (try dsimp only at hSw)
          go_simp
          all_goals with_reducible rfl
        simp only [Act.put, List.getElem_toArray, List.getElem_cons_succ, List.getElem_cons_zero, List.setIfInBounds_toArray, List.set_cons_zero, List.set_cons_succ]
        refine wpAnyX_take (i := 15) (v := ?_) rfl (by kernel_rfl) (by kernel_rfl) (by kernel_rfl) (by kernel_rfl) (fun _ _ _ h => h) (Or.inl ⟨by rfl, ?_⟩) HS.out ?_
        rotate_left
        · intro w hSw
          (try dsimp only at hSw)
          go_simp
          all_goals with_reducible rfl
        simp only [Act.put, List.getElem_toArray, List.getElem_cons_succ, List.getElem_cons_zero, List.setIfInBounds_toArray, List.set_cons_zero, List.set_cons_succ]
        refine wpAnyX_take (i := 16) (v := ?_) rfl (by kernel_rfl) (by kernel_rfl) (by kernel_rfl) (by kernel_rfl) (fun _ _ _ h => h) (Or.inl ⟨by rfl, ?_⟩) HS.out ?_
        rotate_left
        · intro w hSw
          (try dsimp only at hSw)
          go_simp
          all_goals with_reducible rfl
        simp only [Act.put, List.getElem_toArray, List.getElem_cons_succ, List.getElem_cons_zero, List.setIfInBounds_toArray, List.set_cons_zero, List.set_cons_succ]
        refine wpAnyX_take (i := 17) (v := ?_) rfl (by kernel_rfl) (by kernel_rfl) (by kernel_rfl) (by kernel_rfl) (fun _ _ _ h => h) (Or.inl ⟨by rfl, ?_⟩) HS.out ?_
        rotate_left
        · intro w hSw
          (try dsimp only at hSw)
          go_simp
          all_goals with_reducible rfl
        simp only [Act.put, List.getElem_toArray, List.getElem_cons_succ, List.getElem_cons_zero, List.setIfInBounds_toArray, List.set_cons_zero, List.set_cons_succ]
        refine wpAnyX_take (i := 18) (v := ?_) rfl (by kernel_rfl) (by kernel_rfl) (by kernel_rfl) (by kernel_rfl) (fun _ _ _ h => h) (Or.inl ⟨by rfl, ?_⟩) HS.out ?_
        rotate_left
        · intro w hSw
          (try dsimp only at hSw)
          go_simp
          all_goals with_reducible rfl
        simp only [Act.put, List.getElem_toArray, List.getElem_cons_succ, List.getElem_cons_zero, List.setIfInBounds_toArray, List.set_cons_zero, List.set_cons_succ]
        refine wpAnyX_take (i := 19) (v := ?_) rfl (by kernel_rfl) (by kernel_rfl) (by kernel_rfl) (by kernel_rfl) (fun _ _ _ h => h) (Or.inl ⟨by rfl, ?_⟩) HS.out ?_
        rotate_left
        · intro w hSw
          (try dsimp only at hSw)
          go_simp
          all_goals with_reducible rfl
        simp only [Act.put, List.getElem_toArray, List.getElem_cons_succ, List.getElem_cons_zero, List.setIfInBounds_toArray, List.set_cons_zero, List.set_cons_succ]
        refine wpAnyX_take (i := 20) (v := ?_) rfl (by kernel_rfl) (by kernel_rfl) (by kernel_rfl) (by kernel_rfl) (fun _ _ _ h => h) (Or.inl ⟨by rfl, ?_⟩) HS.out ?_
        rotate_left
        · intro w hSw
          (try dsimp only at hSw)
          go_simp
          all_goals with_reducible rfl
        simp only [Act.put, List.getElem_toArray, List.getElem_cons_succ, List.getElem_cons_zero, List.setIfInBounds_toArray, List.set_cons_zero, List.set_cons_succ]
        refine wpAnyX_take (i := 21) (v := ?_) rfl (by kernel_rfl) (by kernel_rfl) (by kernel_rfl) (by kernel_rfl) (fun _ _ _ h => h) (Or.inl ⟨by rfl, ?_⟩) HS.out ?_
        rotate_left
        · intro w hSw
          (try dsimp only at hSw)
          go_simp
          all_goals with_reducible rfl
        simp only [Act.put, List.getElem_toArray, List.getElem_cons_succ, List.getElem_cons_zero, List.setIfInBounds_toArray, List.set_cons_zero, List.set_cons_succ]
        refine wpAnyX_take (i := 22) (v := ?_) rfl (by kernel_rfl) (by kernel_rfl) (by kernel_rfl) (by kernel_rfl) (fun _ _ _ h => h) (Or.inl ⟨by rfl, ?_⟩) HS.out ?_
        rotate_left
        · intro w hSw
          (try dsimp only at hSw)
          go_simp
          all_goals with_reducible rfl
        simp only [Act.put, List.getElem_toArray, List.getElem_cons_succ, List.getElem_cons_zero, List.setIfInBounds_toArray, List.set_cons_zero, List.set_cons_succ]
        refine wpAnyX_take (i := 23) (v := ?_) rfl (by kernel_rfl) (by kernel_rfl) (by kernel_rfl) (by kernel_rfl) (fun _ _ _ h => h) (Or.inl ⟨by rfl, ?_⟩) HS.out ?_
        rotate_left
        · intro w hSw
          (try dsimp only at hSw)
          go_simp
          all_goals with_reducible rfl
        simp only [Act.put, List.getElem_toArray, List.getElem_cons_succ, List.getElem_cons_zero, List.setIfInBounds_toArray, List.set_cons_zero, List.set_cons_succ]
        refine wpAnyX_take (i := 24) (v := ?_) rfl (by kernel_rfl) (by kernel_rfl) (by kernel_rfl) (by kernel_rfl) (fun _ _ _ h => h) (Or.inl ⟨by rfl, ?_⟩) HS.out ?_
        rotate_left
        · intro w hSw
          (try dsimp only at hSw)
          go_simp
          all_goals with_reducible rfl
        simp only [Act.put, List.getElem_toArray, List.getElem_cons_succ, List.getElem_cons_zero, List.setIfInBounds_toArray, List.set_cons_zero, List.set_cons_succ]
        refine wpAnyX_take (i := 25) (v := ?_) rfl (by kernel_rfl) (by kernel_rfl) (by kernel_rfl) (by kernel_rfl) (fun _ _ _ h => h) (Or.inl ⟨by rfl, ?_⟩) HS.out ?_
        rotate_left
        · intro w hSw
          (try dsimp only at hSw)
          go_simp
          all_goals with_reducible rfl
        simp only [Act.put, List.getElem_toArray, List.getElem_cons_succ, List.getElem_cons_zero, List.setIfInBounds_toArray, List.set_cons_zero, List.set_cons_succ]
        refine wpAnyX_take (i := 26) (v := ?_) rfl (by kernel_rfl) (by kernel_rfl) (by kernel_rfl) (by kernel_rfl) (fun _ _ _ h => h) (Or.inl ⟨by rfl, ?_⟩) HS.out ?_
        rotate_left
        · intro w hSw
          (try dsimp only at hSw)
          go_simp
          all_goals with_reducible rfl
        simp only [Act.put, List.getElem_toArray, List.getElem_cons_succ, List.getElem_cons_zero, List.setIfInBounds_toArray, List.set_cons_zero, List.set_cons_succ]
        refine wpAnyX_one (i := 27) (by kernel_rfl) rfl (fun K hK => ?_)
        go_simp
        refine hK.out _ _ (fun _ => by go_simp) ?_
        clear hK
        try simp only [Act.put, List.getElem_toArray, List.getElem_cons_succ, List.getElem_cons_zero, List.setIfInBounds_toArray, List.set_cons_zero, List.set_cons_succ]
        refine wpAnyX_take (i := 28) (v := ?_) rfl (by kernel_rfl) (by kernel_rfl) (by kernel_rfl) (by kernel_rfl) (fun _ _ _ h => h) (Or.inl ⟨by rfl, ?_⟩) (by go_simp) ?_
        rotate_left
        · intro w hSw
          (try dsimp only at hSw)
          go_simp
          all_goals with_reducible rfl
        simp only [Act.put, List.getElem_toArray, List.getElem_cons_succ, List.getElem_cons_zero, List.setIfInBounds_toArray, List.set_cons_zero, List.set_cons_succ]
        refine wpAnyX_take (i := 29) (v := ?_) rfl (by kernel_rfl) (by kernel_rfl) (by kernel_rfl) (by kernel_rfl) (fun _ _ _ h => h) (Or.inl ⟨by rfl, ?_⟩) (by go_simp) ?_
        rotate_left
        · intro w hSw
          (try dsimp only at hSw)
          go_simp
          all_goals with_reducible rfl
        simp only [Act.put, List.getElem_toArray, List.getElem_cons_succ, List.getElem_cons_zero, List.setIfInBounds_toArray, List.set_cons_zero, List.set_cons_succ]
        refine wpAnyX_take (i := 30) (v := ?_) rfl (by kernel_rfl) (by kernel_rfl) (by kernel_rfl) (by kernel_rfl) (fun _ _ _ h => h) (Or.inl ⟨by rfl, ?_⟩) (by go_simp) ?_
        rotate_left
        · intro w hSw
          (try dsimp only at hSw)
          go_simp
          all_goals with_reducible rfl
        simp only [Act.put, List.getElem_toArray, List.getElem_cons_succ, List.getElem_cons_zero, List.setIfInBounds_toArray, List.set_cons_zero, List.set_cons_succ]
        refine wpAnyX_one (i := 31) (by kernel_rfl) rfl (fun K hK => ?_)
        go_simp
        refine hK.out _ _ (fun _ => by go_simp) ?_
        clear hK
        try simp only [Act.put, List.getElem_toArray, List.getElem_cons_succ, List.getElem_cons_zero, List.setIfInBounds_toArray, List.set_cons_zero, List.set_cons_succ]
        refine wpAnyX_take (i := 32) (v := ?_) rfl (by kernel_rfl) (by kernel_rfl) (by kernel_rfl) (by kernel_rfl) (fun _ _ _ h => h) (Or.inl ⟨by rfl, ?_⟩) (by go_simp) ?_
        rotate_left
        · intro w hSw
          (try dsimp only at hSw)
          go_simp
          all_goals with_reducible rfl
        simp only [Act.put, List.getElem_toArray, List.getElem_cons_succ, List.getElem_cons_zero, List.setIfInBounds_toArray, List.set_cons_zero, List.set_cons_succ]
        refine wpAnyX_take (i := 33) (v := ?_) rfl (by kernel_rfl) (by kernel_rfl) (by kernel_rfl) (by kernel_rfl) (fun _ _ _ h => h) (Or.inl ⟨by rfl, ?_⟩) (by go_simp) ?_
        rotate_left
        · intro w hSw
          (try dsimp only at hSw)
          go_simp
          all_goals with_reducible rfl
        simp only [Act.put, List.getElem_toArray, List.getElem_cons_succ, List.getElem_cons_zero, List.setIfInBounds_toArray, List.set_cons_zero, List.set_cons_succ]
        refine wpAnyX_take (i := 34) (v := ?_) rfl (by kernel_rfl) (by kernel_rfl) (by kernel_rfl) (by kernel_rfl) (fun _ _ _ h => h) (Or.inl ⟨by rfl, ?_⟩) (by go_simp) ?_
        rotate_left
        · intro w hSw
          (try dsimp only at hSw)
          go_simp
          all_goals with_reducible rfl
        simp only [Act.put, List.getElem_toArray, List.getElem_cons_succ, List.getElem_cons_zero, List.setIfInBounds_toArray, List.set_cons_zero, List.set_cons_succ]
        refine wpAnyX_one (i := 35) (by kernel_rfl) rfl (fun K hK => ?_)
        go_simp
        refine hK.out _ _ (fun _ => by go_simp) ?_
        clear hK
        try simp only [Act.put, List.getElem_toArray, List.getElem_cons_succ, List.getElem_cons_zero, List.setIfInBounds_toArray, List.set_cons_zero, List.set_cons_succ]
        refine wpAnyX_take (i := 36) (v := ?_) rfl (by kernel_rfl) (by kernel_rfl) (by kernel_rfl) (by kernel_rfl) (fun _ _ _ h => h) (Or.inl ⟨by rfl, ?_⟩) (by go_simp) ?_
        rotate_left
        · intro w hSw
          (try dsimp only at hSw)
          go_simp
          all_goals with_reducible rfl
        simp only [Act.put, List.getElem_toArray, List.getElem_cons_succ, List.getElem_cons_zero, List.setIfInBounds_toArray, List.set_cons_zero, List.set_cons_succ]
        refine wpAnyX_take (i := 37) (v := ?_) rfl (by kernel_rfl) (by kernel_rfl) (by kernel_rfl) (by kernel_rfl) (fun _ _ _ h => h) (Or.inl ⟨by rfl, ?_⟩) (by go_simp) ?_
        rotate_left
        · intro w hSw
          (try dsimp only at hSw)
          go_simp
          all_goals with_reducible rfl
        simp only [Act.put, List.getElem_toArray, List.getElem_cons_succ, List.getElem_cons_zero, List.setIfInBounds_toArray, List.set_cons_zero, List.set_cons_succ]
        refine wpAnyX_take (i := 38) (v := ?_) rfl (by kernel_rfl) (by kernel_rfl) (by kernel_rfl) (by kernel_rfl) (fun _ _ _ h => h) (Or.inl ⟨by rfl, ?_⟩) (by go_simp) ?_
        rotate_left
        · intro w hSw
          (try dsimp only at hSw)
          go_simp
          all_goals with_reducible rfl
        simp only [Act.put, List.getElem_toArray, List.getElem_cons_succ, List.getElem_cons_zero, List.setIfInBounds_toArray, List.set_cons_zero, List.set_cons_succ]
        refine wpAnyX_one (i := 39) (by kernel_rfl) rfl (fun K hK => ?_)
        go_simp
        refine hK.out _ _ (fun _ => by go_simp) ?_
        clear hK
        try simp only [Act.put, List.getElem_toArray, List.getElem_cons_succ, List.getElem_cons_zero, List.setIfInBounds_toArray, List.set_cons_zero, List.set_cons_succ]
        refine ⟨by kernel_rfl, ?_⟩
        clear c0 c1 c2 c3 c9 c10 c11 c12 f9 f10 f11 f12
        go_wp2_with fail
        go_ret
        exact ⟨ret_int' HR.out, HBF.out.b, fun _ => ⟨q, HBF.out, rfl⟩⟩
end Go.Proofs.YtbiadennhnokhaaGreatDoor
