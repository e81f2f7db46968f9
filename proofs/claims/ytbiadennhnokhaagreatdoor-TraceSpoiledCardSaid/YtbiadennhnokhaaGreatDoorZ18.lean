import Derived.Test.YtbiadennhnokhaaGreatDoorZ17
import Derived.Test.YtbiadennhnokhaaGreatDoorZ15
import Derived.Test.YtbiadennhnokhaaGreatDoorZ01
/- quote.word, Join, Words, ValidWords. -/
namespace Go.Proofs.YtbiadennhnokhaaGreatDoor
open Go.RowKit
set_option linter.unusedSimpArgs false

/-- strings.MaxLen is there -/
def Glm (w : World) : Prop := ∃ m, w.cell? ⟨0, 0, none⟩ = some (.int .i64 m)
theorem Glm.below {w w' : World} (h : Glm w) (hb : Below w.heap.size w w') : Glm w' := by
  obtain ⟨m, hm⟩ := h
  exact ⟨m, (hb.cell (p := ⟨0, 0, none⟩) (cell_lt hm)).trans hm⟩
set_option maxHeartbeats 400000 in
theorem qt_word (s : ByteArray) (w : World) (hm : s.size ≤ 1000000) : Calls Tryz.prog 257 #[.string s] w fun e w' => e = .returned (.bool (wordOk s.data.toList)) ∧ Below w.heap.size w w' := by
  have hP := Lib.hid (quo_printable s)
  by_cases h0 : s.size = 0
  · have HR := Lib.hid (show false = wordOk s.data.toList by
      have : s.data.toList = [] := by rw [← List.length_eq_zero_iff]; simpa using h0
      rw [this]; rfl)
    have hb : (s == (⟨#[]⟩ : ByteArray)) = true := by
      have : s = ⟨#[]⟩ := by cases s with | mk d => congr; exact Array.eq_empty_of_size_eq_zero h0
      rw [this]; rfl
    obtain rfl : s = ⟨#[]⟩ := by cases s with | mk d => congr; exact Array.eq_empty_of_size_eq_zero h0
    go_enter Tryz.func257, Tryz.ntmps257
    go_wp2_with fail
    go_ret
    exact ⟨ret_bool HR.out, Below.refl _ _⟩
  · have hne : decide (s = (⟨#[]⟩ : ByteArray)) = false := by
      rw [decide_eq_false_iff_not]; rintro rfl; exact h0 rfl
    have hlt : 0 < s.size := by omega
    have hte := toList_no h0
    have htn : ¬ s.toList = [] := by intro h; rw [h] at hte; cases hte
    have hW : wordOk s.data.toList = (!decide (s[0]'hlt = 36) && s.data.toList.all prn) := by
      unfold wordOk
      have h1 : s.data.toList ≠ [] := by
        intro h; apply h0; have := congrArg List.length h; simpa using this
      rw [decide_eq_false h1]
      have h2 : s.data.toList.head? = some (s[0]'hlt) := by
        rw [List.head?_eq_getElem?, List.getElem?_eq_getElem (by simpa using hlt)]; rfl
      rw [h2]
      simp
    have hu : (((s[0]'hlt).toNat : Int) == 36) = decide (s[0]'hlt = 36) := u8_dec (s[0]'hlt) 36 (by omega)
    by_cases hc : s[0]'hlt = 36
    · have HR := Lib.hid (show false = wordOk s.data.toList by rw [hW, decide_eq_true hc]; rfl)
      rw [decide_eq_true hc] at hu
      have hcn : (s[0]'hlt).toNat = 36 := by rw [hc]; rfl
      clear hW hc
      go_enter Tryz.func257, Tryz.ntmps257
      go_wp2_with fail
      go_ret
      exact ⟨ret_bool HR.out, Below.refl _ _⟩
    · have HR := Lib.hid (show s.data.toList.all prn = wordOk s.data.toList by rw [hW, decide_eq_false hc]; rfl)
      rw [decide_eq_false hc] at hu
      have hcn : ¬ ((s[0]'hlt).toNat : Int) = 36 := by simpa using hu
      clear hW hc
      go_enter Tryz.func257, Tryz.ntmps257
      go_wp2_with fail
      refine (hP.out _).mono ?_
      rintro e w1 ⟨rfl, hb⟩
      rw [HR.out]
      go_wp2_with fail
      go_ret
      exact ⟨ret_bool (by simp [bne, hu]), hb⟩
theorem spl_le : ∀ (s cur : Bs), ∀ y ∈ spl s cur, y.length ≤ cur.length + s.length
  | [], cur, y, h => by
    rw [show spl [] cur = [cur] from rfl, List.mem_singleton] at h
    subst h; simp
  | c :: t, cur, y, h => by
    unfold spl at h
    split at h
    · rcases List.mem_cons.1 h with rfl | h
      · omega
      · have := spl_le t [] y h
        simp at this ⊢; omega
    · have := spl_le t _ y h
      simp at this ⊢; omega
/-- what quote.Join says -/
def joinE (L : List ByteArray) : Int := if L.all (fun x => wordOk x.data.toList) = true then if 200 < (Lib.join (L.map (·.data.toList)) [32]).length then 9 else 0 else 3
set_option maxHeartbeats 400000 in
set_option maxRecDepth 100000 in
theorem qt_Join (g : Nat) (L : List ByteArray) (w : World) (hc : ∀ (j : Nat) x, L[j]? = some x → w.cell? ⟨g, j, none⟩ = some (.string x)) (hg : g < w.heap.size) (hL : L.length ≤ 1000000)
    (hx : ∀ x ∈ L, x.size ≤ 1000000) (hz : (Lib.join (L.map (·.data.toList)) [32]).length ≤ 1000000) :
    Calls Tryz.prog 201 #[.slice (some ⟨g, 0, none⟩) L.length L.length] w fun e w' =>
      (∃ s, e = .returned (.tuple #[.string s, .int .i64 (joinE L)])) ∧ Below w.heap.size w w' := by
  have HC := Lib.hid hc
  have HX := Lib.hid hx
  obtain ⟨J, hJ⟩ : ∃ J, J = Lib.join (L.map (·.data.toList)) [32] := ⟨_, rfl⟩
  rw [← hJ] at hz
  have HJ := Lib.hid hJ
  have HJoin := Lib.hid (fun (W : World) (hb : Below w.heap.size w W) => Tryz.strings_Join g 0 L.length L ⟨#[32]⟩ W (fun j x h => by rw [Nat.zero_add]; exact (hb.cell (p := ⟨g, j, none⟩) hg).trans (hc j x h)) (Nat.lt_of_lt_of_le hg hb.size) (by omega) (Nat.le_refl _) (by
    show (Lib.join (L.map (·.data.toList)) [32]).length ≤ _
    rw [← hJ]; omega))
  clear hc hx hJ
  have HB0 := Lib.hid (Below.refl w.heap.size w)
  go_enter Tryz.func201, Tryz.ntmps201
  go_wp2_with fail
  go_loopw [9] (fun i wr => ∃ k : Nat, k ≤ L.length ∧ i = .int .i64 k ∧ (L.take k).all (fun x => wordOk x.data.toList) = true ∧ Below w.heap.size w wr) (fun i _ => L.length - (intOf i).toNat)
  case atStart => exact ⟨0, Nat.zero_le _, rfl, rfl, HB0.out⟩
  case round =>
    obtain ⟨k, hk, rfl, hal, hb⟩ := hrel
    have HB := Lib.hid hb
    have HA := Lib.hid hal
    clear hal hb
    by_cases hlt : k < L.length
    · have d0 : wr.cell? ⟨g, k, none⟩ = some (.string L[k]) := (HB.out.cell (p := ⟨g, k, none⟩) hg).trans (HC.out k _ (List.getElem?_eq_getElem hlt))
      have HW := Lib.hid (qt_word L[k] wr (HX.out _ (List.getElem_mem hlt)))
      by_cases hw : wordOk L[k].data.toList = true
      · rw [hw] at HW
        have HA2 := Lib.hid (show (L.take (k + 1)).all (fun x => wordOk x.data.toList) = true by
          rw [List.take_succ_eq_append_getElem hlt, List.all_append, HA.out]; simp [hw])
        clear hw
        generalize L[k] = x at *
        go_wp2_with fail
        refine HW.out.mono ?_
        rintro e w1 ⟨rfl, hb1⟩
        have HB1 := Lib.hid (HB.out.trans (hb1.mono HB.out.size))
        clear hb1
        go_wp2_with fail
        go_roundw
        case rel => exact ⟨k + 1, hlt, by go_num, HA2.out, HB1.out⟩
        case measure => simp [intOf]; omega
      · have hwf : wordOk L[k].data.toList = false := by simpa using hw
        rw [hwf] at HW
        have HR := Lib.hid (show (3 : Int) = joinE L by
          unfold joinE
          rw [← HJ.out]
          rw [if_neg]
          intro h
          rw [List.all_eq_true] at h
          exact hw (h _ (List.getElem_mem hlt)))
        clear hw hwf
        generalize L[k] = x at *
        go_wp2_with fail
        refine HW.out.mono ?_
        rintro e w1 ⟨rfl, hb1⟩
        have HB1 := Lib.hid (HB.out.trans (hb1.mono HB.out.size))
        clear hb1
        go_wp2_with fail
        refine bodyPost_ret (v := .tuple #[.string ⟨#[]⟩, .int .i64 3]) (by simp [results, Tryz.results201, go_sem]) rfl ?_
        exact ⟨⟨_, by rw [← HR.out]⟩, HB1.out⟩
    · obtain rfl : k = L.length := by omega
      have hal : L.all (fun x => wordOk x.data.toList) = true := by have := HA.out; rwa [List.take_length] at this
      have HAL := Lib.hid hal
      clear hal hlt
      obtain ⟨SS, hSS⟩ : ∃ SS : ByteArray, SS = ⟨(Lib.join (L.map (·.data.toList)) [32]).toArray⟩ := ⟨_, rfl⟩
      have hsz : SS.size = J.length := by rw [hSS, HJ.out]; rfl
      have HJN := HJoin.out wr HB.out
      rw [show (Lib.join (L.map (·.data.toList)) (⟨#[32]⟩ : ByteArray).data.toList) = (Lib.join (L.map (·.data.toList)) [32]) from rfl, ← hSS] at HJN
      have HJN := Lib.hid HJN
      clear hSS
      by_cases h200 : 200 < J.length
      · have h2 : (200 : Int) < (SS.size : Int) := by omega
        have HR := Lib.hid (show (9 : Int) = joinE L by
          unfold joinE; rw [← HJ.out];  rw [if_pos HAL.out, if_pos h200])
        clear h200 hsz
        go_wp2_with fail
        refine HJN.out.mono ?_
        rintro e w1 ⟨rfl, hb1⟩
        have HB1 := Lib.hid (HB.out.trans (hb1.mono HB.out.size))
        clear hb1
        go_wp2_with fail
        refine bodyPost_ret (v := .tuple #[.string ⟨#[]⟩, .int .i64 9]) (by simp [results, Tryz.results201, go_sem]) rfl ?_
        exact ⟨⟨_, by rw [← HR.out]⟩, HB1.out⟩
      · have h2 : ¬ (200 : Int) < (SS.size : Int) := by omega
        have HR := Lib.hid (show (0 : Int) = joinE L by
          unfold joinE; rw [← HJ.out];  rw [if_pos HAL.out, if_neg h200])
        clear h200 hsz
        go_wp2_with fail
        refine HJN.out.mono ?_
        rintro e w1 ⟨rfl, hb1⟩
        have HB1 := Lib.hid (HB.out.trans (hb1.mono HB.out.size))
        clear hb1
        go_wp2_with fail
        refine bodyPost_ret (v := .tuple #[.string SS, .int .i64 0]) (by simp [results, Tryz.results201, go_sem]) rfl ?_
        exact ⟨⟨_, by rw [← HR.out]⟩, HB1.out⟩
set_option maxHeartbeats 400000 in
set_option maxRecDepth 100000 in
theorem qt_Words (s : ByteArray) (w : World) (hm : s.size ≤ 100000) (hg : Glm w) : Calls Tryz.prog 161 #[.string s] w fun e w' =>
    (∃ v, e = .returned v ∧ ((s.data.toList ≠ [] ∧ wordsOk s.data.toList = true ∧ ∃ g n, v = .slice (some ⟨g, 0, none⟩) (n + 1) (n + 1)) ∨ (v = .slice none 0 0 ∧ (s.data.toList = [] ∨ wordsOk s.data.toList = false)))) ∧ Below w.heap.size w w' := by
  by_cases h0 : s.size = 0
  · obtain rfl : s = ⟨#[]⟩ := by cases s with | mk d => congr; exact Array.eq_empty_of_size_eq_zero h0
    go_enter Tryz.func161, Tryz.ntmps161
    go_wp2_with fail
    go_ret
    exact ⟨⟨_, rfl, Or.inr ⟨rfl, by simp⟩⟩, Below.refl _ _⟩
  · have hte := toList_no h0
    have htn : ¬ s.toList = [] := by intro h; rw [h] at hte; cases hte
    have hne : ¬ s = (⟨#[]⟩ : ByteArray) := by rintro rfl; exact h0 rfl
    obtain ⟨m, hm0⟩ := hg
    have HSP := Lib.hid (Tryz.strings_Split s ⟨#[32]⟩ m w (by omega) hm0 (by decide))
    have hl0 : s.data.toList ≠ [] := by
      intro h; apply h0; have := congrArg List.length h; simpa using this
    have HL0 := Lib.hid hl0
    have hs : s = bsB s.data.toList := by obtain ⟨⟨l⟩⟩ := s; rfl
    have hall : Lib.splitB ⟨#[32]⟩ 0 (Lib.countB s ⟨#[32]⟩) s = (spl s.data.toList []).map bsB := by
      conv => lhs; rw [hs]
      exact splitB_all1 s.data.toList
    have hct : Lib.countB s ⟨#[32]⟩ + 1 = (spl s.data.toList []).length := by
      rw [← Lib.splitB_all ⟨#[32]⟩ (by decide) 0 _ s rfl, hall, List.length_map]
    rw [hall, hct] at HSP
    obtain ⟨L, hL⟩ : ∃ L, L = (spl s.data.toList []).map bsB := ⟨_, rfl⟩
    have hll : (spl s.data.toList []).length = L.length := by rw [hL, List.length_map]
    rw [hll, ← hL] at HSP
    have hlm : L.map (·.data.toList) = spl s.data.toList [] := by
      rw [hL, List.map_map]
      conv => rhs; rw [← List.map_id (spl s.data.toList [])]
      rfl
    have hjn : Lib.join (L.map (·.data.toList)) [32] = s.data.toList := by rw [hlm, spl_join]
    have hE : joinE L = 0 ↔ wordsOk s.data.toList = true := by
      unfold joinE wordsOk
      rw [hjn, decide_eq_false hl0, Bool.false_or, hL, List.all_map]
      have e1 : ((fun x => wordOk x.data.toList) ∘ bsB) = wordOk := by funext x; rfl
      rw [e1]
      by_cases h1 : (spl s.data.toList []).all wordOk = true
      · rw [if_pos h1, h1]
        by_cases h2 : 200 < s.data.toList.length
        · rw [if_pos h2]; simp; simpa using h2
        · rw [if_neg h2]; simp; simpa using h2
      · rw [if_neg h1]; simp [h1]
    have HE := Lib.hid hE
    have hlen : L.length = s.data.toList.count 32 + 1 := by rw [← hll, spl_len]
    have hcz : s.data.toList.count 32 ≤ s.size := Nat.le_trans List.count_le_length (by simp)
    obtain ⟨n, hn⟩ : ∃ n, L.length = n + 1 := ⟨_, hlen⟩
    have HN := Lib.hid hn
    have HJN := Lib.hid (fun (W : World) => qt_Join w.heap.size L (w.alloc (.cells (L.map Value.string).toArray 9)) (fun j x h => by
      have := (OwnRow.fresh w (L.map Value.string).toArray 9).cell (j := j) (v := .string x) (by simp [h])
      exact this) (by simp) (by omega) (fun x hx => by
        rw [hL] at hx
        obtain ⟨y, hy, rfl⟩ := List.mem_map.1 hx
        have := spl_le _ _ y hy
        have h2 : (bsB y).size = y.length := rfl
        rw [h2]
        have h3 : s.data.toList.length = s.size := rfl
        simp at this; omega) (by rw [hjn]; simpa using (show s.size ≤ 1000000 by omega)))
    have HNE := Lib.hid hlen
    clear hE hlen hcz hjn hlm hll hL hct hall hs hl0 hn hm0
    go_enter Tryz.func161, Tryz.ntmps161
    go_wp2_with fail
    refine HSP.out.mono ?_
    rintro e w1 ⟨rfl, rfl⟩
    have HB0 := Lib.hid (show Below w.heap.size w (w.alloc (.cells (L.map Value.string).toArray 9)) from (Below.refl _ _).alloc (Nat.le_refl _) _)
    have HJ1 := Lib.hid (HJN.out w)
    clear HSP HJN
    rw [HN.out]
    generalize w.alloc (.cells (L.map Value.string).toArray 9) = w1 at *
    rw [HN.out] at HJ1
    by_cases hw : wordsOk s.data.toList = true
    · have hj := HE.out.2 hw
      rw [hj] at HJ1
      have HW := Lib.hid hw
      clear hw hj
      go_wp2_with fail
      refine HJ1.out.mono ?_
      rintro e w2 ⟨⟨x, rfl⟩, hb⟩
      have HB := Lib.hid (HB0.out.trans (hb.mono HB0.out.size))
      clear hb
      go_wp2_with fail
      go_ret
      exact ⟨⟨_, rfl, Or.inl ⟨HL0.out, HW.out, _, _, rfl⟩⟩, HB.out⟩
    · have hj : ¬ joinE L = 0 := fun h => hw (HE.out.1 h)
      have hj2 : (joinE L == 0) = false := by simpa using hj
      have HW := Lib.hid (show wordsOk s.data.toList = false by simpa using hw)
      clear hw
      generalize joinE L = q at *
      go_wp2_with fail
      refine HJ1.out.mono ?_
      rintro e w2 ⟨⟨x, rfl⟩, hb⟩
      have HB := Lib.hid (HB0.out.trans (hb.mono HB0.out.size))
      clear hb
      go_wp2_with fail
      go_ret
      exact ⟨⟨_, rfl, Or.inr ⟨rfl, Or.inr HW.out⟩⟩, HB.out⟩
set_option maxHeartbeats 400000 in
theorem qt_ValidWords (s : ByteArray) (w : World) (hm : s.size ≤ 100000) (hg : Glm w) : Calls Tryz.prog 120 #[.string s] w fun e w' => e = .returned (.bool (wordsOk s.data.toList)) ∧ Below w.heap.size w w' := by
  have HWD := Lib.hid (qt_Words s w hm hg)
  by_cases h0 : s.size = 0
  · obtain rfl : s = ⟨#[]⟩ := by cases s with | mk d => congr; exact Array.eq_empty_of_size_eq_zero h0
    go_enter Tryz.func120, Tryz.ntmps120
    go_wp2_with fail
    go_ret
    exact ⟨rfl, Below.refl _ _⟩
  · have hte := toList_no h0
    have htn : ¬ s.toList = [] := by intro h; rw [h] at hte; cases hte
    have hne : ¬ s = (⟨#[]⟩ : ByteArray) := by rintro rfl; exact h0 rfl
    have hl0 : s.data.toList ≠ [] := by
      intro h; apply h0; have := congrArg List.length h; simpa using this
    have HL := Lib.hid hl0
    clear hl0
    go_enter Tryz.func120, Tryz.ntmps120
    go_wp2_with fail
    refine HWD.out.mono ?_
    rintro e w1 ⟨⟨v, rfl, hv⟩, hb⟩
    have HB := Lib.hid hb
    clear hb
    rcases hv with ⟨-, hv, g, n, rfl⟩ | ⟨rfl, hv⟩
    · have HV := Lib.hid hv
      clear hv
      have hn : (0 : Int) < ((n + 1 : Nat) : Int) := by omega
      have hn1 : decide ((0 : Int) < (n : Int) + 1) = true := by rw [decide_eq_true_iff]; omega
      go_wp2_with fail
      go_ret
      exact ⟨ret_bool HV.out.symm, HB.out⟩
    · have HV := Lib.hid (show wordsOk s.data.toList = false by rcases hv with hv | hv; exact absurd hv HL.out; exact hv)
      clear hv
      go_wp2_with fail
      go_ret
      exact ⟨ret_bool HV.out.symm, HB.out⟩
end Go.Proofs.YtbiadennhnokhaaGreatDoor
