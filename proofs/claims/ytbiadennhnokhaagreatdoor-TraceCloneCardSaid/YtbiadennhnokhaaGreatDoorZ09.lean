import Derived.Test.YtbiadennhnokhaaGreatDoorZ08
import Derived.Deep.LoopGhost
namespace Go.Proofs.YtbiadennhnokhaaGreatDoor
open Go.RowKit

abbrev Ch := Int × ByteArray
def encC (c : Ch) : List Value := [.int .i64 c.1, .string c.2]
def chs (l : List Ch) : List Value := l.flatMap encC
theorem chs_cons (c : Ch) (l : List Ch) : chs (c :: l) = .int .i64 c.1 :: .string c.2 :: chs l := rfl
theorem chs_append (l m : List Ch) : chs (l ++ m) = chs l ++ chs m := by simp [chs]
theorem chs_len (l : List Ch) : (chs l).length = 2 * l.length := by
  induction l with
  | nil => rfl
  | cons c l ih => rw [chs_cons, List.length_cons, List.length_cons, List.length_cons, ih]; omega
theorem chs_at : ∀ (l : List Ch) (k : Nat) (h : k < l.length), (chs l)[2 * k]? = some (.int .i64 l[k].1) ∧ (chs l)[2 * k + 1]? = some (.string l[k].2)
  | c :: l, 0, _ => ⟨rfl, rfl⟩
  | c :: l, k + 1, h => by
    have := chs_at l k (by simpa using h)
    rw [chs_cons, show 2 * (k + 1) = 2 * k + 1 + 1 by omega]
    simpa using this

theorem SlR.ch {w : World} {a : Option Addr} {cap : Nat} {l : List Ch} (h : SlR w (.slice a l.length cap) l.length (chs l)) {j : Nat} (hj : j < l.length) :
    ∃ b o, a = some ⟨b, o, none⟩ ∧ w.cell? ⟨b, o + j * 2, none⟩ = some (.int .i64 l[j].1) ∧ w.cell? ⟨b, o + j * 2 + 1, none⟩ = some (.string l[j].2) := by
  obtain ⟨b, o, cap', hv, -, -, hcell⟩ := h.at (by omega)
  injection hv with e1 _ _
  subst e1
  have d0 := hcell _ _ (chs_at l j hj).1
  have d1 := hcell _ _ (chs_at l j hj).2
  rw [show o + 2 * j = o + j * 2 by omega] at d0
  rw [show o + (2 * j + 1) = o + j * 2 + 1 by omega] at d1
  exact ⟨b, o, rfl, d0, d1⟩

theorem below_drewN {B : Nat} {a w : World} (h : Below B a w) (n : Nat) : Below B a (w.drewN n) := ⟨h.os, h.tape, h.output, h.size, h.block⟩
def svGo (k n : Int) (at_ : Int) (v : ByteArray) : List Ch → Bool
  | [] => true
  | c :: l => if c.1 ≤ at_ ∨ 1099511627776 < c.1 then false else if vv k n c.2 = false then false else if k ≠ 3 ∧ c.2 = v then false else svGo k n c.1 c.2 l
/-- is the signal valid -/
def sv (k n : Int) (l : List Ch) : Bool := vt k n && decide (l.length ≤ 4096) && svGo k n (-1) (vi k n) l

/-- short strings, not too many -/
def Fit (l : List Ch) : Prop := l.length ≤ 1000000 ∧ ∀ c ∈ l, c.2.size ≤ 1000000

set_option maxHeartbeats 400000 in
set_option maxRecDepth 100000 in
theorem sig_Valid (k n : Int) (v : Value) (l : List Ch) (w : World) (hg : Glob w) (hs : SlR w v l.length (chs l)) (hf : Fit l) :
    Calls Tryz.prog 43 #[.agg #[.int .i64 k, .int .i64 n, v]] w fun e w' => e = .returned (.bool (sv k n l)) ∧ Below w.heap.size w w' := by
  obtain ⟨a, cap, rfl, hc, hm⟩ := hs.shape
  have hln := hf.1
  unfold maxLen at hm
  cases hv : vt k n
  · have e : sv k n l = false := by simp [sv, hv]
    have E := Lib.hid e
    clear e
    go_enter Tryz.func43, Tryz.ntmps43
    go_wp2_with fail
    refine (val_ValidType k n _).mono ?_
    rintro e w1 ⟨rfl, hb⟩
    rw [hv]
    clear hv
    go_wp2_with fail
    go_ret
    exact ⟨ret_bool E.out.symm, ext_alloc hb⟩
  by_cases h4 : 4096 < l.length
  · have e : sv k n l = false := by simp [sv]; omega
    have E := Lib.hid e
    clear e
    go_enter Tryz.func43, Tryz.ntmps43
    go_wp2_with fail
    refine (val_ValidType k n _).mono ?_
    rintro e w1 ⟨rfl, hb⟩
    obtain ⟨c0, c1, c2⟩ := box3 hb
    rw [hv]
    clear hv
    go_wp2_with fail
    go_ret
    exact ⟨ret_bool E.out.symm, ext_alloc hb⟩
  have e : sv k n l = svGo k n (-1) (vi k n) l := by simp [sv, hv]; omega
  have E := Lib.hid e
  have HG := Lib.hid hg
  have HS := Lib.hid hs
  have HF := Lib.hid hf
  clear e hg hs hf
  go_enter Tryz.func43, Tryz.ntmps43
  go_wp2_with fail
  refine (val_ValidType k n _).mono ?_
  rintro e w1 ⟨rfl, hb⟩
  obtain ⟨c0, c1, c2⟩ := box3 hb
  rw [hv]
  go_wp2_with fail
  refine (val_Initial k n _).mono ?_
  rintro e w2 ⟨rfl, hb2⟩
  have hb12 := ext_trans hb hb2
  obtain ⟨c0', c1', c2'⟩ := box3 hb12
  clear c0 c1 c2 hv
  go_wp2_with fail
  have HB12 := Lib.hid hb12
  clear hb hb2 hb12 c0' c1' c2'
  go_loopw [3, 4, 27] (fun a_ v_ i wr => ∃ (j : Nat) (at_ : Int) (v : ByteArray), j ≤ l.length ∧ i = .int .i64 j ∧ a_ = .int .i64 at_ ∧ v_ = .string v ∧ svGo k n at_ v (l.drop j) = svGo k n (-1) (vi k n) l ∧
      Below (w.alloc (.cells #[.int .i64 k, .int .i64 n, .slice a l.length cap] 45)).heap.size (w.alloc (.cells #[.int .i64 k, .int .i64 n, .slice a l.length cap] 45)) wr)
    (fun _ _ i _ => l.length - (intOf i).toNat)
  case atStart => exact ⟨0, -1, vi k n, Nat.zero_le _, rfl, rfl, rfl, rfl, HB12.out⟩
  case round =>
    obtain ⟨j, at_, v, hj, rfl, rfl, rfl, hgo, hb⟩ := hrel
    obtain ⟨c0, c1, c2⟩ := box3 hb
    have hbw := ext_alloc hb
    have hsz0 : w.heap.size < wr.heap.size := by have := hb.size; simp at this; omega
    have HGO := Lib.hid hgo
    clear hgo
    by_cases hlt : j < l.length
    · obtain ⟨b, o, rfl, d0, d1⟩ := (HS.out.below hbw).ch hlt
      have hfit : l[j].2.size ≤ maxLen := by
        have := HF.out.2 l[j] (List.getElem_mem hlt)
        unfold maxLen; omega
      have HGO2 : Hid ((if l[j].1 ≤ at_ ∨ 1099511627776 < l[j].1 then false else if vv k n l[j].2 = false then false else if k ≠ 3 ∧ l[j].2 = v then false else svGo k n l[j].1 l[j].2 (l.drop (j + 1))) = svGo k n (-1) (vi k n) l) := Lib.hid (by
        have := HGO.out
        rw [List.drop_eq_getElem_cons hlt, svGo] at this
        exact this)
      generalize l[j] = c at d0 d1 hfit HGO2
      obtain ⟨t, s⟩ := c
      simp only at d0 d1 hfit
      by_cases hA : t ≤ at_ ∨ 1099511627776 < t
      · have e : svGo k n (-1) (vi k n) l = false := by rw [← HGO2.out, if_pos hA]
        have E2 := Lib.hid (E.out.trans e)
        clear e
        rcases hA with hA | hA
        all_goals
          go_wp2_with fail
        all_goals
          go_ret
          exact ⟨ret_bool E2.out.symm, hbw.alloc hbw.size _⟩
      · obtain ⟨hA1, hA2⟩ : at_ < t ∧ t ≤ 1099511627776 := by omega
        have HGO3 := Lib.hid ((if_neg hA).symm.trans HGO2.out)
        clear hA
        have HB := Lib.hid hb
        have HBW := Lib.hid hbw
        have hbw2 := hbw.alloc hbw.size (.cells #[.int .i64 t, .string s] 53)
        have HVal := Lib.hid (val_Valid k n s _ (HG.out.below hbw2) hfit)
        clear hb hbw hbw2
        cases hV : vv k n s
        · have e : svGo k n (-1) (vi k n) l = false := by rw [← HGO3.out, if_pos hV]
          have E2 := Lib.hid (E.out.trans e)
          clear e
          go_wp2_with fail
          refine HVal.out.mono ?_
          rintro e w3 ⟨rfl, hb3⟩
          rw [hV]
          clear hV
          go_wp2_with fail
          go_ret
          exact ⟨ret_bool E2.out.symm, ext_trans HBW.out (ext_alloc hb3)⟩
        · go_wp2_with fail
          refine HVal.out.mono ?_
          rintro e w3 ⟨rfl, hb3⟩
          rw [hV]
          have hbx := ext_trans HBW.out (ext_alloc hb3)
          have hb4 : Below (w.alloc (.cells #[.int .i64 k, .int .i64 n, .slice (some ⟨b, o, none⟩) l.length cap] 45)).heap.size (w.alloc (.cells #[.int .i64 k, .int .i64 n, .slice (some ⟨b, o, none⟩) l.length cap] 45)) w3 := ext_trans HB.out (ext_alloc hb3)
          obtain ⟨c0', c1', c2'⟩ := box3 hb4
          have p0 : w3.cell? ⟨wr.heap.size, 0, none⟩ = some (.int .i64 t) := (boxN hb3 0).1
          have p1 : w3.cell? ⟨wr.heap.size, 1, none⟩ = some (.string s) := (boxN hb3 1).1
          have hsz := hb3.size
          have HB4 := Lib.hid hb4
          have HB3 := Lib.hid hb3
          have HVV := Lib.hid hV
          clear c0 c1 c2 d0 d1 hb4 hb3 hV
          by_cases hk : k ≠ 3 ∧ s = v
          · have e : svGo k n (-1) (vi k n) l = false := by rw [← HGO3.out, if_neg (by rw [HVV.out]; simp), if_pos hk]
            have E2 := Lib.hid (E.out.trans e)
            have hk1 : (k != 3) = true := by rw [bne_iff_ne]; exact hk.1
            obtain ⟨-, rfl⟩ := hk
            clear e
            go_wp2_with fail
            go_ret
            exact ⟨ret_bool E2.out.symm, hbx⟩
          · have e : svGo k n t s (l.drop (j + 1)) = svGo k n (-1) (vi k n) l := by rw [← HGO3.out, if_neg (by rw [HVV.out]; simp), if_neg hk]
            have E2 := Lib.hid e
            clear e
            by_cases hk3 : k = 3
            · subst hk3
              go_wp2_with fail
              go_quiet (fail)
              go_wp2_with fail
              go_roundw
              case rel => exact ⟨j + 1, t, s, by omega, by go_num, rfl, rfl, E2.out, below_drewN HB4.out _⟩
              case measure => simp [intOf]; omega
            · have hk1 : (k != 3) = true := by rw [bne_iff_ne]; exact hk3
              have hsv : (s.toList == v.toList) = false := ba_ne (fun e => hk ⟨hk3, e⟩)
              clear hk hk3
              go_wp2_with fail
              go_quiet (fail)
              go_wp2_with fail
              go_roundw
              case rel => exact ⟨j + 1, t, s, by omega, by go_num, rfl, rfl, E2.out, below_drewN HB4.out _⟩
              case measure => simp [intOf]; omega
    · obtain rfl : j = l.length := by omega
      have e : svGo k n (-1) (vi k n) l = true := by rw [← HGO.out, List.drop_length]; rfl
      have E2 := Lib.hid (E.out.trans e)
      clear e
      go_wp2_with fail
      go_ret
      exact ⟨ret_bool E2.out.symm, hbw⟩
end Go.Proofs.YtbiadennhnokhaaGreatDoor
namespace Go.Proofs.YtbiadennhnokhaaGreatDoor
open Go.RowKit

/-- wavestoreref22.Few -/
def fewV (l : List Ch) : Bool := l.all fun c => decide (c.2.size ≤ 200)
def few (l : List Ch) (n : Int) : Bool := fewV l && decide ((l.length : Int) ≤ n)

set_option maxHeartbeats 800000 in
set_option maxRecDepth 100000 in
theorem ref_Few (v : Value) (l : List Ch) (n : Int) (w : World) (hs : SlR w v l.length (chs l)) :
    Calls Tryz.prog 51 #[v, .int .i64 n] w fun e w' => e = .returned (.bool (few l n)) ∧ w' = w := by
  obtain ⟨a, cap, rfl, hc, hm⟩ := hs.shape
  unfold maxLen at hm
  have HS := Lib.hid hs
  clear hs
  go_enter Tryz.func51, Tryz.ntmps51
  go_wp2_with fail
  go_loopw [5] (fun i wr => ∃ (j : Nat), j ≤ l.length ∧ i = .int .i64 j ∧ fewV (l.drop j) = fewV l ∧ wr = w)
    (fun i _ => l.length - (intOf i).toNat)
  case atStart => exact ⟨0, Nat.zero_le _, rfl, rfl, rfl⟩
  case round =>
    obtain ⟨j, hj, rfl, hgo, rfl⟩ := hrel
    have HGO := Lib.hid hgo
    clear hgo
    by_cases hlt : j < l.length
    · obtain ⟨b, o, rfl, d0, d1⟩ := HS.out.ch hlt
      have HGO2 : Hid ((decide (l[j].2.size ≤ 200) && fewV (l.drop (j + 1))) = fewV l) := Lib.hid (by
        have := HGO.out
        rw [List.drop_eq_getElem_cons hlt, fewV, List.all_cons] at this
        exact this)
      generalize l[j] = c at d0 d1 HGO2
      obtain ⟨t, s⟩ := c
      simp only at d0 d1
      by_cases hA : s.size ≤ 200
      · have HGO3 : Hid (fewV (l.drop (j + 1)) = fewV l) := Lib.hid (by rw [← HGO2.out]; simp [hA])
        have hw : IntKind.i64.wrap ((j : Int) + 1) = (j : Int) + 1 := IntWalk.i64_in _ (by omega)
        go_wp2_with fail
        go_roundw
        case rel => exact ⟨j + 1, by omega, by go_num, HGO3.out, trivial⟩
        case measure => simp [intOf]; omega
      · have e : fewV l = false := by rw [← HGO2.out]; simp [hA]
        have E2 := Lib.hid (show few l n = false by simp [few, e])
        clear e
        have hA' : 200 < s.size := by omega
        clear hA
        go_wp2_with fail
        go_ret
        exact ⟨ret_bool E2.out.symm, rfl⟩
    · have e : fewV l = true := by rw [← HGO.out, List.drop_eq_nil_iff.2 (by omega)]; rfl
      have E2 := Lib.hid (show few l n = decide ((l.length : Int) ≤ n) by simp [few, e])
      have hj' : l.length = j := by omega
      subst hj'
      clear e hlt
      go_wp2_with fail
      go_ret
      exact ⟨ret_bool E2.out.symm, rfl⟩

def sameC (l m : List Ch) : Bool := decide (l = m)

end Go.Proofs.YtbiadennhnokhaaGreatDoor
namespace Go.Proofs.YtbiadennhnokhaaGreatDoor
open Go.RowKit

set_option maxHeartbeats 800000 in
set_option maxRecDepth 100000 in
theorem eq_ch (v u : Value) (l m : List Ch) (w : World) (hs : SlR w v l.length (chs l)) (ht : SlR w u m.length (chs m)) :
    Calls Tryz.prog 138 #[v, u] w fun e w' => e = .returned (.bool (sameC l m)) ∧ Below w.heap.size w w' := by
  obtain ⟨a, cap, rfl, hc, hm⟩ := hs.shape
  obtain ⟨a2, cap2, rfl, hc2, hm2⟩ := ht.shape
  unfold maxLen at hm hm2
  have HS := Lib.hid hs
  have HT := Lib.hid ht
  clear hs ht
  by_cases hne : l.length ≠ m.length
  · have E := Lib.hid (show sameC l m = false by unfold sameC; rw [decide_eq_false_iff_not]; intro h; exact hne (by rw [h]))
    have hb : ((l.length : Int) != (m.length : Int)) = true := by rw [bne_iff_ne]; omega
    clear hne
    go_enter Tryz.func138, Tryz.ntmps138
    go_wp2_with fail
    go_ret
    exact ⟨ret_bool E.out.symm, Below.refl _ _⟩
  have hlen : l.length = m.length := by omega
  have HLEN := Lib.hid hlen
  have E := Lib.hid (show sameC l m = decide (l = m) from rfl)
  have hb : ((l.length : Int) != (m.length : Int)) = false := by rw [hlen]; simp
  clear hne hlen
  go_enter Tryz.func138, Tryz.ntmps138
  go_wp2_with fail
  go_loopw [13] (fun i wr => ∃ (j : Nat), j ≤ l.length ∧ i = .int .i64 j ∧ l.take j = m.take j ∧ Below w.heap.size w wr)
    (fun i _ => l.length - (intOf i).toNat)
  case atStart => exact ⟨0, Nat.zero_le _, rfl, rfl, Below.refl _ _⟩
  case round =>
    obtain ⟨j, hj, rfl, hgo, hbw⟩ := hrel
    have HGO := Lib.hid hgo
    have HB := Lib.hid hbw
    clear hgo hbw
    by_cases hlt : j < l.length
    · have hlt2 : j < m.length := by have := HLEN.out; omega
      obtain ⟨b, o, rfl, d0, d1⟩ := (HS.out.below HB.out).ch hlt
      obtain ⟨b2, o2, rfl, g0, g1⟩ := (HT.out.below HB.out).ch hlt2
      have q1 : (0 : Int) ≤ (j : Int) := by omega
      have q2 : (j : Int) < (l.length : Int) := by omega
      have q3 : (j : Int) < (m.length : Int) := by omega
      have hw : IntKind.i64.wrap ((j : Int) + 1) = (j : Int) + 1 := IntWalk.i64_in _ (by omega)
      by_cases he : l[j] = m[j]
      · have HGO2 : Hid (l.take (j + 1) = m.take (j + 1)) := Lib.hid (by rw [List.take_succ_eq_append_getElem hlt, List.take_succ_eq_append_getElem hlt2, HGO.out, he])
        rw [← he] at g0 g1
        generalize l[j] = c at d0 d1 g0 g1
        clear he
        obtain ⟨t, s⟩ := c
        simp only at d0 d1 g0 g1
        go_wp2_with fail
        go_quiet (fail)
        go_wp2_with fail
        go_roundw
        case rel => exact ⟨j + 1, by omega, by go_num, HGO2.out, below_drewN HB.out _⟩
        case measure => simp [intOf]; omega
      · have E2 := Lib.hid (show sameC l m = false by unfold sameC; rw [decide_eq_false_iff_not]; intro h; subst h; exact he rfl)
        have hne : ¬ (l[j].1 = m[j].1 ∧ l[j].2 = m[j].2) := fun h => he (Prod.ext h.1 h.2)
        generalize l[j] = c at d0 d1 hne
        generalize m[j] = c' at g0 g1 hne
        clear he
        obtain ⟨t, s⟩ := c
        obtain ⟨t', s'⟩ := c'
        simp only at d0 d1 g0 g1 hne
        by_cases htt : t = t'
        · subst htt
          have hss := ba_ne (fun h => hne ⟨rfl, h⟩ : s ≠ s')
          clear hne
          go_wp2_with fail
          go_quiet (fail)
          go_wp2_with fail
          go_ret
          exact ⟨ret_bool E2.out.symm, below_drewN HB.out _⟩
        · have htb : (t == t') = false := by rw [beq_eq_false_iff_ne]; exact htt
          clear hne
          go_wp2_with fail
          go_quiet (fail)
          go_wp2_with fail
          go_ret
          exact ⟨ret_bool E2.out.symm, below_drewN HB.out _⟩
    · have hj' : j = l.length := by omega
      subst hj'
      have E2 := Lib.hid (show sameC l m = true by unfold sameC; rw [decide_eq_true_iff]; have := HGO.out; rwa [List.take_length, HLEN.out, List.take_length] at this)
      clear hlt
      go_wp2_with fail
      go_ret
      exact ⟨ret_bool E2.out.symm, HB.out⟩

def sEq (k n : Int) (l : List Ch) (k2 n2 : Int) (m : List Ch) : Bool := decide (k = k2) && (decide (n = n2) && sameC l m)
set_option maxHeartbeats 800000 in
set_option maxRecDepth 100000 in
theorem sig_Equal (k n k2 n2 : Int) (v u : Value) (l m : List Ch) (w : World) (hs : SlR w v l.length (chs l)) (ht : SlR w u m.length (chs m)) :
    Calls Tryz.prog 76 #[.agg #[.int .i64 k, .int .i64 n, v], .agg #[.int .i64 k2, .int .i64 n2, u]] w fun e w' => e = .returned (.bool (sEq k n l k2 n2 m)) ∧ Below w.heap.size w w' := by
  obtain ⟨a, cap, rfl, hc, hm⟩ := hs.shape
  obtain ⟨a2, cap2, rfl, hc2, hm2⟩ := ht.shape
  have hbw : Below w.heap.size w ((w.alloc (.cells #[.int .i64 k, .int .i64 n, .slice a l.length cap] 45)).alloc (.cells #[.int .i64 k2, .int .i64 n2, .slice a2 m.length cap2] 45)) := ((Below.refl _ _).alloc (Nat.le_refl _) _).alloc (by simp) _
  have HE := Lib.hid (eq_ch _ _ l m _ (hs.below hbw) (ht.below hbw))
  have HB := Lib.hid hbw
  clear hs ht hbw
  by_cases hk : k = k2
  · by_cases hn : n = n2
    · have HR := Lib.hid (show sEq k n l k2 n2 m = sameC l m by simp [sEq, hk, hn])
      subst hk hn
      go_enter Tryz.func76, Tryz.ntmps76
      go_wp2_with fail
      refine HE.out.mono ?_
      rintro e w1 ⟨rfl, hb⟩
      go_wp2_with fail
      go_ret
      exact ⟨ret_bool HR.out.symm, HB.out.trans (hb.mono HB.out.size)⟩
    · have HR := Lib.hid (show sEq k n l k2 n2 m = false by simp [sEq, hk, hn])
      have hnb : (n == n2) = false := by rw [beq_eq_false_iff_ne]; exact hn
      subst hk
      clear hn
      go_enter Tryz.func76, Tryz.ntmps76
      go_wp2_with fail
      go_ret
      exact ⟨ret_bool HR.out.symm, HB.out⟩
  · have HR := Lib.hid (show sEq k n l k2 n2 m = false by simp [sEq, hk])
    have hkb : (k == k2) = false := by rw [beq_eq_false_iff_ne]; exact hk
    clear hk
    go_enter Tryz.func76, Tryz.ntmps76
    go_wp2_with fail
    go_ret
    exact ⟨ret_bool HR.out.symm, HB.out⟩
end Go.Proofs.YtbiadennhnokhaaGreatDoor
