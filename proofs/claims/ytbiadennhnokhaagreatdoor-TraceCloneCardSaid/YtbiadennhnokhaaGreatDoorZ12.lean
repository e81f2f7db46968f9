import Derived.Test.YtbiadennhnokhaaGreatDoorZ11
import Derived.Deep.AppendLies
namespace Go.Proofs.YtbiadennhnokhaaGreatDoor
open Go.RowKit

end Go.Proofs.YtbiadennhnokhaaGreatDoor
namespace Go.Proofs.YtbiadennhnokhaaGreatDoor
open Go.RowKit

/-- normalized changes, from a value on -/
def normGo (k : Int) (v : ByteArray) : List Ch → List Ch
  | [] => []
  | c :: l => if (∃ d ∈ l.head?, d.1 = c.1) ∨ (k ≠ 3 ∧ c.2 = v) then normGo k v l else c :: normGo k c.2 l
def normS (k n : Int) (l : List Ch) : List Ch := normGo k (vi k n) l
theorem normGo_len (k : Int) : ∀ (l : List Ch) (v : ByteArray), (normGo k v l).length ≤ l.length
  | [], _ => Nat.le_refl _
  | c :: l, v => by
    unfold normGo
    split
    · have := normGo_len k l v; simp; omega
    · have := normGo_len k l c.2; simp; omega
theorem nat_wrap (j : Nat) (h : j ≤ 1000000000) : IntKind.i64.wrap ((j : Int) + 1) = (j : Int) + 1 := IntWalk.i64_in _ (by omega)

theorem heap_alloc2 (w : World) (o o' : Obj) : ((w.alloc o).alloc o').heap[w.heap.size + 1]? = some o' := by
  have := heap_alloc_new (w.alloc o) o'
  rwa [World.size_alloc] at this

set_option maxHeartbeats 1600000 in
set_option maxRecDepth 100000 in
theorem sig_normal (k n : Int) (v : Value) (l : List Ch) (w : World) (hs : SlR w v l.length (chs l)) (hl : l.length ≤ 1000000) :
    Calls Tryz.prog 143 #[.int .i64 k, .int .i64 n, v] w fun e w' => ∃ v', e = .returned v' ∧ w'.ownsRow w.heap.size 53 2 v' (normS k n l).length (chs (normS k n l)) ∧ Below w.heap.size w w' := by
  obtain ⟨a, cap, rfl, hc, hm⟩ := hs.shape
  have HS := Lib.hid hs
  unfold maxLen at hm
  obtain ⟨i0, hi, iz0, iz1, iz2⟩ := info_parts (P := Tryz.prog) change_info
  clear hs
  go_enter Tryz.func143, Tryz.ntmps143
  go_wp2_with fail
  refine (val_Initial k n _).mono ?_
  rintro e w1 ⟨rfl, hb⟩
  have HB := Lib.hid hb
  clear hb
  go_wp2_with fail
  go_loopw [7, 8, 9, 16] (fun o_ v_ _ i wr => ∃ (j : Nat) (v : ByteArray) (out : List Ch), j ≤ l.length ∧ i = .int .i64 j ∧ v_ = .string v ∧ out.length ≤ j ∧ out ++ normGo k v (l.drop j) = normS k n l ∧ wr.ownsRow w.heap.size 53 2 o_ out.length (chs out) ∧ Below w.heap.size w wr)
    (fun _ _ _ i _ => l.length - (intOf i).toNat)
  case atStart => exact ⟨0, vi k n, [], Nat.zero_le _, rfl, rfl, Nat.le_refl _, rfl, World.ownsRow_nil _ _ _ _, HB.out⟩
  case round =>
    obtain ⟨j, v, out, hj, rfl, rfl, hol, hn, ho, hb⟩ := hrel
    obtain ⟨ao, co, rfl, hco, hmo⟩ := (SlR.of_own ho).shape
    have hsz := hb.size
    have HO := Lib.hid ho
    have HB2 := Lib.hid hb
    have HN := Lib.hid hn
    clear ho hb hn HB
    by_cases hlt : j < l.length
    · obtain ⟨b, o, rfl, d0, d1⟩ := (HS.out.below HB2.out).ch hlt
      have hblt := cell_lt d0
      have HN2 : Hid (out ++ (if (∃ d ∈ (l.drop (j + 1)).head?, d.1 = l[j].1) ∨ (k ≠ 3 ∧ l[j].2 = v) then normGo k v (l.drop (j + 1)) else l[j] :: normGo k l[j].2 (l.drop (j + 1))) = normS k n l) := Lib.hid (by
        have := HN.out
        rw [List.drop_eq_getElem_cons hlt, normGo] at this
        exact this)
      have hw1 := nat_wrap j (by omega)
      have hw2 : (0 : Int) ≤ (j : Int) + 1 := by omega
      have hw3 : ((j : Int) + 1).toNat = j + 1 := by omega
      by_cases hnx : j + 1 < l.length
      · obtain ⟨b', o', he, x0, -⟩ := (HS.out.below HB2.out).ch hnx
        injection he with he
        injection he with he1 he2 _
        subst he1 he2
        have HH : Hid ((l.drop (j + 1)).head? = some l[j + 1]) := Lib.hid (by rw [List.head?_drop, List.getElem?_eq_getElem hnx])
        generalize hc0 : l[j] = c at d0 d1 HN2
        generalize l[j + 1] = d at x0 HH
        obtain ⟨t, s⟩ := c
        obtain ⟨t', s'⟩ := d
        simp only at d0 d1 x0
        clear hc0
        have hnx' : decide ((j : Int) + 1 < (l.length : Int)) = true := by simp; omega
        by_cases hsame : t' = t
        · have HNS : Hid (out ++ normGo k v (l.drop (j + 1)) = normS k n l) := Lib.hid (by
            rw [← HN2.out, if_pos (.inl ⟨(t', s'), by rw [HH.out]; rfl, hsame⟩)])
          have hsb : ((t' : Int) == t) = true := by rw [beq_iff_eq]; exact hsame
          clear hsame
          go_wp2_with fail
          go_quiet (fail)
          go_wp2_with fail
          go_roundw
          case rel => exact ⟨j + 1, v, out, by omega, by go_num, rfl, by omega, HNS.out, HO.out.alloc _, below_drewN (HB2.out.alloc hsz _) _⟩
          case measure => simp [intOf]; omega
        · have hnh : ¬ ∃ d ∈ (l.drop (j + 1)).head?, d.1 = t := by rw [HH.out]; rintro ⟨d, hd, he⟩; obtain rfl := Option.some.inj hd; exact hsame he
          have hsb : ((t' : Int) == t) = false := by rw [beq_eq_false_iff_ne]; exact hsame
          have HNH := Lib.hid hnh
          clear hsame hnh
          by_cases hk3 : k = 3
          · have HNS : Hid ((out ++ [(t, s)]) ++ normGo k s (l.drop (j + 1)) = normS k n l) := Lib.hid (by
              rw [← HN2.out, if_neg (fun h => h.elim (fun h => HNH.out h) (fun h => h.1 hk3))]; simp)
            have hkb : (k != 3) = false := by rw [bne_eq_false_iff_eq]; exact hk3
            clear hk3
            have hnb : some wr.heap.size ≠ (Value.slice ao out.length co).ownBlock := fun e => by have := HO.out.lt _ e.symm; omega
            go_wp2_with fail
            go_quiet (fail)
            go_wp2_with fail
            go_region_held3 (fun w' => w'.cell? ⟨wr.heap.size, 0, none⟩ = some (.int .i64 t) ∧ w'.cell? ⟨wr.heap.size, 1, none⟩ = some (.string s))
              (first
                | go_keep
                | (go_split_ands
                   refine ⟨?_, ?_⟩
                   · (rw [hgrow.cell_far _ (by simp; omega) hnb]; assumption)
                   · (rw [hgrow.cell_far _ (by simp; omega) hnb]; assumption)))
              ((refine step_append_lies _ (by rfl) _ _ _ (by rfl) w.heap.size 53 i0 _ 2 24 Tryz.underlying43 hi iz0 iz1 iz2 rfl (by omega) (.slice ao out.length co) out.length (chs out) (by rfl) (by exact (HO.out.alloc _).alloc _)
                  ⟨wr.heap.size + 1, 0, none⟩ 1 1 [.int .i64 t, .string s] (by rfl) (by rfl) (World.news_of_block (cs := #[.int .i64 t, .string s]) (t := 53) (fr := (0, 0)) (by exact heap_alloc2 wr _ _)) (by simp [Value.oneCell'])
                  (by omega) (by unfold maxLen; omega) (by omega) (by simp; omega) (wr.heap.size + 1 + 1) (by simp) ?_; intro gg cap9 w9 hown1 hgrow hat hlt9))
            go_wp2_with fail
            go_roundw
            case rel => exact ⟨j + 1, s, out ++ [(t, s)], by omega, by go_num, rfl, by simp; omega, HNS.out, by rw [chs_append]; simpa [chs, encC] using hown1, Below.grown (below_drewN ((HB2.out.alloc hsz _).alloc (by simp; omega) _) _) hgrow (by simp; omega) (fun q hq => (HO.out.lt q hq).1)⟩
            case measure => simp [intOf]; omega
          · have hkb : (k != 3) = true := by rw [bne_iff_ne]; exact hk3
            by_cases hsv : s = v
            · have HNS : Hid (out ++ normGo k v (l.drop (j + 1)) = normS k n l) := Lib.hid (by
                rw [← HN2.out, if_pos (.inr ⟨hk3, hsv⟩)])
              subst hsv
              clear hk3
              go_wp2_with fail
              go_quiet (fail)
              go_wp2_with fail
              go_roundw
              case rel => exact ⟨j + 1, s, out, by omega, by go_num, rfl, by omega, HNS.out, HO.out.alloc _, below_drewN (HB2.out.alloc hsz _) _⟩
              case measure => simp [intOf]; omega
            · have HNS : Hid ((out ++ [(t, s)]) ++ normGo k s (l.drop (j + 1)) = normS k n l) := Lib.hid (by
                rw [← HN2.out, if_neg (fun h => h.elim (fun h => HNH.out h) (fun h => hsv h.2))]; simp)
              have hsb := ba_ne hsv
              clear hk3 hsv
              have hnb : some wr.heap.size ≠ (Value.slice ao out.length co).ownBlock := fun e => by have := HO.out.lt _ e.symm; omega
              go_wp2_with fail
              go_quiet (fail)
              go_wp2_with fail
              go_region_held3 (fun w' => w'.cell? ⟨wr.heap.size, 0, none⟩ = some (.int .i64 t) ∧ w'.cell? ⟨wr.heap.size, 1, none⟩ = some (.string s))
                (first
                  | go_keep
                  | (go_split_ands
                     refine ⟨?_, ?_⟩
                     · (rw [hgrow.cell_far _ (by simp; omega) hnb]; assumption)
                     · (rw [hgrow.cell_far _ (by simp; omega) hnb]; assumption)))
                ((refine step_append_lies _ (by rfl) _ _ _ (by rfl) w.heap.size 53 i0 _ 2 24 Tryz.underlying43 hi iz0 iz1 iz2 rfl (by omega) (.slice ao out.length co) out.length (chs out) (by rfl) (by exact (HO.out.alloc _).alloc _)
                    ⟨wr.heap.size + 1, 0, none⟩ 1 1 [.int .i64 t, .string s] (by rfl) (by rfl) (World.news_of_block (cs := #[.int .i64 t, .string s]) (t := 53) (fr := (0, 0)) (by exact heap_alloc2 wr _ _)) (by simp [Value.oneCell'])
                    (by omega) (by unfold maxLen; omega) (by omega) (by simp; omega) (wr.heap.size + 1 + 1) (by simp) ?_; intro gg cap9 w9 hown1 hgrow hat hlt9))
              go_wp2_with fail
              go_roundw
              case rel => exact ⟨j + 1, s, out ++ [(t, s)], by omega, by go_num, rfl, by simp; omega, HNS.out, by rw [chs_append]; simpa [chs, encC] using hown1, Below.grown (below_drewN ((HB2.out.alloc hsz _).alloc (by simp; omega) _) _) hgrow (by simp; omega) (fun q hq => (HO.out.lt q hq).1)⟩
              case measure => simp [intOf]; omega
      · have hnh : ¬ ∃ d ∈ (l.drop (j + 1)).head?, d.1 = l[j].1 := by rw [List.drop_eq_nil_of_le (by omega)]; rintro ⟨d, hd, -⟩; cases hd
        generalize hc0 : l[j] = c at d0 d1 HN2 hnh
        obtain ⟨t, s⟩ := c
        simp only at d0 d1
        have HNH := Lib.hid hnh
        have hnx' : decide ((j : Int) + 1 < (l.length : Int)) = false := by simp; omega
        clear hc0 hnh hnx
        by_cases hk3 : k = 3
        · have HNS : Hid ((out ++ [(t, s)]) ++ normGo k s (l.drop (j + 1)) = normS k n l) := Lib.hid (by
            rw [← HN2.out, if_neg (fun h => h.elim (fun h => HNH.out h) (fun h => h.1 hk3))]; simp)
          have hkb : (k != 3) = false := by rw [bne_eq_false_iff_eq]; exact hk3
          clear hk3
          have hnb : some wr.heap.size ≠ (Value.slice ao out.length co).ownBlock := fun e => by have := HO.out.lt _ e.symm; omega
          go_wp2_with fail
          go_quiet (fail)
          go_wp2_with fail
          go_region_held3 (fun w' => w'.cell? ⟨wr.heap.size, 0, none⟩ = some (.int .i64 t) ∧ w'.cell? ⟨wr.heap.size, 1, none⟩ = some (.string s))
            (first
              | go_keep
              | (go_split_ands
                 refine ⟨?_, ?_⟩
                 · (rw [hgrow.cell_far _ (by simp; omega) hnb]; assumption)
                 · (rw [hgrow.cell_far _ (by simp; omega) hnb]; assumption)))
            ((refine step_append_lies _ (by rfl) _ _ _ (by rfl) w.heap.size 53 i0 _ 2 24 Tryz.underlying43 hi iz0 iz1 iz2 rfl (by omega) (.slice ao out.length co) out.length (chs out) (by rfl) (by exact (HO.out.alloc _).alloc _)
                ⟨wr.heap.size + 1, 0, none⟩ 1 1 [.int .i64 t, .string s] (by rfl) (by rfl) (World.news_of_block (cs := #[.int .i64 t, .string s]) (t := 53) (fr := (0, 0)) (by exact heap_alloc2 wr _ _)) (by simp [Value.oneCell'])
                (by omega) (by unfold maxLen; omega) (by omega) (by simp; omega) (wr.heap.size + 1 + 1) (by simp) ?_; intro gg cap9 w9 hown1 hgrow hat hlt9))
          go_wp2_with fail
          go_roundw
          case rel => exact ⟨j + 1, s, out ++ [(t, s)], by omega, by go_num, rfl, by simp; omega, HNS.out, by rw [chs_append]; simpa [chs, encC] using hown1, Below.grown (below_drewN ((HB2.out.alloc hsz _).alloc (by simp; omega) _) _) hgrow (by simp; omega) (fun q hq => (HO.out.lt q hq).1)⟩
          case measure => simp [intOf]; omega
        · have hkb : (k != 3) = true := by rw [bne_iff_ne]; exact hk3
          by_cases hsv : s = v
          · have HNS : Hid (out ++ normGo k v (l.drop (j + 1)) = normS k n l) := Lib.hid (by
              rw [← HN2.out, if_pos (.inr ⟨hk3, hsv⟩)])
            subst hsv
            clear hk3
            go_wp2_with fail
            go_quiet (fail)
            go_wp2_with fail
            go_roundw
            case rel => exact ⟨j + 1, s, out, by omega, by go_num, rfl, by omega, HNS.out, HO.out.alloc _, below_drewN (HB2.out.alloc hsz _) _⟩
            case measure => simp [intOf]; omega
          · have HNS : Hid ((out ++ [(t, s)]) ++ normGo k s (l.drop (j + 1)) = normS k n l) := Lib.hid (by
              rw [← HN2.out, if_neg (fun h => h.elim (fun h => HNH.out h) (fun h => hsv h.2))]; simp)
            have hsb := ba_ne hsv
            clear hk3 hsv
            have hnb : some wr.heap.size ≠ (Value.slice ao out.length co).ownBlock := fun e => by have := HO.out.lt _ e.symm; omega
            go_wp2_with fail
            go_quiet (fail)
            go_wp2_with fail
            go_region_held3 (fun w' => w'.cell? ⟨wr.heap.size, 0, none⟩ = some (.int .i64 t) ∧ w'.cell? ⟨wr.heap.size, 1, none⟩ = some (.string s))
              (first
                | go_keep
                | (go_split_ands
                   refine ⟨?_, ?_⟩
                   · (rw [hgrow.cell_far _ (by simp; omega) hnb]; assumption)
                   · (rw [hgrow.cell_far _ (by simp; omega) hnb]; assumption)))
              ((refine step_append_lies _ (by rfl) _ _ _ (by rfl) w.heap.size 53 i0 _ 2 24 Tryz.underlying43 hi iz0 iz1 iz2 rfl (by omega) (.slice ao out.length co) out.length (chs out) (by rfl) (by exact (HO.out.alloc _).alloc _)
                  ⟨wr.heap.size + 1, 0, none⟩ 1 1 [.int .i64 t, .string s] (by rfl) (by rfl) (World.news_of_block (cs := #[.int .i64 t, .string s]) (t := 53) (fr := (0, 0)) (by exact heap_alloc2 wr _ _)) (by simp [Value.oneCell'])
                  (by omega) (by unfold maxLen; omega) (by omega) (by simp; omega) (wr.heap.size + 1 + 1) (by simp) ?_; intro gg cap9 w9 hown1 hgrow hat hlt9))
            go_wp2_with fail
            go_roundw
            case rel => exact ⟨j + 1, s, out ++ [(t, s)], by omega, by go_num, rfl, by simp; omega, HNS.out, by rw [chs_append]; simpa [chs, encC] using hown1, Below.grown (below_drewN ((HB2.out.alloc hsz _).alloc (by simp; omega) _) _) hgrow (by simp; omega) (fun q hq => (HO.out.lt q hq).1)⟩
            case measure => simp [intOf]; omega
    · obtain rfl : j = l.length := by omega
      have HE := Lib.hid (show out = normS k n l by have := HN.out; rw [List.drop_length] at this; simpa [normGo] using this)
      go_wp2_with fail
      go_ret
      exact ⟨_, rfl, by rw [← HE.out]; exact HO.out, HB2.out⟩
end Go.Proofs.YtbiadennhnokhaaGreatDoor
namespace Go.Proofs.YtbiadennhnokhaaGreatDoor
open Go.RowKit

abbrev SigR := (Int × Int × List Ch) × Int
def SigPost (r : SigR) (w : World) (e : Ending) (w' : World) : Prop := ∃ v', e = .returned (.tuple #[.agg #[.int .i64 r.1.1, .int .i64 r.1.2.1, v'], .int .i64 r.2]) ∧ w'.ownsRow w.heap.size 53 2 v' r.1.2.2.length (chs r.1.2.2) ∧ Below w.heap.size w w'
theorem SigPost.zero {w W : World} (e : Int) (h : Below w.heap.size w W) : SigPost ((0, 0, []), e) w (.returned (.tuple #[.agg #[.int .i64 0, .int .i64 0, .slice none 0 0], .int .i64 e])) W := ⟨_, rfl, World.ownsRow_nil _ _ _ _, h⟩
def madeR (k n : Int) (l : List Ch) : SigR := if 4096 < (normS k n l).length then ((0, 0, []), 9) else ((k, n, normS k n l), 0)


theorem ownsRow_set3 {w : World} {base e size : Nat} {v : Value} {n : Nat} {xs : List Value} {b : Nat} (h : w.ownsRow base e size v n xs) (hb : b < base) (p q r : Value) :
    (((w.setCell ⟨b, 0, none⟩ p).setCell ⟨b, 1, none⟩ q).setCell ⟨b, 2, none⟩ r).ownsRow base e size v n xs :=
  ownsRow_setCell_below (ownsRow_setCell_below (ownsRow_setCell_below h hb _) hb _) hb _
theorem ownsRow_base {w : World} {base base' e size : Nat} {v : Value} {n : Nat} {xs : List Value} (h : w.ownsRow base e size v n xs) (hb : base' ≤ base) : w.ownsRow base' e size v n xs := by
  refine ⟨h.1, ?_⟩
  rcases h.2 with h2 | ⟨g, cap, cur, h1, h2, h3⟩
  · exact .inl h2
  · exact .inr ⟨g, cap, cur, h1, by omega, h3⟩
theorem below_set3 {w W : World} (h : Below w.heap.size w W) (p q r : Value) : Below w.heap.size w (((W.setCell ⟨w.heap.size, 0, none⟩ p).setCell ⟨w.heap.size, 1, none⟩ q).setCell ⟨w.heap.size, 2, none⟩ r) :=
  ((h.setCell (Nat.le_refl _) _).setCell (Nat.le_refl _) _).setCell (Nat.le_refl _) _

set_option maxHeartbeats 800000 in
set_option maxRecDepth 100000 in
theorem sig_made (k n : Int) (v : Value) (l : List Ch) (w : World) (hs : SlR w v l.length (chs l)) (hl : l.length ≤ 1000000) :
    Calls Tryz.prog 84 #[.int .i64 k, .int .i64 n, v] w (SigPost (madeR k n l) w) := by
  obtain ⟨a, cap, rfl, hc, hm⟩ := hs.shape
  have hbw : Below w.heap.size w (w.alloc (.cells #[.int .i64 0, .int .i64 0, .slice none 0 0] 45)) := (Below.refl _ _).alloc (Nat.le_refl _) _
  have HN := Lib.hid (sig_normal k n _ l _ (hs.below hbw) hl)
  have hnl : (normS k n l).length ≤ l.length := normGo_len k l _
  clear hs hbw
  go_enter Tryz.func84, Tryz.ntmps84
  go_wp2_with fail
  refine HN.out.mono ?_
  rintro e w1 ⟨v1, rfl, ho, hb⟩
  obtain ⟨a1, cap1, rfl, hc1, hm1⟩ := (SlR.of_own ho).shape
  obtain ⟨c0, c1, c2⟩ := box3 hb
  obtain ⟨f0, f1, f2⟩ := box3f hb
  have HB := Lib.hid (ext_alloc hb)
  have HO := Lib.hid ho
  clear hb ho
  by_cases hbig : 4096 < (normS k n l).length
  · have HR := Lib.hid (show madeR k n l = ((0, 0, []), 9) by unfold madeR; rw [if_pos hbig])
    go_wp2_with fail
    refine bodyPost_ret (v := .tuple #[.agg #[.int .i64 0, .int .i64 0, .slice none 0 0], .int .i64 9]) (by simp [results, Tryz.results84, go_sem, c0, c1, c2]) rfl ?_
    rw [HR.out]
    exact SigPost.zero 9 (below_set3 HB.out _ _ _)
  · have HR := Lib.hid (show madeR k n l = ((k, n, normS k n l), 0) by unfold madeR; rw [if_neg hbig])
    go_wp2_with fail
    refine bodyPost_ret (v := .tuple #[.agg #[.int .i64 k, .int .i64 n, .slice a1 (normS k n l).length cap1], .int .i64 0]) (by simp [results, Tryz.results84, go_sem, c0, c1, c2]) rfl ?_
    rw [HR.out]
    exact ⟨_, rfl, ownsRow_base (ownsRow_set3 HO.out (by simp) _ _ _) (by simp), below_set3 HB.out _ _ _⟩
end Go.Proofs.YtbiadennhnokhaaGreatDoor
