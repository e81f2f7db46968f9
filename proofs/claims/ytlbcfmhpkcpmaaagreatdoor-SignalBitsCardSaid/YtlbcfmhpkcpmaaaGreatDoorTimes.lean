import Derived.Test.YtlbcfmhpkcpmaaaGreatDoorSig9
import Derived.Test.YtlbcfmhpkcpmaaaGreatDoorSl2
import Derived.Sort.OwnSortedInts
namespace Go.Proofs.YtlbcfmhpkcpmaaaGreatDoor
open Go.RowKit Go.Sort

def ints (l : List Int) : List Value := l.map (Value.int .i64)
theorem int_info : (Tryz.prog.info? 3).map (fun i => (i.zero, i.size, i.bytes)) = some (some (.int .i64 0), 1, 8) := by kernel_rfl

theorem compact_mem (zs : List Int) : ∀ x ∈ Lib.compact zs, x ∈ zs := by
  intro x hx
  unfold Lib.compact Lib.compactUpTo at hx
  obtain ⟨j, hj, rfl⟩ := List.mem_map.1 hx
  have hj' := List.mem_range.1 (List.mem_filter.1 hj).1
  simp [hj']

theorem sort_own (base g cap : Nat) (zs : List Int) (w : World) (h : w.ownsRow base 3 1 (.slice (some ⟨g, 0, none⟩) zs.length cap) zs.length (ints zs)) (hl : zs.length ≤ 1000000) :
    Calls Tryz.prog 68 #[.slice (some ⟨g, 0, none⟩) zs.length cap] w fun e w' => e = .returned (.tuple #[]) ∧ (∃ ts : List Int, ts.length = zs.length ∧ (∀ x ∈ ts, x ∈ zs) ∧ w'.ownsRow base 3 1 (.slice (some ⟨g, 0, none⟩) zs.length cap) ts.length (ints ts)) ∧ w.grownBy w' (some g) := by
  rcases h.2 with ⟨h0, -⟩ | ⟨g', cap', cur, hv, hbase, hb, hn, hm, hsz, htk⟩
  · cases h0
  injection hv with e1 _ e3
  injection e1 with e1
  injection e1 with e1 _ _
  subst e1 e3
  have hH := holds_of_blockI (ss := zs) hb (by rw [Nat.mul_one] at htk; exact htk)
  refine (Tryz.slices_Sort_int g 0 cap zs w hH (Array.getElem?_eq_some_iff.1 hb).1 (by omega)).mono ?_
  rintro e w' ⟨rfl, n, os, rfl⟩
  have hlen : (zs.mergeSort fun x y => decide (x ≤ y)).length = zs.length := List.length_mergeSort _
  refine ⟨rfl, ⟨_, hlen, fun x hx => ?_, ?_⟩, grownBy_sortedI _⟩
  · exact (List.mergeSort_perm zs _).mem_iff.1 hx
  · rw [hlen]
    exact ownsRow_sortedI hlen hbase hb hn hm hsz

theorem compact_own (base g cap : Nat) (zs : List Int) (w : World) (h : w.ownsRow base 3 1 (.slice (some ⟨g, 0, none⟩) zs.length cap) zs.length (ints zs)) (hl : zs.length ≤ 1000000) :
    Calls Tryz.prog 69 #[.slice (some ⟨g, 0, none⟩) zs.length cap] w fun e w' => (∃ ts : List Int, e = .returned (.slice (some ⟨g, 0, none⟩) ts.length cap) ∧ ts.length ≤ zs.length ∧ (∀ x ∈ ts, x ∈ zs) ∧ w'.ownsRow base 3 1 (.slice (some ⟨g, 0, none⟩) ts.length cap) ts.length (ints ts)) ∧ w.grownBy w' (some g) := by
  rcases h.2 with ⟨h0, -⟩ | ⟨g', cap', cur, hv, hbase, hb, hn, hm, hsz, htk⟩
  · cases h0
  injection hv with e1 _ e3
  injection e1 with e1
  injection e1 with e1 _ _
  subst e1 e3
  have hH := holds_of_blockI (ss := zs) hb (by rw [Nat.mul_one] at htk; exact htk)
  refine (Tryz.slices_Compact_int g 0 cap zs w hH (by omega) hn).mono ?_
  rintro e w' ⟨rfl, n, rfl⟩
  have hcl := Lib.compact_length_le zs
  have hlen : (Lib.compact zs ++ List.replicate (zs.length - (Lib.compact zs).length) (0 : Int)).length = zs.length := by simp; omega
  have hg : ∀ W : World, grow W #[] = W := fun W => grow_empty W
  have hown := ownsRow_sortedI (n := n) (os := #[]) (ts := Lib.compact zs ++ List.replicate (zs.length - (Lib.compact zs).length) (0 : Int)) hlen hbase hb hn hm hsz
  rw [hg] at hown
  refine ⟨⟨_, rfl, hcl, compact_mem zs, ?_⟩, by have := grownBy_sortedI (w := w) (g := g) (n := n) (os := #[]) (Lib.compact zs ++ List.replicate (zs.length - (Lib.compact zs).length) (0 : Int)).toArray; rwa [hg] at this⟩
  rcases hown.2 with ⟨h0, -⟩ | ⟨g', cap', cur', hv, hbase', hb', hn', hm', hsz', htk'⟩
  · cases h0
  injection hv with e1 _ e3
  injection e1 with e1
  injection e1 with e1 _ _
  subst e1 e3
  refine ⟨by simp [ints], .inr ⟨g, cap, cur', rfl, hbase, hb', by omega, hm', hsz', ?_⟩⟩
  have := congrArg (List.take (Lib.compact zs).length) htk'
  rw [List.take_take, Nat.mul_one, Nat.min_eq_left hcl] at this
  rw [Nat.mul_one, this, List.map_append, List.take_left' (by simp)]
  rfl

/-- lists of changes, a slice each -/
def Lists (w : World) (vs : List (Value × List Ch)) : Prop := ∀ x ∈ vs, SlR w x.1 x.2.length (chs x.2) ∧ x.2.length ≤ 5000 ∧ ∀ c ∈ x.2, 0 ≤ c.1 ∧ c.1 ≤ 1099511627776
theorem Lists.below {w w' : World} {vs : List (Value × List Ch)} (h : Lists w vs) (hb : Below w.heap.size w w') : Lists w' vs := fun x hx => ⟨(h x hx).1.below hb, (h x hx).2⟩
def TimesPost (w : World) (e : Ending) (w' : World) : Prop := ∃ (ts : List Int) (a : Option Addr) (c : Nat), e = .returned (.slice a ts.length c) ∧ ts.length ≤ 40000 ∧ (∀ t ∈ ts, 0 ≤ t ∧ t ≤ 1099511627776) ∧ w'.ownsRow w.heap.size 3 1 (.slice a ts.length c) ts.length (ints ts) ∧ Below w.heap.size w w'

theorem own_addr {w : World} {base e n : Nat} {v : Value} {xs : List Value} (h : w.ownsRow base e 1 v n xs) (hn : 0 < n) : ∃ g cap, v = .slice (some ⟨g, 0, none⟩) n cap := by
  rcases h.2 with ⟨-, h0⟩ | ⟨g, cap, cur, hv, -⟩
  · have := h.1; rw [h0] at this; simp at this; omega
  · exact ⟨g, cap, hv⟩

set_option maxHeartbeats 1600000 in
set_option maxRecDepth 100000 in
theorem law_times (v : Value) (vs : List (Value × List Ch)) (w : World) (hs : SlR w v vs.length (vs.map Prod.fst)) (hv : Lists w vs) (hn : vs.length ≤ 2) :
    Calls Tryz.prog 41 #[v] w (TimesPost w) := by
  obtain ⟨a, cap, rfl, hc, hm⟩ := hs.shape
  unfold maxLen at hm
  have HS := Lib.hid hs
  have HV := Lib.hid hv
  obtain ⟨i0, hi, iz0, iz1, iz2⟩ := info_parts (P := Tryz.prog) int_info
  have hown : (w.alloc (.cells #[.int .i64 0, .int .i64 1099511627776] 3)).ownsRow w.heap.size 3 1 (.slice (some ⟨w.heap.size, 0, none⟩) 2 2) 2 (ints [0, 1099511627776]) := World.ownsRow_lit w #[.int .i64 0, .int .i64 1099511627776] 2 (Nat.le_refl _) (by simp [maxLen]) (by simp)
  have HOWN := Lib.hid hown
  have HB0 := Lib.hid ((Below.refl w.heap.size w).alloc (Nat.le_refl _) (.cells #[.int .i64 0, .int .i64 1099511627776] 3))
  clear hs hv hown
  go_enter Tryz.func41, Tryz.ntmps41
  go_wp2_with fail
  go_loopw [3, 11] (fun o_ i wr => ∃ (j : Nat) (zs : List Int), j ≤ vs.length ∧ i = .int .i64 j ∧ 0 < zs.length ∧ zs.length ≤ 2 + 15000 * j ∧ (∀ t ∈ zs, 0 ≤ t ∧ t ≤ 1099511627776) ∧ wr.ownsRow w.heap.size 3 1 o_ zs.length (ints zs) ∧ Below w.heap.size w wr)
    (fun _ i _ => vs.length - (intOf i).toNat)
  case atStart => exact ⟨0, [0, 1099511627776], Nat.zero_le _, rfl, by simp, by simp, by simp, HOWN.out, HB0.out⟩
  case round =>
    obtain ⟨j, zs, hj, rfl, hz0, hzl, hzm, ho, hb⟩ := hrel
    obtain ⟨g, cz, rfl⟩ := own_addr ho hz0
    have HO := Lib.hid ho
    have HB := Lib.hid hb
    have HZ := Lib.hid hzm
    clear ho hb hzm HB0 HOWN
    by_cases hlt : j < vs.length
    · obtain ⟨b, o, cap', hva, -, -, hcell⟩ := (HS.out.below HB.out).at (by omega)
      injection hva with e1 _ e3
      subst e1 e3
      have d0 := hcell j vs[j].1 (by rw [List.getElem?_map, List.getElem?_eq_getElem hlt]; rfl)
      obtain ⟨hx1, hx2, hx3⟩ := HV.out vs[j] (List.getElem_mem hlt)
      generalize vs[j] = x at d0 hx1 hx2 hx3
      obtain ⟨xv, l⟩ := x
      dsimp only at d0 hx1 hx2 hx3
      obtain ⟨ax, cx, rfl, hcx, hmx⟩ := hx1.shape
      unfold maxLen at hmx
      have HX1 := Lib.hid hx1
      have HX3 := Lib.hid hx3
      have hw := nat_wrap j (by omega)
      obtain ⟨wo, rfl⟩ : ∃ wo : World, wo = wr := ⟨_, rfl⟩
      clear hcell hx1 hx3
      go_wp2_with fail
      go_loopw [3, 17] (fun o_ i wr => ∃ (q : Nat) (zs2 : List Int), q ≤ l.length ∧ i = .int .i64 q ∧ 0 < zs2.length ∧ zs2.length ≤ 2 + 15000 * j + 3 * q ∧ (∀ t ∈ zs2, 0 ≤ t ∧ t ≤ 1099511627776) ∧ wr.ownsRow w.heap.size 3 1 o_ zs2.length (ints zs2) ∧ Below w.heap.size w wr)
        (fun _ i _ => l.length - (intOf i).toNat)
      case atStart => exact ⟨0, zs, Nat.zero_le _, rfl, hz0, by omega, HZ.out, HO.out, HB.out⟩
      case round =>
        obtain ⟨q, zs2, hq, rfl, hz02, hzl2, hzm2, ho2, hb2⟩ := hrel
        obtain ⟨g2, cz2, rfl⟩ := own_addr ho2 hz02
        have HO2 := Lib.hid ho2
        have HB2 := Lib.hid hb2
        have HZ2 := Lib.hid hzm2
        clear ho2 hb2 hzm2 HO HB HZ
        by_cases hlq : q < l.length
        · obtain ⟨b2, o2, rfl, f0, f1⟩ := (HX1.out.below HB2.out).ch hlq
          have hcb := HX3.out l[q] (List.getElem_mem hlq)
          generalize l[q] = c at f0 f1 hcb
          obtain ⟨t, s⟩ := c
          dsimp only at f0 f1 hcb
          obtain ⟨hc0, hc1⟩ := hcb
          have hwq := nat_wrap q (by omega)
          have hw1 : IntKind.i64.wrap (t - 1) = t - 1 := IntWalk.i64_in _ (by omega)
          have hw2 : IntKind.i64.wrap (t + 1) = t + 1 := IntWalk.i64_in _ (by omega)
          have HC := Lib.hid (World.news_of_block (w := (wr.alloc (.cells #[.int .i64 t, .string s] 36)).alloc (.cells #[.int .i64 (max 0 (t - 1)), .int .i64 t, .int .i64 (min 1099511627776 (t + 1))] 3)) (cs := #[.int .i64 (max 0 (t - 1)), .int .i64 t, .int .i64 (min 1099511627776 (t + 1))]) (t := 3) (fr := (0, 0)) (by exact heap_alloc2 wr _ _))
          have hsz2 := HB2.out.size
          go_wp2_with (at_builtin; refine wpList_append_own _ rfl _ _ 52 rfl w.heap.size 3 i0 (.int .i64 0) 1 8 Tryz.underlying52 hi iz0 iz1 iz2 rfl (by decide) _ _ _ rfl ((HO2.out.alloc _).alloc _) ⟨wr.heap.size + 1, 0, none⟩ 3 3 [.int .i64 (max 0 (t - 1)), .int .i64 t, .int .i64 (min 1099511627776 (t + 1))] rfl rfl HC.out (by simp [Value.oneCell']) (by unfold maxLen; omega) (by omega) (by simp; omega) ?_)
          intro v6 w6 ho6 hg6 _
          have HO6 := Lib.hid ho6
          have hbx : Below wr.heap.size wr ((wr.alloc (.cells #[.int .i64 t, .string s] 36)).alloc (.cells #[.int .i64 (max 0 (t - 1)), .int .i64 t, .int .i64 (min 1099511627776 (t + 1))] 3)) := ((Below.refl _ _).alloc (Nat.le_refl _) _).alloc (by simp) _
          have hb6 : Below w.heap.size w w6 := (HB2.out.trans (hbx.mono HB2.out.size)).grown hg6 (by simp; omega) (fun q hq => (HO2.out.lt q hq).1)
          have HB6 := Lib.hid hb6
          clear ho6 hg6 hb6 hbx
          go_wp2_with fail
          go_roundw
          case rel => exact ⟨q + 1, zs2 ++ [max 0 (t - 1), t, min 1099511627776 (t + 1)], by omega, by go_num, by simp, by simp; omega, fun x hx => by
              rcases List.mem_append.1 hx with hx | hx
              · exact HZ2.out x hx
              · simp at hx; omega, by have := HO6.out; simpa [ints] using this, HB6.out⟩
          case measure => simp [intOf]; omega
        · obtain rfl : q = l.length := by omega
          go_wp2_with fail
          go_roundw
          case rel => exact ⟨j + 1, zs2, by omega, by go_num, hz02, by omega, HZ2.out, HO2.out, HB2.out⟩
          case measure => simp [intOf]; omega
    · obtain rfl : j = vs.length := by omega
      go_wp2_with fail
      refine (sort_own w.heap.size g cz zs wr HO.out (by omega)).mono ?_
      rintro e w2 ⟨rfl, ⟨ts, hts, htm, ho2⟩, hg2⟩
      have HB2 := Lib.hid (HB.out.grown hg2 HB.out.size (fun q hq => by obtain rfl := Option.some.inj hq; exact (HO.out.lt g rfl).1))
      have HO2 := Lib.hid ho2
      have HT := Lib.hid (fun t ht => HZ.out t (htm t ht))
      rw [← hts] at HO2 ⊢
      have hts2 : ts.length ≤ 40000 := by omega
      clear ho2 hg2 htm hts
      go_wp2_with fail
      refine (compact_own w.heap.size g cz ts w2 HO2.out (by omega)).mono ?_
      rintro e w3 ⟨⟨us, rfl, hul, hum, ho3⟩, hg3⟩
      have HB3 := Lib.hid (HB2.out.grown hg3 HB2.out.size (fun q hq => by obtain rfl := Option.some.inj hq; exact (HO.out.lt g rfl).1))
      have HO3 := Lib.hid ho3
      have HU := Lib.hid (fun t ht => HT.out t (hum t ht))
      clear ho3 hg3 hum
      go_wp2_with fail
      go_ret
      exact ⟨us, _, _, rfl, by omega, HU.out, HO3.out, HB3.out⟩
end Go.Proofs.YtlbcfmhpkcpmaaaGreatDoor
