import Derived.Test.YtimeilkelnljnaaGreatDoorSig9
import Derived.Test.YtimeilkelnljnaaGreatDoorSl3
import Derived.Sort.OwnSortedInts
namespace Go.Proofs.YtimeilkelnljnaaGreatDoor
open Go.RowKit Go.Sort

def ints (l : List Int) : List Value := l.map (Value.int .i64)
theorem int_info : (Tryz.prog.info? 3).map (fun i => (i.zero, i.size, i.bytes)) = some (some (.int .i64 0), 1, 8) := by kernel_rfl

theorem compact_mem (zs : List Int) : ∀ x ∈ Lib.compact zs, x ∈ zs := by
  intro x hx
  unfold Lib.compact Lib.compactUpTo at hx
  obtain ⟨j, hj, rfl⟩ := List.mem_map.1 hx
  have hj' := List.mem_range.1 (List.mem_filter.1 hj).1
  simp [hj']

theorem sort_own (base g cap : Nat) (zs : List Int) (w : World) (h : w.ownsRow base 3 1 (.slice (some ⟨g, 0, none⟩) zs.length cap) zs.length (ints zs)) (hl : zs.length ≤ 1000000) :
    Calls Tryz.prog 39 #[.slice (some ⟨g, 0, none⟩) zs.length cap] w fun e w' => e = .returned (.tuple #[]) ∧ (∃ ts : List Int, ts.length = zs.length ∧ (∀ x ∈ ts, x ∈ zs) ∧ w'.ownsRow base 3 1 (.slice (some ⟨g, 0, none⟩) zs.length cap) ts.length (ints ts)) ∧ w.grownBy w' (some g) := by
  rcases h.2 with ⟨h0, -⟩ | ⟨g', cap', cur, hv, hbase, hb, hn, hm, hsz, htk⟩
  · cases h0
  injection hv with e1 _ e3
  injection e1 with e1
  injection e1 with e1 _ _
  subst e1 e3
  have hH := holds_of_blockI (ss := zs) hb (by rw [Nat.mul_one] at htk; exact htk)
  refine (Tryz.slices_Sort_int g 0 cap zs w hH (Array.getElem?_eq_some_iff.1 hb).1 (by omega)).mono ?_
  rintro e w' ⟨rfl, n, os, rfl⟩
  have hlen : (zs.mergeSort fun x y => decide (x ≤ y)).length = zs.length := List.length_mergeSort _
  refine ⟨rfl, ⟨_, hlen, fun x hx => ?_, ?_⟩, grownBy_sortedI _⟩
  · exact (List.mergeSort_perm zs _).mem_iff.1 hx
  · rw [hlen]
    exact ownsRow_sortedI hlen hbase hb hn hm hsz

theorem compact_own (base g cap : Nat) (zs : List Int) (w : World) (h : w.ownsRow base 3 1 (.slice (some ⟨g, 0, none⟩) zs.length cap) zs.length (ints zs)) (hl : zs.length ≤ 1000000) :
    Calls Tryz.prog 30 #[.slice (some ⟨g, 0, none⟩) zs.length cap] w fun e w' => (∃ ts : List Int, e = .returned (.slice (some ⟨g, 0, none⟩) ts.length cap) ∧ ts.length ≤ zs.length ∧ (∀ x ∈ ts, x ∈ zs) ∧ w'.ownsRow base 3 1 (.slice (some ⟨g, 0, none⟩) ts.length cap) ts.length (ints ts)) ∧ w.grownBy w' (some g) := by
  rcases h.2 with ⟨h0, -⟩ | ⟨g', cap', cur, hv, hbase, hb, hn, hm, hsz, htk⟩
  · cases h0
  injection hv with e1 _ e3
  injection e1 with e1
  injection e1 with e1 _ _
  subst e1 e3
  have hH := holds_of_blockI (ss := zs) hb (by rw [Nat.mul_one] at htk; exact htk)
  refine (Tryz.slices_Compact_int g 0 cap zs w hH (by omega) hn).mono ?_
  rintro e w' ⟨rfl, n, rfl⟩
  have hcl := Lib.compact_length_le zs
  have hlen : (Lib.compact zs ++ List.replicate (zs.length - (Lib.compact zs).length) (0 : Int)).length = zs.length := by simp; omega
  have hg : ∀ W : World, grow W #[] = W := fun W => grow_empty W
  have hown := ownsRow_sortedI (n := n) (os := #[]) (ts := Lib.compact zs ++ List.replicate (zs.length - (Lib.compact zs).length) (0 : Int)) hlen hbase hb hn hm hsz
  rw [hg] at hown
  refine ⟨⟨_, rfl, hcl, compact_mem zs, ?_⟩, by have := grownBy_sortedI (w := w) (g := g) (n := n) (os := #[]) (Lib.compact zs ++ List.replicate (zs.length - (Lib.compact zs).length) (0 : Int)).toArray; rwa [hg] at this⟩
  rcases hown.2 with ⟨h0, -⟩ | ⟨g', cap', cur', hv, hbase', hb', hn', hm', hsz', htk'⟩
  · cases h0
  injection hv with e1 _ e3
  injection e1 with e1
  injection e1 with e1 _ _
  subst e1 e3
  refine ⟨by simp [ints], .inr ⟨g, cap, cur', rfl, hbase, hb', by omega, hm', hsz', ?_⟩⟩
  have := congrArg (List.take (Lib.compact zs).length) htk'
  rw [List.take_take, Nat.mul_one, Nat.min_eq_left hcl] at this
  rw [Nat.mul_one, this, List.map_append, List.take_left' (by simp)]
  rfl

/-- lists of changes, a slice each -/
def Lists (w : World) (vs : List (Value × List Ch)) : Prop := ∀ x ∈ vs, SlR w x.1 x.2.length (chs x.2) ∧ x.2.length ≤ 5000 ∧ ∀ c ∈ x.2, 0 ≤ c.1 ∧ c.1 ≤ 1099511627776
theorem Lists.below {w w' : World} {vs : List (Value × List Ch)} (h : Lists w vs) (hb : Below w.heap.size w w') : Lists w' vs := fun x hx => ⟨(h x hx).1.below hb, (h x hx).2⟩
def TimesPost (w : World) (e : Ending) (w' : World) : Prop := ∃ (ts : List Int) (a : Option Addr) (c : Nat), e = .returned (.slice a ts.length c) ∧ ts.length ≤ 40000 ∧ (∀ t ∈ ts, 0 ≤ t ∧ t ≤ 1099511627776) ∧ w'.ownsRow w.heap.size 3 1 (.slice a ts.length c) ts.length (ints ts) ∧ Below w.heap.size w w'

theorem own_addr {w : World} {base e n : Nat} {v : Value} {xs : List Value} (h : w.ownsRow base e 1 v n xs) (hn : 0 < n) : ∃ g cap, v = .slice (some ⟨g, 0, none⟩) n cap := by
  rcases h.2 with ⟨-, h0⟩ | ⟨g, cap, cur, hv, -⟩
  · have := h.1; rw [h0] at this; simp at this; omega
  · exact ⟨g, cap, hv⟩

end Go.Proofs.YtimeilkelnljnaaGreatDoor
