import Derived.Test.YtimeilkelnljnaaGreatDoorAl4
import Derived.Sort.LotA
import Derived.Test.YtimeilkelnljnaaGreatDoorAm2
import Derived.Test.YtimeilkelnljnaaGreatDoorStab
import Derived.Sort.OwnSortedInts
import Derived.Lib.OwnBridge
namespace Go.Proofs.YtimeilkelnljnaaGreatDoor
open Go.RowKit Go.Sort

/-! the stable insertion sort of a row of indices -/
section
variable {α : Type} [Inhabited α]
theorem inner_far (lt : α → α → Bool) (a : Nat) : ∀ (j : Nat) (d : Array α) (m : Nat), j < m → (insInner lt a j d)[m]! = d[m]!
  | 0, _, _, _ => rfl
  | j + 1, d, m, h => by
    unfold insInner
    split
    · rw [inner_far lt a j _ m (by omega), swp_other d _ _ _ (by omega) (by omega)]
    · rfl
theorem inner_size (lt : α → α → Bool) (a : Nat) : ∀ (j : Nat) (d : Array α), (insInner lt a j d).size = d.size
  | 0, _ => rfl
  | j + 1, d => by
    unfold insInner
    split
    · rw [inner_size lt a j, swp_size]
    · rfl
theorem inner_mem (lt : α → α → Bool) (a : Nat) : ∀ (j : Nat) (d : Array α), j < d.size → ∀ k, k ≤ j → ∃ k', k' ≤ j ∧ (insInner lt a j d)[k]! = d[k']!
  | 0, _, _, k, h => ⟨k, h, rfl⟩
  | j + 1, d, hd, k, h => by
    unfold insInner
    split
    · by_cases hk : k ≤ j
      · obtain ⟨k', h1, h2⟩ := inner_mem lt a j (swp d (j + 1) j) (by rw [swp_size]; omega) k hk
        rw [h2, swp_get d hd (by omega)]
        by_cases e : k' = j
        · exact ⟨j + 1, Nat.le_refl _, by rw [if_pos e]⟩
        · exact ⟨k', by omega, by rw [if_neg e, if_neg (by omega)]⟩
      · obtain rfl : k = j + 1 := by omega
        exact ⟨j, by omega, by rw [inner_far _ _ _ _ _ (by omega), swp_left d _ _ hd (by omega)]⟩
    · exact ⟨k, h, rfl⟩
theorem inner_eq {lt lt2 : α → α → Bool} {pos : α → Nat} (h : ∀ x y, pos y < pos x → lt x y = lt2 x y) (a : Nat) : ∀ (j : Nat) (d : Array α), j < d.size → (∀ k, k < j → pos d[k]! < pos d[j]!) → insInner lt a j d = insInner lt2 a j d
  | 0, _, _, _ => rfl
  | j + 1, d, hd, hp => by
    unfold insInner
    rw [h _ _ (hp j (by omega))]
    split
    · refine inner_eq h a j _ (by rw [swp_size]; omega) fun k hk => ?_
      rw [swp_other d _ _ _ (by omega) (by omega), swp_right d _ _ (by omega)]
      exact hp k (by omega)
    · rfl
theorem outer_eq {lt lt2 : α → α → Bool} {pos : α → Nat} (h : ∀ x y, pos y < pos x → lt x y = lt2 x y) (a b : Nat) :
    ∀ (g i : Nat) (d : Array α), b - i ≤ g → b ≤ d.size → (∀ k m, k < m → i ≤ m → m < b → pos d[k]! < pos d[m]!) → insOuter lt a b i d = insOuter lt2 a b i d := by
  intro g
  induction g with
  | zero =>
    intro i d hg _ _
    unfold insOuter
    rw [if_neg (by omega), if_neg (by omega)]
  | succ g ih =>
    intro i d hg hb hp
    unfold insOuter
    by_cases hib : i < b
    · rw [if_pos hib, if_pos hib, inner_eq h a i d (by omega) fun k hk => hp k i hk (Nat.le_refl _) hib]
      refine ih _ _ (by omega) (by rw [inner_size]; exact hb) fun k m hk hm hmb => ?_
      rw [inner_far _ _ _ _ _ (show i < m by omega)]
      by_cases hki : k ≤ i
      · obtain ⟨k', h1, h2⟩ := inner_mem lt2 a i d (by omega) k hki
        rw [h2]
        exact hp k' m (by omega) (by omega) hmb
      · rw [inner_far _ _ _ _ _ (by omega)]
        exact hp k m hk (by omega) hmb
    · rw [if_neg hib, if_neg hib]
end

/-- 'slices.SortStableFunc' by width on the row 0, 1, .. -/
def widthCmp (L : List Sg) (x y : Nat) : Int := if (sgAt L y).2.1 < (sgAt L x).2.1 then -1 else if (sgAt L x).2.1 < (sgAt L y).2.1 then 1 else 0
theorem wlt_of {L : List Sg} {x y : Nat} (h : y < x) : decide (widthCmp L x y < 0) = wlt L x y := by
  rw [Bool.eq_iff_iff, decide_eq_true_iff, wlt_iff]
  unfold widthCmp
  split
  · simp [*]
  · split <;> simp <;> omega
theorem swo_wlt (L : List Sg) (n : Nat) : SWO (fun x y : Fin n => wlt L x y) := by
  constructor <;> intros <;> simp_all [wlt_iff, ← Bool.not_eq_true] <;> omega
theorem id_at {n : Nat} [Inhabited (Fin n)] {k : Nat} (h : k < n) : ((Array.ofFn (n := n) id)[k]!).val = k := by
  rw [getElem!_pos _ _ (by simpa using h)]; simp
theorem sort_ord (L : List Sg) [Inhabited (Fin L.length)] :
    (insertionSort (fun x y : Fin L.length => decide (widthCmp L x y < 0)) (Array.ofFn id) 0 L.length).toList.map Fin.val = ordF L := by
  have e : insertionSort (fun x y : Fin L.length => decide (widthCmp L x y < 0)) (Array.ofFn id) 0 L.length = insertionSort (fun x y : Fin L.length => wlt L x y) (Array.ofFn id) 0 L.length := by
    refine outer_eq (pos := Fin.val) (fun x y h => wlt_of h) 0 L.length L.length 1 _ (by omega) (by simp) fun k m hk hm hmb => ?_
    rw [id_at (by omega), id_at hmb]
    exact hk
  rw [e]
  obtain ⟨hP, hS⟩ := insertionSort_holds (lt := fun x y : Fin L.length => wlt L x y) (swo_wlt L _) (Array.ofFn id) 0 L.length (by omega) (by simp)
  have hu := sorted_unique_holds (lt := fun x y : Fin L.length => wlt L x y) (swo_wlt L _) (fun x y h1 h2 => by
    apply Fin.ext
    rw [← Bool.not_eq_true, wlt_iff] at h1 h2
    omega) (Array.ofFn id) _ (by simpa using hP) (by simpa using hS)
  rw [hu, List.map_mergeSort (s := fun x y => !wlt L y x) (fun a _ b _ => rfl)]
  unfold ordF
  congr 1
  apply List.ext_getElem <;> simp
end Go.Proofs.YtimeilkelnljnaaGreatDoor

namespace Go.Proofs.YtimeilkelnljnaaGreatDoor
open Go.RowKit Go.Sort

/-! the sort of alias.Find -/
set_option maxHeartbeats 800000 in
set_option maxRecDepth 100000 in
theorem al_cmp (bx : Nat) (v : Value) (L : List (Sg × Value)) (x y : Nat) (w : World) (hb : w.cell? ⟨bx, 0, none⟩ = some v) (hs : Sigs w v L) (hx : x < L.length) (hy : y < L.length) :
    Calls Tryz.prog 36 #[.int .i64 x, .int .i64 y, .pointer (some ⟨bx, 0, none⟩)] w fun e w' => e = .returned (.int .i64 (widthCmp (L.map Prod.fst) x y)) ∧ ∃ q, w' = w.drewN q := by
  obtain ⟨a, cap, rfl, hc, hm⟩ := hs.s.shape
  obtain ⟨b, o, rfl, d0, d1, d2, hd⟩ := hs.at hx
  obtain ⟨b', o', e2, d3, d4, d5, hd'⟩ := hs.at hy
  simp only [Option.some.injEq, Addr.mk.injEq, and_true] at e2
  obtain ⟨rfl, rfl⟩ := e2
  have HW := Lib.hid (show widthCmp (L.map Prod.fst) x y = Lib.compareInt L[y].1.2.1 L[x].1.2.1 by unfold widthCmp Lib.compareInt; rw [sgAt_lt (by simpa using hy), sgAt_lt (by simpa using hx)]; simp)
  have hxz : (x : Int) < L.length := by omega
  have hyz : (y : Int) < L.length := by omega
  generalize L[x] = sx at d0 d1 d2 hd HW
  generalize L[y] = sy at d3 d4 d5 hd' HW
  clear hs hd hd' d0 d2 d3 d5
  go_enter Tryz.func36, Tryz.ntmps36
  go_wp2_with fail
  go_quiet (first | (go_at_call 37; refine Calls.quiet_of_same (Tryz.cmp_Compare_int _ _ _)))
  go_wp2_with fail
  go_ret
  exact ⟨by rw [HW.out]; rfl, _, rfl⟩

theorem enter_cmp (args : Array Value) (w : World) : (callFunc 36 args).run Tryz.prog w = .ok (.enter 36 args) w := by
  simp [callFunc, Tryz.func36, Tryz.f36, go_sem]
/-- the indices' row -/
abbrev encF (n : Nat) (x : Fin n) : Value := .int .i64 (x.val : Int)
theorem oneF (n : Nat) : Go.Proofs.OneCell (encF n) := fun _ => rfl
set_option maxHeartbeats 800000 in
set_option maxRecDepth 100000 in
theorem al_stable (cb : Array Value) (cf : Nat → Nat → Int) (n g cap : Nat) [Inhabited (Fin n)] (w : World) (hl : n < 20) (hH : Holds (encF n) w g 0 (Array.ofFn id))
    (hc : CmpReads Tryz.prog 36 cb (encF n) (fun x y => cf x.val y.val) g 0 n w) :
    Calls Tryz.prog 67 #[.slice (some ⟨g, 0, none⟩) n cap, .int .i64 n, .func (.func 36) #[] cb] w fun e w' =>
      e = .returned (.tuple #[]) ∧ ∃ m, w' = (putRow (encF n) w g 0 (insertionSort (fun x y : Fin n => decide (cf x.val y.val < 0)) (Array.ofFn id) 0 n)).drewN m := by
  have h1 := Tryz.insertionSortCmpFunc_one (encF n) (oneF n) (fun x y => cf x.val y.val) 36 cb g 0 cap 0 n (Array.ofFn id) w (fun args w => enter_cmp args w) (by simpa using hc) hH (by omega) (by simp) (by simp; omega)
  rw [Array.size_ofFn] at h1
  have H1 := Lib.hid h1
  clear h1 hc hH
  have hd : decide ((20 : Int) ≤ (n : Int)) = false := by rw [decide_eq_false_iff_not]; omega
  have hd2 : decide ((20 : Int) < (n : Int)) = false := by rw [decide_eq_false_iff_not]; omega
  go_enter Tryz.func67, Tryz.ntmps67
  go_wp2_with fail
  refine wp_loop_rounds 1 ?_
  rw [rounds_succ]
  go_wp2_with fail
  refine H1.out.mono ?_
  rintro e w1 ⟨rfl, m, rfl⟩
  go_wp2_with fail
  refine wp_loop_rounds 1 ?_
  rw [rounds_succ]
  go_wp2_with fail
  go_end0
  exact ⟨rfl, m, rfl⟩

set_option maxHeartbeats 800000 in
set_option maxRecDepth 100000 in
theorem al_sort (cb : Array Value) (cf : Nat → Nat → Int) (n g cap : Nat) [Inhabited (Fin n)] (w : World) (hl : n < 20) (hH : Holds (encF n) w g 0 (Array.ofFn id))
    (hc : CmpReads Tryz.prog 36 cb (encF n) (fun x y => cf x.val y.val) g 0 n w) :
    Calls Tryz.prog 35 #[.slice (some ⟨g, 0, none⟩) n cap, .func (.func 36) #[] cb] w fun e w' =>
      e = .returned (.tuple #[]) ∧ ∃ m, w' = (putRow (encF n) w g 0 (insertionSort (fun x y : Fin n => decide (cf x.val y.val < 0)) (Array.ofFn id) 0 n)).drewN m := by
  have H1 := Lib.hid (al_stable cb cf n g cap w hl hH hc)
  clear hc hH
  go_enter Tryz.func35, Tryz.ntmps35
  go_wp2_with fail
  refine H1.out.mono ?_
  rintro e w1 ⟨rfl, m, rfl⟩
  go_wp2_with fail
  go_end0
  exact ⟨rfl, m, rfl⟩

set_option maxHeartbeats 800000 in
set_option maxRecDepth 100000 in
theorem al_sort0 (a : Option Addr) (cap bx : Nat) (w : World) :
    Calls Tryz.prog 35 #[.slice a 0 cap, .func (.func 36) #[] #[.pointer (some ⟨bx, 0, none⟩)]] w fun e w' => e = .returned (.tuple #[]) ∧ Below w.heap.size w w' := by
  have h1 : Calls Tryz.prog 85 #[.slice a 0 cap, .int .i64 0, .int .i64 0, .func (.func 36) #[] #[.pointer (some ⟨bx, 0, none⟩)]] w fun e w' => e = .returned (.tuple #[]) ∧ Below w.heap.size w w' := by
    go_enter Tryz.func85, Tryz.ntmps85
    go_wp2_with fail
    refine wp_loop_rounds 1 ?_
    rw [rounds_succ]
    go_wp2_with fail
    go_end0
    exact ⟨rfl, Below.refl _ _⟩
  have h2 : Calls Tryz.prog 67 #[.slice a 0 cap, .int .i64 0, .func (.func 36) #[] #[.pointer (some ⟨bx, 0, none⟩)]] w fun e w' => e = .returned (.tuple #[]) ∧ Below w.heap.size w w' := by
    go_enter Tryz.func67, Tryz.ntmps67
    go_wp2_with fail
    refine wp_loop_rounds 1 ?_
    rw [rounds_succ]
    go_wp2_with fail
    refine h1.mono ?_
    rintro e w1 ⟨rfl, hb⟩
    go_wp2_with fail
    refine wp_loop_rounds 1 ?_
    rw [rounds_succ]
    go_wp2_with fail
    go_end0
    exact ⟨rfl, hb⟩
  go_enter Tryz.func35, Tryz.ntmps35
  go_wp2_with fail
  refine h2.mono ?_
  rintro e w1 ⟨rfl, hb⟩
  go_wp2_with fail
  go_end0
  exact ⟨rfl, hb⟩
end Go.Proofs.YtimeilkelnljnaaGreatDoor

namespace Go.Proofs.YtimeilkelnljnaaGreatDoor
open Go.RowKit Go.Sort

/-! what the sort of alias.Find asks of its closure -/
theorem below_sortW {α : Type} [Inhabited α] (enc : α → Value) {B : Nat} (w : World) (g m : Nat) (dk : Array α) (os : Array Obj) (hg : B ≤ g) (hB : B ≤ w.heap.size) : Below B w (sortWorld enc w g 0 m dk os) := by
  refine ⟨rfl, rfl, rfl, ?_, fun j hj => ?_⟩
  · show _ ≤ (w.heap.modify g _ ++ os).size
    rw [Array.size_append, Array.size_modify]
    omega
  · show (w.heap.modify g _ ++ os)[j]? = w.heap[j]?
    rw [Array.getElem?_append_left (by rw [Array.size_modify]; omega), Array.getElem?_modify, if_neg (by omega)]
theorem find_reads (w0 w : World) (v : Value) (L : List (Sg × Value)) (g : Nat) [Inhabited (Fin L.length)] (hs : Sigs w0 v L) (hw : Below w0.heap.size w0 w) (hb : w.cell? ⟨w0.heap.size, 0, none⟩ = some v) (hg : w0.heap.size + 1 ≤ g) :
    CmpReads Tryz.prog 36 #[.pointer (some ⟨w0.heap.size, 0, none⟩)] (encF L.length) (fun x y => widthCmp (L.map Prod.fst) x.val y.val) g 0 L.length w := by
  intro m os dk _ x y
  have h1 : Below (w0.heap.size + 1) w (sortWorld (encF L.length) w g 0 m dk os) := below_sortW _ w g m dk os hg (by have := cell_lt hb; omega)
  exact al_cmp w0.heap.size v L x.val y.val _ ((h1.cell (p := ⟨w0.heap.size, 0, none⟩) (by simp)).trans hb) (hs.below (hw.trans (h1.mono (by omega)))) x.isLt y.isLt
theorem sort_ordN {S : List Sg} {n : Nat} [Inhabited (Fin n)] (h : S.length = n) : (insertionSort (fun x y : Fin n => decide (widthCmp S x.val y.val < 0)) (Array.ofFn id) 0 n).toList.map Fin.val = ordF S := by
  subst h
  exact sort_ord S
theorem find_sort (w0 w : World) (v : Value) (L : List (Sg × Value)) (so : Value) (hs : Sigs w0 v L) (hw : Below w0.heap.size w0 w) (hb : w.cell? ⟨w0.heap.size, 0, none⟩ = some v) (hl : L.length < 20) (h0 : 0 < L.length)
    (hown : w.ownsRow (w0.heap.size + 1) 3 1 so L.length (nats (List.range L.length))) :
    Calls Tryz.prog 35 #[so, .func (.func 36) #[] #[.pointer (some ⟨w0.heap.size, 0, none⟩)]] w fun e w' =>
      e = .returned (.tuple #[]) ∧ w'.ownsRow (w0.heap.size + 1) 3 1 so L.length (nats (ordF (L.map Prod.fst))) ∧ Below (w0.heap.size + 1) w w' := by
  haveI : Inhabited (Fin L.length) := ⟨⟨0, h0⟩⟩
  have hn : nats (List.range L.length) = (List.ofFn (n := L.length) id).map (encF L.length) := by apply List.ext_getElem <;> simp [nats, encF]
  have hnil : so ≠ .slice none 0 0 := by
    rintro rfl
    rcases hown.2 with ⟨-, h⟩ | ⟨_, _, _, h, _⟩
    · omega
    · cases h
  rw [hn] at hown
  obtain ⟨g, cap, rfl, hbg, hgl, hncap, hcm, hlen, hH⟩ := Lib.holds_of_ownsRow hown hnil
  have hbs : w0.heap.size + 1 ≤ w.heap.size := by have := cell_lt hb; omega
  have hH' : Holds (encF L.length) w g 0 (Array.ofFn id) := by rw [List.toArray_ofFn] at hH; exact hH
  refine (al_sort _ (widthCmp (L.map Prod.fst)) L.length g cap w hl hH' (find_reads w0 w v L g hs hw hb hbg)).mono ?_
  rintro e w' ⟨rfl, m, rfl⟩
  generalize hX : insertionSort (fun x y : Fin L.length => decide (widthCmp (L.map Prod.fst) x.val y.val < 0)) (Array.ofFn id) 0 L.length = X
  have ho : X.toList.map Fin.val = ordF (L.map Prod.fst) := by rw [← hX]; exact sort_ordN (by simp)
  have hxl : X.toList.length = L.length := by
    have := congrArg List.length ho
    rw [List.length_map] at this
    rw [this, (ordF_perm _).length_eq]; simp
  refine ⟨rfl, ?_, ?_⟩
  · have h := Lib.ownsRow_putRow (q := m) (k := L.length) hown hxl (Nat.le_refl _)
    rw [List.take_of_length_le (by omega)] at h
    have e : X.toList.map (encF L.length) = nats (ordF (L.map Prod.fst)) := by rw [← ho]; simp [nats, Function.comp_def]
    rw [e] at h
    exact h
  · have h := below_sortW (encF L.length) (B := w0.heap.size + 1) w g m X #[] hbg hbs
    rw [Go.Proofs.sortWorld_none] at h
    exact h
end Go.Proofs.YtimeilkelnljnaaGreatDoor
