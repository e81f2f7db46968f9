import Derived.Test.YtbiadennhnokhaaGreatDoorZ36
import Derived.BigQuiet
import Derived.Test.YtbiadennhnokhaaGreatDoorShelfI
import Derived.Shelf.Slices.In.SortNone
/- The methods of a source of a trace. -/
namespace Go.Proofs.YtbiadennhnokhaaGreatDoor
open Go.RowKit
set_option linter.unusedSimpArgs false

/-- is it a signal, and a time in a range -/
def hasS (t : Tr) (n tm lo hi : Int) : Bool := decide (0 ≤ n) && decide (n < (t.G.length : Int)) && decide (lo ≤ tm) && decide (tm ≤ hi)
def srcVal (t : Tr) (n tm : Int) : ByteArray × Int := if hasS t n tm 0 t.en = true then atR (sgI t.G n).1 (sgI t.G n).2.1 (sgI t.G n).2.2 tm else (⟨#[]⟩, 2)
theorem TrM.sg {w : World} {t : Tr} {p : TP} (h : TrM w t p) {j : Nat} (hj : j < p.M.length) : sgI t.G (j : Int) = p.M[j].1 := by
  unfold sgI
  rw [← h.m]
  simp [List.getD, hj]
theorem hasS_iff {t : Tr} {n tm lo hi : Int} : hasS t n tm lo hi = true ↔ 0 ≤ n ∧ n < (t.G.length : Int) ∧ lo ≤ tm ∧ tm ≤ hi := by
  unfold hasS
  simp only [Bool.and_eq_true, decide_eq_true_iff, and_assoc]
/-- what a source's trace is -/
structure SrcB (t : Tr) : Prop where
  f : ∀ s ∈ t.G, Fit s.2.2
  e : -1 ≤ t.en ∧ t.en ≤ 1099511627776
abbrev boxT (t : Tr) (a1 a2 a3 a4 : Option Addr) (k1 k2 k3 k4 : Nat) : Array Value := #[.int .i64 t.sc, .string (bsB t.dt), .string (bsB t.vn), .string (bsB t.cm), .slice a1 t.S.length k1, .slice a2 t.V.length k2, .slice a3 t.G.length k3, .slice a4 t.P.length k4, .int .i64 t.en]
theorem TrM.open {w : World} {t : Tr} {p : TP} (h : TrM w t p) : ∃ a1 k1 a2 k2 a3 k3 a4 k4, p.v t = .agg (boxT t a1 a2 a3 a4 k1 k2 k3 k4) ∧ p.vs = .slice a1 t.S.length k1 ∧ p.vv = .slice a2 t.V.length k2 ∧ p.vg = .slice a3 p.M.length k3 ∧ p.vp = .slice a4 t.P.length k4 ∧ t.G.length ≤ k3 ∧ k3 ≤ maxLen := by
  obtain ⟨a1, k1, e1, -, -⟩ := h.s.shape
  obtain ⟨a2, k2, e2, -, -⟩ := h.v.shape
  obtain ⟨a3, k3, e3, h3, m3⟩ := h.g.s.shape
  obtain ⟨a4, k4, e4, -, -⟩ := h.q.shape
  refine ⟨a1, k1, a2, k2, a3, k3, a4, k4, ?_, e1, e2, e3, e4, by rw [← h.len]; exact h3, m3⟩
  unfold TP.v
  rw [e1, e2, e3, e4, h.len]
set_option maxHeartbeats 800000 in
set_option maxRecDepth 100000 in
theorem src_has (t : Tr) (p : TP) (n tm lo hi : Int) (w : World) (ht : TrM w t p) :
    Calls Tryz.prog 369 #[p.v t, .int .i64 n, .int .i64 tm, .int .i64 lo, .int .i64 hi] w fun e W' => e = .returned (.bool (hasS t n tm lo hi)) ∧ Below w.heap.size w W' := by
  obtain ⟨a1, k1, a2, k2, a3, k3, a4, k4, e, -⟩ := ht.open
  rw [e]
  have HB := Lib.hid (show Below w.heap.size w (w.alloc (.cells (boxT t a1 a2 a3 a4 k1 k2 k3 k4) 148)) from (Below.refl _ _).alloc (Nat.le_refl _) _)
  clear ht e
  by_cases h1 : 0 ≤ n
  · have b1 : decide (0 ≤ n) = true := by simpa using h1
    by_cases h2 : n < (t.G.length : Int)
    · have b2 : decide (n < (t.G.length : Int)) = true := by simpa using h2
      by_cases h3 : lo ≤ tm
      · have b3 : decide (lo ≤ tm) = true := by simpa using h3
        by_cases h4 : tm ≤ hi
        · have b4 : decide (tm ≤ hi) = true := by simpa using h4
          have HR := Lib.hid (show true = hasS t n tm lo hi by unfold hasS; rw [b1, b2, b3, b4]; rfl)
          go_enter Tryz.func369, Tryz.ntmps369
          go_wp2_with fail
          go_ret
          first | exact ⟨ret_bool HR.out, HB.out⟩ | exact ⟨rfl, HB.out⟩
        · have b4 : decide (tm ≤ hi) = false := by simpa using h4
          have HR := Lib.hid (show false = hasS t n tm lo hi by unfold hasS; rw [b1, b2, b3, b4]; rfl)
          go_enter Tryz.func369, Tryz.ntmps369
          go_wp2_with fail
          go_ret
          first | exact ⟨ret_bool HR.out, HB.out⟩ | exact ⟨rfl, HB.out⟩
      · have b3 : decide (lo ≤ tm) = false := by simpa using h3
        have HR := Lib.hid (show false = hasS t n tm lo hi by unfold hasS; rw [b1, b2, b3]; rfl)
        go_enter Tryz.func369, Tryz.ntmps369
        go_wp2_with fail
        go_ret
        first | exact ⟨ret_bool HR.out, HB.out⟩ | exact ⟨rfl, HB.out⟩
    · have b2 : decide (n < (t.G.length : Int)) = false := by simpa using h2
      have HR := Lib.hid (show false = hasS t n tm lo hi by unfold hasS; rw [b1, b2]; rfl)
      go_enter Tryz.func369, Tryz.ntmps369
      go_wp2_with fail
      go_ret
      first | exact ⟨ret_bool HR.out, HB.out⟩ | exact ⟨rfl, HB.out⟩
  · have b1 : decide (0 ≤ n) = false := by simpa using h1
    have HR := Lib.hid (show false = hasS t n tm lo hi by unfold hasS; rw [b1]; rfl)
    go_enter Tryz.func369, Tryz.ntmps369
    go_wp2_with fail
    go_ret
    first | exact ⟨ret_bool HR.out, HB.out⟩ | exact ⟨rfl, HB.out⟩
end Go.Proofs.YtbiadennhnokhaaGreatDoor
/- The methods of a source that read a signal. -/
namespace Go.Proofs.YtbiadennhnokhaaGreatDoor
open Go.RowKit
set_option linter.unusedSimpArgs false

set_option maxHeartbeats 1600000 in
set_option maxRecDepth 100000 in
theorem src_Value (t : Tr) (p : TP) (n tm : Int) (w : World) (ht : TrM w t p) (hs : SrcB t) (hg : Glob w) : Calls Tryz.prog 367 #[p.v t, .int .i64 n, .int .i64 tm] w fun e W' => e = .returned (.tuple #[.string (srcVal t n tm).1, .int .i64 (srcVal t n tm).2]) ∧ Below w.heap.size w W' := by
  obtain ⟨a1, k1, a2, k2, a3, k3, a4, k4, e, -, -, e3, -, hk3, hm3⟩ := ht.open
  unfold maxLen at hm3
  have hb1 : Below w.heap.size w (w.alloc (.cells (boxT t a1 a2 a3 a4 k1 k2 k3 k4) 148)) := (Below.refl _ _).alloc (Nat.le_refl _) _
  have hX := OwnRow.fresh w (boxT t a1 a2 a3 a4 k1 k2 k3 k4) 148
  have hT := ht.below hb1
  have hlt : w.heap.size < (w.alloc (.cells (boxT t a1 a2 a3 a4 k1 k2 k3 k4) 148)).heap.size := by simp
  have hH := src_has t p n tm 0 t.en _ hT
  rw [e] at hH ⊢
  by_cases hh : hasS t n tm 0 t.en = true
  · obtain ⟨h0, h1, -⟩ := hasS_iff.1 hh
    obtain ⟨j, rfl⟩ : ∃ j : Nat, n = (j : Int) := ⟨n.toNat, by omega⟩
    have hj : j < p.M.length := by rw [ht.len]; omega
    have HR := Lib.hid (show srcVal t (j : Int) tm = atR p.M[j].1.1 p.M[j].1.2.1 p.M[j].1.2.2 tm by unfold srcVal; rw [if_pos hh, ht.sg hj])
    have hj2 : j < t.G.length := by omega
    have HF := Lib.hid (show Fit p.M[j].1.2.2 from hs.f _ (by rw [← ht.m]; exact List.mem_map.2 ⟨_, List.getElem_mem hj, rfl⟩))
    rw [hh] at hH
    have hsg := hT.g
    rw [e3] at hsg
    have HSG := Lib.hid hsg
    have HB1 := Lib.hid hb1
    have HX := Lib.hid hX
    have HH := Lib.hid hH
    have HG := Lib.hid hg
    clear ht hT hX hb1 hh h0 h1 e e3 hH hsg hg hs
    obtain ⟨R, hR⟩ : ∃ R, R = srcVal t (j : Int) tm := ⟨_, rfl⟩
    rw [← hR] at HR ⊢
    clear hR
    go_enter Tryz.func367, Tryz.ntmps367
    go_wp2_with fail
    generalize w.alloc (.cells (boxT t a1 a2 a3 a4 k1 k2 k3 k4) 148) = w1 at *
    refine HH.out.mono ?_
    rintro e w2 ⟨rfl, hb2⟩
    have HB2 := Lib.hid (HB1.out.trans (hb2.mono HB1.out.size))
    have hX2 := HX.out.below hb2 hlt
    obtain ⟨b, o, rfl, d0, d1, d2, hd⟩ := (HSG.out.below hb2).at hj
    have p0 := hX2.cell (j := 0) rfl
    have p1 := hX2.cell (j := 1) rfl
    have p2 := hX2.cell (j := 2) rfl
    have p3 := hX2.cell (j := 3) rfl
    have p4 := hX2.cell (j := 4) rfl
    have p5 := hX2.cell (j := 5) rfl
    have p6 := hX2.cell (j := 6) rfl
    have p7 := hX2.cell (j := 7) rfl
    have p8 := hX2.cell (j := 8) rfl
    generalize p.M[j] = x at *
    obtain ⟨⟨k, m, l⟩, xv⟩ := x
    dsimp only at d0 d1 d2 hd HF HR
    obtain ⟨xa, xc, rfl, -, -⟩ := hd.shape
    have HC := Lib.hid (sig_At k m _ l tm w2 (HG.out.below HB2.out) hd HF.out)
    rw [← HR.out] at HC
    clear hb2 hX2 hd HG HF HR
    go_wp2_with fail
    refine HC.out.mono ?_
    rintro e w3 ⟨rfl, hb3⟩
    have HB3 := Lib.hid (HB2.out.trans (hb3.mono HB2.out.size))
    clear hb3 d0 d1 d2
    go_wp2_with fail
    go_ret2
    exact ⟨rfl, HB3.out⟩
  · have hf : hasS t n tm 0 t.en = false := by simpa using hh
    have HR := Lib.hid (show srcVal t n tm = (⟨#[]⟩, 2) by unfold srcVal; rw [if_neg hh])
    rw [hf] at hH
    rw [HR.out]
    have HB1 := Lib.hid hb1
    have HH := Lib.hid hH
    clear ht hT hX hb1 hh hf e e3 hH hg hs
    go_enter Tryz.func367, Tryz.ntmps367
    go_wp2_with fail
    refine HH.out.mono ?_
    rintro e w2 ⟨rfl, hb2⟩
    have HB2 := Lib.hid (HB1.out.trans (hb2.mono HB1.out.size))
    clear hb2
    go_wp2_with fail
    go_ret2
    exact ⟨rfl, HB2.out⟩
end Go.Proofs.YtbiadennhnokhaaGreatDoor
/- maps.Keys and slices.Sorted at sets of ints. -/
namespace Go.Proofs.YtbiadennhnokhaaGreatDoor
open Go.RowKit Go.Maps Go.Sort Go.Shelf

theorem ik_sorts (m : Nat) : AnyZI.SortsIn Tryz.prog Tryz.sortedA_ren Fence.wide m :=
  ⟨fun blk off cap ss W hH hblk hsz => callsIn_wide.2 (Tryz.slices_Sort_int blk off cap ss W hH hblk hsz),
   fun p cap W => callsIn_wide.2 (Any.slices_Sort_int_none Tryz.lays189 p cap W)⟩
theorem ik_Keys (mb : Option Nat) (W : World) : Calls Tryz.prog 78 #[.map mb] W fun e w' => e = .returned (.func (.func 140) #[] #[.pointer (some ⟨W.heap.size, 0, none⟩)]) ∧ w' = W.alloc (.cells #[.map mb] 118) :=
  (callsIn_wide (n := 6)).1 (AnyZI.keys_in Tryz.keysA Fence.wide 6 trivial rfl mb W)
set_option maxHeartbeats 1000000 in
theorem ik_Sorted {H : Type} (b nn : Nat) (D0 : DataW H) (R : Value → Option (DataW H × List MemPlace)) (w : World) (hown : w.ownsMap Tryz.prog 3 R b nn D0) (hmax : Maps.size D0 ≤ maxLen) (hbytes : Maps.size D0 * 8 ≤ 140737488355328) :
    Calls Tryz.prog 77 #[.func (.func 140) #[] #[.pointer (some ⟨w.heap.size, 0, none⟩)]] (w.alloc (.cells #[.map (some b)] 118)) fun e w' => ∃ (v : Value) (ss : List Int), e = .returned v ∧ ss.Perm (intKeys D0) ∧
      w'.ownsRow (w.heap.size + 1) 3 1 v ss.length ((ss.mergeSort (fun x y => decide (x ≤ y))).map encZ) ∧ Below (w.heap.size + 1) (w.alloc (.cells #[.map (some b)] 118)) w' := by
  refine (callsIn_wide (n := 6)).1 ?_
  have hbl := hown.lt
  have hseq : SeqGives Fence.wide 3 Tryz.prog 140 #[.pointer (some ⟨w.heap.size, 0, none⟩)] encZ (fun ss => ss.Perm (intKeys D0)) (Maps.size D0) (w.alloc (.cells #[.map (some b)] 118)) :=
    AnyZI.keys_gives (ρ := Tryz.keysA_ren) { Tryz.keysA with } Fence.wide _ trivial rfl (by omega) w.heap.size b nn D0 _ (by simp) (by simp) (by
      obtain ⟨es, clock, hb, Ft, hs, hD⟩ := hown
      exact ⟨es, clock, (Below.heap_alloc _ _ b hbl).trans hb, Ft, hs, hD⟩)
  have cS := AnyZI.sorted_in Tryz.sortedA Fence.wide 6 trivial trivial trivial trivial rfl (by omega) (ik_sorts _) (enters_of Tryz.func117 (by kernel_rfl) rfl) 140 #[.pointer (some ⟨w.heap.size, 0, none⟩)] trivial (enters_of Tryz.func140 (by kernel_rfl) rfl) _ _ hmax hbytes _ hseq
  refine cS.mono ?_
  rintro e w' ⟨v, ss, rfl, hS, hrow, -, hb⟩
  have e1 : (w.alloc (.cells #[.map (some b)] 118)).heap.size = w.heap.size + 1 := by simp
  rw [e1] at hrow hb
  exact ⟨v, ss, rfl, hS, hrow, hb⟩
/-- a set of numbers, sorted -/
theorem keys_perm {P : Program} {K : TypeId} {w : World} {b n : Nat} {R : Value → Option (DataW Value × List MemPlace)} {D : DataW Value} (hown : w.ownsMap P K R b n D) (hK : P.underlying K = some (.int .i64)) {L : List Int} (hn : L.Nodup) (hw : ∀ x ∈ L, (Lit.int .i64 x).wf = true) (hm : ∀ x, (Lit.int .i64 x).wf = true → (x ∈ L ↔ Maps.has D (.int .i64 x) = true)) : L.Perm (intKeys D) := by
  have hwf := intKeys_wf hown hK
  obtain ⟨es, hD, hpw, -⟩ := hown.entries (Maps.int_keyed hK)
  obtain ⟨es', hD', hko⟩ := hown.keysOf
  obtain rfl : es = es' := by rw [hD] at hD'; simpa using hD'
  subst hD
  have hk : ∀ p ∈ es, ∃ x, p.1 = Lit.int .i64 x := fun p hp => by
    obtain ⟨v, hv⟩ := hko p hp
    obtain ⟨x, -, hx, -⟩ := Maps.keyOf_i64 hK hv
    exact ⟨x, hx⟩
  refine perm_intKeys hpw hk hn fun x => ?_
  by_cases hx : (Lit.int .i64 x).wf = true
  · exact hm x hx
  · refine ⟨fun h => absurd (hw x h) hx, fun h => absurd ?_ hx⟩
    rw [Maps.has_eq, List.any_eq_true] at h
    obtain ⟨p, hp, hs⟩ := h
    obtain ⟨a, ha⟩ := hk p hp
    have hin : a ∈ intKeys (DataW.map es) := by
      show a ∈ es.map fun p => Go.intOf p.1
      exact List.mem_map.2 ⟨p, hp, by rw [ha]; rfl⟩
    rw [ha] at hs
    have : a = x := by simpa [Lit.sameKey] using hs
    rw [← this]
    exact hwf a hin
end Go.Proofs.YtbiadennhnokhaaGreatDoor
