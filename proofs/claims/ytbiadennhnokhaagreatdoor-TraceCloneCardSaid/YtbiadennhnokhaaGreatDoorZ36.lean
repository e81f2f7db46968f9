import Derived.Test.YtbiadennhnokhaaGreatDoorZ35
import Derived.Test.YtbiadennhnokhaaGreatDoorZ31
/- law23.example. -/
namespace Go.Proofs.YtbiadennhnokhaaGreatDoor
open Go.RowKit
set_option linter.unusedSimpArgs false

def exT : Tr := ⟨0, [], [], [], [], [⟨[97], 17, -1, 1, false, 0, 0⟩], [(9, 0, []), (0, 1, [(1, ⟨#[48]⟩), (4, ⟨#[49]⟩)])], [(3, 5)], 5⟩
theorem row_in {w X : World} {C : Array Value} {T : TypeId} {b n : Nat} {xs : List Value} (hb : Below (w.alloc (.cells C T)).heap.size (w.alloc (.cells C T)) X) (e : b = w.heap.size) (hx : xs = C.toList) (hn : n ≤ maxLen) : SlR X (.slice (some ⟨b, 0, none⟩) n n) n xs := by
  subst e hx
  have h := (OwnRow.fresh w C T).below hb (by simp)
  exact ⟨_, n, rfl, Nat.le_refl _, hn, fun h => by simp at h, fun _ => ⟨w.heap.size, 0, rfl, fun j u hj => by rw [Nat.zero_add]; exact h.cell hj⟩⟩
set_option maxHeartbeats 800000 in
set_option maxRecDepth 100000 in
theorem law_example (w : World) : Calls Tryz.prog 49 #[] w fun e w' => ∃ p, e = .returned (p.v exT) ∧ TrM w' exT p ∧ Below w.heap.size w w' := by
  go_enter Tryz.func49, Tryz.ntmps49
  go_wp2_with fail
  refine bodyPost_ret (v := .agg #[.int .i64 0, .string ⟨#[]⟩, .string ⟨#[]⟩, .string ⟨#[]⟩, .slice none 0 0, .slice (some ⟨w.heap.size + 1, 0, none⟩) 1 1, .slice (some ⟨w.heap.size + 1 + 1 + 1, 0, none⟩) 2 2, .slice (some ⟨w.heap.size + 1 + 1 + 1 + 1, 0, none⟩) 1 1, .int .i64 5]) (by simp [results, Tryz.results49, go_sem]) rfl ?_
  refine ⟨⟨.slice none 0 0, .slice (some ⟨w.heap.size + 1, 0, none⟩) 1 1, .slice (some ⟨w.heap.size + 1 + 1 + 1, 0, none⟩) 2 2, .slice (some ⟨w.heap.size + 1 + 1 + 1 + 1, 0, none⟩) 1 1, [((9, 0, []), .slice none 0 0), ((0, 1, [(1, ⟨#[48]⟩), (4, ⟨#[49]⟩)]), .slice (some ⟨w.heap.size + 1 + 1, 0, none⟩) 2 2)]⟩, rfl, ?_, ?_⟩
  · refine ⟨SlR.nil _, ?_, ⟨?_, ?_⟩, ?_, rfl⟩
    · exact row_in ((((Below.refl _ _).alloc (Nat.le_refl _) _).alloc (by simp) _).alloc (by simp) _) (by simp) rfl (by decide)
    · exact row_in ((Below.refl _ _).alloc (Nat.le_refl _) _) (by simp) rfl (by decide)
    · intro x hx
      rcases List.mem_cons.1 hx with rfl | hx
      · exact SlR.nil _
      · obtain rfl := List.mem_singleton.1 hx
        exact row_in (((Below.refl _ _).alloc (Nat.le_refl _) _).alloc (by simp) _) (by simp) rfl (by decide)
    · exact row_in (Below.refl _ _) (by simp) rfl (by decide)
  · exact (((((Below.refl _ _).alloc (Nat.le_refl _) _).alloc (by simp) _).alloc (by simp; omega) _).alloc (by simp; omega) _).alloc (by simp; omega) _
end Go.Proofs.YtbiadennhnokhaaGreatDoor
/- trace.Source. -/
namespace Go.Proofs.YtbiadennhnokhaaGreatDoor
open Go.RowKit
set_option linter.unusedSimpArgs false

/-- what a source shows -/
def srcT (t : Tr) : Tr := if validB t = true then t else { tr0 with en := -1 }
set_option maxHeartbeats 800000 in
set_option maxRecDepth 100000 in
theorem tr_Source (t : Tr) (p : TP) (w : World) (ht : TrM w t p) (hF : FB t) (hG : t.G.length ≤ 1000) (hg : Glob w) (hm : Glm w) (hw : ∀ x ∈ t.V, (Lit.int .i64 x.sg).wf = true) :
    Calls Tryz.prog 31 #[p.v t] w fun e W' => ∃ q, e = .returned (.iface 148 (q.v (srcT t))) ∧ TrM W' (srcT t) q ∧ Below w.heap.size w W' := by
  obtain ⟨a1, k1, e1, -, -⟩ := ht.s.shape
  obtain ⟨a2, k2, e2, -, -⟩ := ht.v.shape
  obtain ⟨a3, k3, e3, -, -⟩ := ht.g.s.shape
  obtain ⟨a4, k4, e4, -, -⟩ := ht.q.shape
  have hpv : p.v t = .agg #[.int .i64 t.sc, .string (bsB t.dt), .string (bsB t.vn), .string (bsB t.cm), .slice a1 t.S.length k1, .slice a2 t.V.length k2, .slice a3 p.M.length k3, .slice a4 t.P.length k4, .int .i64 t.en] := by unfold TP.v; rw [e1, e2, e3, e4]
  have hb1 : Below w.heap.size w (w.alloc (.cells #[.int .i64 t.sc, .string (bsB t.dt), .string (bsB t.vn), .string (bsB t.cm), .slice a1 t.S.length k1, .slice a2 t.V.length k2, .slice a3 p.M.length k3, .slice a4 t.P.length k4, .int .i64 t.en] 27)) := (Below.refl _ _).alloc (Nat.le_refl _) _
  have hv := tr_Valid t p _ (ht.below hb1) hF (hg.below hb1) (hm.below hb1) hw
  rw [hpv] at hv ⊢
  have HV := Lib.hid hv
  clear hv
  have hlt : w.heap.size < (w.alloc (.cells #[.int .i64 t.sc, .string (bsB t.dt), .string (bsB t.vn), .string (bsB t.cm), .slice a1 t.S.length k1, .slice a2 t.V.length k2, .slice a3 p.M.length k3, .slice a4 t.P.length k4, .int .i64 t.en] 27)).heap.size := by simp
  have HX := Lib.hid (OwnRow.fresh w #[.int .i64 t.sc, .string (bsB t.dt), .string (bsB t.vn), .string (bsB t.cm), .slice a1 t.S.length k1, .slice a2 t.V.length k2, .slice a3 p.M.length k3, .slice a4 t.P.length k4, .int .i64 t.en] 27)
  have HB1 := Lib.hid hb1
  have HT := Lib.hid ht
  have HPV := Lib.hid hpv
  have HFT := Lib.hid (show FitT t from ⟨hF.l.1, hF.l.2, hG, hF.p, fun s hs => (hF.g s hs).2⟩)
  clear ht hF hG hg hm hw hb1 hpv e1 e2 e3 e4
  cases hB : validB t with
  | true =>
    rw [hB] at HV
    have HS := Lib.hid (show srcT t = t by unfold srcT; rw [if_pos hB])
    rw [HS.out]
    clear hB
    go_enter Tryz.func31, Tryz.ntmps31
    go_wp2_with fail
    generalize w.alloc (.cells #[.int .i64 t.sc, .string (bsB t.dt), .string (bsB t.vn), .string (bsB t.cm), .slice a1 t.S.length k1, .slice a2 t.V.length k2, .slice a3 p.M.length k3, .slice a4 t.P.length k4, .int .i64 t.en] 27) = w1 at *
    refine HV.out.mono ?_
    rintro e w2 ⟨rfl, hb2⟩
    have HB2 := Lib.hid (HB1.out.trans (hb2.mono HB1.out.size))
    have HX2 := Lib.hid (HX.out.below hb2 hlt)
    have hcl := tr_Clone t p w2 (HT.out.below HB2.out) HFT.out
    rw [HPV.out] at hcl
    have HCL := Lib.hid hcl
    clear hb2 hcl
    have p0 := HX2.out.cell (j := 0) rfl
    have p1 := HX2.out.cell (j := 1) rfl
    have p2 := HX2.out.cell (j := 2) rfl
    have p3 := HX2.out.cell (j := 3) rfl
    have p4 := HX2.out.cell (j := 4) rfl
    have p5 := HX2.out.cell (j := 5) rfl
    have p6 := HX2.out.cell (j := 6) rfl
    have p7 := HX2.out.cell (j := 7) rfl
    have p8 := HX2.out.cell (j := 8) rfl
    go_wp2_with fail
    refine HCL.out.mono ?_
    rintro e w3 ⟨q, rfl, ho, hb3⟩
    have HO := Lib.hid ho.m0
    have HB3 := Lib.hid (HB2.out.trans (hb3.mono HB2.out.size))
    clear ho hb3
    unfold TP.v
    go_wp2_with fail
    go_ret
    exact ⟨q, rfl, HO.out, HB3.out⟩
  | false =>
    rw [hB] at HV
    have HS := Lib.hid (show srcT t = { tr0 with en := -1 } by unfold srcT; rw [if_neg (by rw [hB]; simp)])
    rw [HS.out]
    clear hB
    go_enter Tryz.func31, Tryz.ntmps31
    go_wp2_with fail
    refine HV.out.mono ?_
    rintro e w2 ⟨rfl, hb2⟩
    have HB2 := Lib.hid (HB1.out.trans (hb2.mono HB1.out.size))
    clear hb2
    go_wp2_with fail
    go_ret
    exact ⟨tp0, rfl, ⟨SlR.nil _, SlR.nil _, ⟨SlR.nil _, fun x hx => by cases hx⟩, SlR.nil _, rfl⟩, HB2.out⟩
end Go.Proofs.YtbiadennhnokhaaGreatDoor
/- Plain: the times of all changes, in increasing order, each once. -/
namespace Go.Proofs.YtbiadennhnokhaaGreatDoor

def insT : List Int → Int → List Int
  | [], n => [n]
  | x :: l, n => if n < x then n :: x :: l else if n = x then x :: l else x :: insT l n
theorem insT_mem {n y : Int} : ∀ {l : List Int}, y ∈ insT l n ↔ y = n ∨ y ∈ l
  | [] => by simp [insT]
  | x :: l => by
    unfold insT
    split
    · simp
    · split
      · rename_i h; subst h; simp
      · rw [List.mem_cons, insT_mem, List.mem_cons]
        constructor
        · rintro (h | h | h)
          · exact .inr (.inl h)
          · exact .inl h
          · exact .inr (.inr h)
        · rintro (h | h | h)
          · exact .inr (.inl h)
          · exact .inl h
          · exact .inr (.inr h)
theorem insT_inc {n : Int} : ∀ {l : List Int}, l.Pairwise (· < ·) → (insT l n).Pairwise (· < ·)
  | [], _ => by simp [insT]
  | x :: l, h => by
    rw [List.pairwise_cons] at h
    unfold insT
    split
    · rename_i hn
      rw [List.pairwise_cons, List.pairwise_cons]
      refine ⟨fun y hy => ?_, h⟩
      rcases List.mem_cons.1 hy with rfl | hy
      · exact hn
      · have := h.1 y hy; omega
    · split
      · rw [List.pairwise_cons]; exact h
      · rw [List.pairwise_cons]
        refine ⟨fun y hy => ?_, insT_inc h.2⟩
        rcases insT_mem.1 hy with rfl | hy
        · omega
        · exact h.1 y hy
def allT (G : List Sg) : List Int := G.flatMap fun s => s.2.2.map Prod.fst
def timesL (G : List Sg) : List Int := (allT G).foldl insT []
theorem foldT_mem {y : Int} : ∀ {l acc : List Int}, y ∈ l.foldl insT acc ↔ y ∈ acc ∨ y ∈ l
  | [], acc => by simp
  | x :: l, acc => by
    rw [List.foldl_cons, foldT_mem, insT_mem, List.mem_cons]
    constructor
    · rintro ((h | h) | h)
      · exact .inr (.inl h)
      · exact .inl h
      · exact .inr (.inr h)
    · rintro (h | h | h)
      · exact .inl (.inr h)
      · exact .inl (.inl h)
      · exact .inr h
theorem foldT_inc : ∀ {l acc : List Int}, acc.Pairwise (· < ·) → (l.foldl insT acc).Pairwise (· < ·)
  | [], _, h => h
  | _ :: l, _, h => foldT_inc (l := l) (insT_inc h)
theorem timesL_mem {G : List Sg} {y : Int} : y ∈ timesL G ↔ ∃ s ∈ G, ∃ c ∈ s.2.2, c.1 = y := by
  unfold timesL allT
  rw [foldT_mem]
  simp
theorem timesL_inc (G : List Sg) : (timesL G).Pairwise (· < ·) := foldT_inc List.Pairwise.nil
theorem timesL_nodup (G : List Sg) : (timesL G).Nodup := (timesL_inc G).imp fun h => Int.ne_of_lt h
theorem timesL_sorted (G : List Sg) : (timesL G).mergeSort (fun x y => decide (x ≤ y)) = timesL G :=
  List.mergeSort_of_pairwise ((timesL_inc G).imp fun h => by simpa using Int.le_of_lt h)
end Go.Proofs.YtbiadennhnokhaaGreatDoor
/- Plain: a valid trace is bounded; so is one that is small. -/
namespace Go.Proofs.YtbiadennhnokhaaGreatDoor
open Go.RowKit
set_option linter.unusedSimpArgs false

theorem wf64 {n : Int} (h1 : -9223372036854775808 ≤ n) (h2 : n ≤ 9223372036854775807) : (Lit.int .i64 n).wf = true := by
  have e1 : IntKind.i64.min = -9223372036854775808 := by decide
  have e2 : IntKind.i64.max = 9223372036854775807 := by decide
  unfold Lit.wf
  rw [Bool.and_eq_true, decide_eq_true_iff, decide_eq_true_iff, e1, e2]
  omega
theorem svl_fit {k n : Int} {l : List Ch} (h : sv k n l = true) : Fit l ∧ l.length ≤ 4096 := by
  have h1 := (sv_iff.1 h).2.1
  exact ⟨⟨by omega, fun c hc => by have := vv_size (sv_mem h c hc).2.2; omega⟩, h1⟩
theorem words_len {s : Bs} (h : wordsOk s = true) : s.length ≤ 200 := by
  unfold wordsOk at h
  rw [Bool.or_eq_true, decide_eq_true_iff, Bool.and_eq_true, decide_eq_true_iff] at h
  rcases h with rfl | h
  · simp
  · exact h.2
theorem name_len {s : Bs} (h : nameOk s = true) : s.length ≤ 32 := by
  unfold nameOk at h
  simp only [Bool.and_eq_true, decide_eq_true_iff] at h
  exact h.1.1.2
/-- bounds that the walks of a trace ask for -/
structure VF (a : Tr) : Prop where
  fb : FB a
  ft : FitT a
  sg : ∀ x ∈ a.V, (Lit.int .i64 x.sg).wf = true
  tm : ∀ s ∈ a.G, ∀ c ∈ s.2.2, (Lit.int .i64 c.1).wf = true
  ct : countL a.G ≤ 4096
theorem valid_fit {a : Tr} (h : validF a) : VF a := by
  obtain ⟨P, en, hb⟩ := buildF_ok h
  obtain ⟨hTN, hT, hs, hmap, hx, h16, hct, -, hin⟩ := hb.sigs
  have hv := validF_of h
  have hc := chk_iff.1 hv.c
  have hP : a.P.length ≤ 16 := by rw [congrArg Tr.P hb.eq]; exact h16
  have ht : wordsOk a.dt = true ∧ wordsOk a.vn = true ∧ wordsOk a.cm = true := by
    have h1 := hb.tx
    unfold textsF at h1
    split at h1
    · cases h1
    split at h1
    · rename_i h2
      simpa [and_assoc] using h2
    · cases h1
  have hG : ∀ s ∈ a.G, Fit s.2.2 ∧ s.2.2.length ≤ 100000 := fun s hs' => by
    have := svl_fit (hs s hs')
    exact ⟨this.1, by omega⟩
  have hn := hc.n
  have hm := hc.m
  have hN := hv.n
  refine ⟨⟨⟨?_, ?_, ?_⟩, ⟨by omega, by omega⟩, ⟨fun s hs' => ?_, fun v hv' => ?_⟩, hG, by omega⟩, ⟨by omega, by omega, by omega, by omega, fun s hs' => (hG s hs').2⟩, fun x hx' => ?_, fun s hs' c hc' => ?_, hct⟩
  · have := words_len ht.1; omega
  · have := words_len ht.2.1; omega
  · have := words_len ht.2.2; omega
  · have := name_len (hc.ns s hs'); omega
  · have := name_len (hc.nv v hv'); omega
  · have h1 := hb.ft
    have h2 := (decl_fit hb.dc).1 x
    have h3 := (decl_fit hb.dc).2.1
    have h4 : (orderF a.S a.V).2.1 = a.V := by rw [hv.o]
    rw [h4] at h2
    have := h2 hx'
    exact wf64 (by omega) (by omega)
  · have := sv_mem (hs s hs') c hc'
    exact wf64 (by omega) (by omega)
theorem fewG_count {lim : Int} : ∀ (G : List Sg) (n : Int), n ≤ lim → fewG lim n G = true → n + (countL G : Int) ≤ lim
  | [], n, hn, _ => by simp [countL]; omega
  | x :: G, n, hn, h => by
    unfold fewG at h
    rw [Bool.and_eq_true, Bool.and_eq_true, Bool.not_eq_true', decide_eq_false_iff_not, Int.not_lt] at h
    have := fewG_count G _ h.1.1 h.2
    unfold countL at this ⊢
    rw [List.map_cons, List.sum_cons]
    push_cast
    omega
theorem few_fit {t : Tr} {lim : Int} (h0 : 0 ≤ lim) (hl : lim ≤ 1000) (h : fewT t lim = true) (hi1 : ∀ x ∈ t.V, (Lit.int .i64 x.sg).wf = true) (hi2 : ∀ s ∈ t.G, ∀ c ∈ s.2.2, (Lit.int .i64 c.1).wf = true) : VF t := by
  obtain ⟨hF, hG⟩ := fb_few hl h
  refine ⟨hF, ⟨hF.l.1, hF.l.2, by omega, hF.p, fun s hs => (hF.g s hs).2⟩, hi1, hi2, ?_⟩
  unfold fewT at h
  simp only [Bool.and_eq_true] at h
  have := fewG_count _ _ h0 h.2
  omega
end Go.Proofs.YtbiadennhnokhaaGreatDoor
