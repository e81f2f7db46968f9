import Derived.Test.YtbiadennhnokhaaGreatDoorZ28
import Derived.Test.YtbiadennhnokhaaGreatDoorZ15
import Derived.DeepKeys4
/- hierarchy: are the keys of scopes, of variables, different. -/
namespace Go.Proofs.YtbiadennhnokhaaGreatDoor
open Go.RowKit Go.WideMaps
set_option linter.unusedSimpArgs false

theorem keys_laid : laidOutB Tryz.prog = true := by kernel_rfl
theorem child_law : KeyLaw Tryz.prog 241 := deep_law_laid keys_laid (m := 3) (by omega) (of_decide_eq_true (by kernel_rfl)) (by kernel_rfl) (by kernel_rfl)
theorem entry_law : KeyLaw Tryz.prog 245 := deep_law_laid keys_laid (m := 3) (by omega) (of_decide_eq_true (by kernel_rfl)) (by kernel_rfl) (by kernel_rfl)
theorem keys_deep : ∃ m, Tryz.prog.types.size + 1 = m + 2 := ⟨_, (by kernel_rfl : Tryz.prog.types.size + 1 = (Tryz.prog.types.size - 1) + 2)⟩
theorem child_cells : Tryz.prog.cellsOf 241 = 2 := by kernel_rfl
theorem entry_cells : Tryz.prog.cellsOf 245 = 5 := by kernel_rfl
theorem child_key : Tryz.prog.keyType 241 = true := by kernel_rfl
theorem entry_key : Tryz.prog.keyType 245 = true := by kernel_rfl
def childV (x : ScK) : Value := .agg #[.int .i64 x.1, .string (bsB x.2)]
def entryV (x : VrK) : Value := .agg #[.int .i64 x.1, .string (bsB x.2.1), .bool x.2.2.1, .int .i64 x.2.2.2.1, .int .i64 x.2.2.2.2]
theorem int_cells : Tryz.prog.cellsOf 3 = 1 := by kernel_rfl
theorem str_cells : Tryz.prog.cellsOf 9 = 1 := by kernel_rfl
theorem bool_cells : Tryz.prog.cellsOf 4 = 1 := by kernel_rfl
theorem child_of (x : ScK) (h1 : (Lit.int .i64 x.1).wf = true) (h2 : x.2.length ≤ maxLen) : keyOf Tryz.prog 241 (childV x) = some (.string (keyBytes [.int .i64 x.1, .string x.2])) := by
  obtain ⟨m, hm⟩ := keys_deep
  unfold keyOf
  rw [Tryz.underlying241]
  simp only
  rw [if_pos (by rw [child_key, Bool.true_and]; simp [Value.formed, childV, Tryz.underlying241, child_cells]), hm]
  have hs : (bsB x.2).size ≤ maxLen := by rw [bsB_size]; exact h2
  simp [Program.keyLits, Tryz.underlying241, Tryz.underlying3, Tryz.underlying9, child_cells, int_cells, str_cells, childV, Value.cells, h1, hs, bsB_list]
theorem entry_of (x : VrK) (h1 : (Lit.int .i64 x.1).wf = true) (h2 : x.2.1.length ≤ maxLen) (h3 : (Lit.int .i64 x.2.2.2.1).wf = true) (h4 : (Lit.int .i64 x.2.2.2.2).wf = true) :
    keyOf Tryz.prog 245 (entryV x) = some (.string (keyBytes [.int .i64 x.1, .string x.2.1, .bool x.2.2.1, .int .i64 x.2.2.2.1, .int .i64 x.2.2.2.2])) := by
  obtain ⟨m, hm⟩ := keys_deep
  unfold keyOf
  rw [Tryz.underlying245]
  simp only
  rw [if_pos (by rw [entry_key, Bool.true_and]; simp [Value.formed, entryV, Tryz.underlying245, entry_cells]), hm]
  have hs : (bsB x.2.1).size ≤ maxLen := by rw [bsB_size]; exact h2
  simp [Program.keyLits, Tryz.underlying245, Tryz.underlying3, Tryz.underlying9, Tryz.underlying4, entry_cells, int_cells, str_cells, bool_cells, entryV, Value.cells, h1, h3, h4, hs, bsB_list]
def childEnc : KeyEnc Tryz.prog 241 ScK where
  vK := childV
  lK x := .string (keyBytes [.int .i64 x.1, .string x.2])
  dom x := (Lit.int .i64 x.1).wf = true ∧ x.2.length ≤ maxLen
  key _ _ := trivial
  of x hx := child_of x hx.1 hx.2
  inj x y hx hy h := by
    have := child_law.inj (child_of x hx.1 hx.2) (by rw [h]; exact child_of y hy.1 hy.2)
    unfold childV at this
    injection this with this
    simp at this
    obtain ⟨h1, h2⟩ := this
    refine Prod.ext h1 ?_
    have := congrArg (fun b => b.data.toList) h2
    simpa [bsB] using this
  law := Maps.Keyed.of_law child_law
def entryEnc : KeyEnc Tryz.prog 245 VrK where
  vK := entryV
  lK x := .string (keyBytes [.int .i64 x.1, .string x.2.1, .bool x.2.2.1, .int .i64 x.2.2.2.1, .int .i64 x.2.2.2.2])
  dom x := ((Lit.int .i64 x.1).wf = true ∧ x.2.1.length ≤ maxLen) ∧ (Lit.int .i64 x.2.2.2.1).wf = true ∧ (Lit.int .i64 x.2.2.2.2).wf = true
  key _ _ := trivial
  of x hx := entry_of x hx.1.1 hx.1.2 hx.2.1 hx.2.2
  inj x y hx hy h := by
    have := entry_law.inj (entry_of x hx.1.1 hx.1.2 hx.2.1 hx.2.2) (by rw [h]; exact entry_of y hy.1.1 hy.1.2 hy.2.1 hy.2.2)
    obtain ⟨x1, x2, x3, x4, x5⟩ := x
    obtain ⟨y1, y2, y3, y4, y5⟩ := y
    unfold entryV at this
    injection this with this
    simp at this
    obtain ⟨h1, h2, h3, h4, h5⟩ := this
    have h2' := congrArg (fun b => b.data.toList) h2
    have h2' : x2 = y2 := by simpa [bsB] using h2'
    subst h1 h2' h3 h4 h5
    rfl
  law := Maps.Keyed.of_law entry_law
end Go.Proofs.YtbiadennhnokhaaGreatDoor
/- hierarchy: are the keys of scopes, of variables, different. -/
namespace Go.Proofs.YtbiadennhnokhaaGreatDoor
open Go.RowKit Go.WideMaps
set_option linter.unusedSimpArgs false

theorem zeroB (w : World) : (zeroValue 4).run Tryz.prog w = .ok (.bool false) w := by kernel_rfl
theorem hi_scKey (s : Sc) (w : World) : Calls Tryz.prog 215 #[scV s] w fun e w' => e = .returned (childV (scKey s)) ∧ Below w.heap.size w w' := by
  obtain ⟨nm, ty, pa⟩ := s
  go_enter Tryz.func215, Tryz.ntmps215
  go_wp2_with fail
  refine bodyPost_ret (v := childV (pa, nm)) (by simp [results, Tryz.results215, go_sem, childV]) rfl ⟨rfl, ((Below.refl _ _).alloc (Nat.le_refl _) _).alloc (by simp) _⟩
theorem hi_vrKey (x : Vr) (w : World) : Calls Tryz.prog 217 #[vrV x] w fun e w' => e = .returned (entryV (vrKey x)) ∧ Below w.heap.size w w' := by
  obtain ⟨nm, ty, sc, sg, rg, mb, lb⟩ := x
  go_enter Tryz.func217, Tryz.ntmps217
  go_wp2_with fail
  refine bodyPost_ret (v := entryV (sc, nm, rg, mb, lb)) (by simp [results, Tryz.results217, go_sem, entryV]) rfl ⟨rfl, ((Below.refl _ _).alloc (Nat.le_refl _) _).alloc (by simp) _⟩
open Classical in
noncomputable def seenF {κ : Type} (L : List κ) (x : κ) : Option Value := if x ∈ L then some (.bool true) else none
open Classical in
noncomputable def inB {κ : Type} (L : List κ) (x : κ) : Bool := decide (x ∈ L)
theorem seenF_snoc {κ : Type} [DecidableEq κ] (L : List κ) (x y : κ) : (if y = x then some (.bool true) else seenF L y) = seenF (L ++ [x]) y := by
  unfold seenF
  by_cases h : y = x
  · subst h; simp
  · rw [if_neg h]
    simp [h]
open Classical in
theorem inB_iff {κ : Type} {L : List κ} {x : κ} : inB L x = true ↔ x ∈ L := by
  unfold inB
  exact ⟨of_decide_eq_true, decide_eq_true⟩
theorem seenF_get {κ : Type} (L : List κ) (x : κ) : (seenF L x).getD (.bool false) = .bool (inB L x) := by
  unfold seenF inB
  split <;> simp [*]
theorem nodup_snoc {κ : Type} {L : List κ} {x : κ} : (L ++ [x]).Nodup ↔ L.Nodup ∧ x ∉ L := by
  rw [List.nodup_append]
  constructor
  · rintro ⟨h1, -, h3⟩
    exact ⟨h1, fun h => h3 x h x (by simp) rfl⟩
  · rintro ⟨h1, h2⟩
    exact ⟨h1, by simp, fun a ha b hb e => by rw [List.mem_singleton] at hb; subst hb e; exact h2 ha⟩
set_option maxHeartbeats 800000 in
set_option maxRecDepth 100000 in
theorem hi_uniq_scs (v : Value) (L : List Sc) (w : World) (hs : SlR w v L.length (scs L)) (hl : L.length ≤ 1000) (hd : ∀ x ∈ L, (Lit.int .i64 x.2.2).wf = true ∧ x.1.length ≤ maxLen) :
    Calls Tryz.prog 214 #[v, (.func (.func 215) #[] #[])] w fun e w' => e = .returned (.bool (uniq scKey L)) ∧ Below w.heap.size w w' := by
  obtain ⟨a, cap, rfl, -, -⟩ := hs.shape
  have HS := Lib.hid hs
  have HD := Lib.hid (show ∀ x ∈ L, (childEnc).dom (scKey x) from hd)
  have HM0 := Lib.hid (KMap.made childEnc w)
  have HB0 := Lib.hid (show Below w.heap.size w (w.alloc (.map #[] 0)) from (Below.refl _ _).alloc (Nat.le_refl _) _)
  obtain ⟨R, hR⟩ : ∃ R, R = uniq scKey L := ⟨_, rfl⟩
  rw [← hR]
  have HR := Lib.hid hR
  clear hs hd hR
  have hmm := @run_makeMap Tryz.prog
  go_enter Tryz.func214, Tryz.ntmps214
  go_wp2_with fail
  clear hmm
  go_loopw [11] (fun i wr => ∃ k : Nat, k ≤ L.length ∧ i = .int .i64 k ∧ ((L.take k).map scKey).Nodup ∧ KMap childEnc wr w.heap.size k (seenF ((L.take k).map scKey)) ∧ Below w.heap.size w wr) (fun i _ => L.length - (intOf i).toNat)
  case atStart => exact ⟨0, Nat.zero_le _, rfl, by simp, HM0.out, HB0.out⟩
  case round =>
    obtain ⟨k, hk, rfl, hnd, hm, hb⟩ := hrel
    have HND := Lib.hid hnd
    have HM := Lib.hid hm
    have HB := Lib.hid hb
    clear hnd hm hb
    by_cases hlt : k < L.length
    · obtain ⟨b, o, rfl, hcell⟩ := (HS.out.below HB.out).scs hlt
      have HTK := Lib.hid (show (L.take (k + 1)).map scKey = (L.take k).map scKey ++ [scKey L[k]] by rw [List.take_succ_eq_append_getElem hlt, List.map_append]; rfl)
      have HDK := Lib.hid (HD.out L[k] (List.getElem_mem hlt))
      have HNO := Lib.hid (fun (hin : scKey L[k] ∈ (L.take k).map scKey) => (show R = false by
        rw [HR.out, ← Bool.not_eq_true, uniq_iff]
        intro hall
        rw [← List.take_append_drop (k + 1) L, List.map_append, HTK.out, List.nodup_append] at hall
        exact (nodup_snoc.1 hall.1).2 hin))
      have HKY := Lib.hid (fun W => hi_scKey L[k] W)
      generalize hxk : L[k] = x at *
      clear hxk
      generalize hseen : (L.take k).map scKey = seen at *
      clear hseen
      obtain ⟨kx, hkx⟩ : ∃ kx, scKey x = kx := ⟨_, rfl⟩
      have HKV := Lib.hid (show ∀ W, Calls Tryz.prog 215 #[scV x] W fun e w' => e = .returned (childV kx) ∧ Below W.heap.size W w' by rw [← hkx]; exact HKY.out)
      rw [hkx] at HTK HDK HNO
      clear HKY hkx
      have HLK := Lib.hid (fun (W : World) (hW : Below wr.heap.size wr W) => (show (Instr.lookup 270 (.map (some w.heap.size)) (childV kx) false).run Tryz.prog W = .ok (.bool (inB seen kx)) W by
        have := (HM.out.below hW HM.out.lt).look1 (t := 270) Tryz.underlying270 (zeroB W) kx HDK.out
        rw [seenF_get] at this
        exact this))
      have HIN := Lib.hid (show ∀ b, inB seen kx = b → (b = true → kx ∈ seen) ∧ (b = false → kx ∉ seen) by
        rintro b rfl
        exact ⟨inB_iff.1, fun h hm => by rw [inB_iff.2 hm] at h; cases h⟩)
      have HMB := Lib.hid (fun (W : World) (hW : Below wr.heap.size wr W) => HM.out.below hW HM.out.lt)
      obtain ⟨nm, ty, pa⟩ := x
      have d0 : wr.cell? ⟨b, o + k * 3, none⟩ = some (.string (bsB nm)) := hcell 0 _ rfl
      have d1 : wr.cell? ⟨b, o + k * 3 + 1, none⟩ = some (.int .i64 ty) := hcell 1 _ rfl
      have d2 : wr.cell? ⟨b, o + k * 3 + 2, none⟩ = some (.int .i64 pa) := hcell 2 _ rfl
      clear hcell
      go_wp2_with fail
      refine (HKV.out _).mono ?_
      rintro e w1 ⟨rfl, hb1⟩
      have HX1 := Lib.hid ((OwnRow.fresh wr #[.string (bsB nm), .int .i64 ty, .int .i64 pa] 55).below hb1 (by simp))
      have hb2 := ext_alloc hb1
      have hlk := HLK.out _ hb2
      have HB2 := Lib.hid hb2
      obtain ⟨q0, q1⟩ := HIN.out _ rfl
      have QQ := Lib.hid (And.intro q0 q1)
      clear hb1 hb2 q0 q1
      cases hin : inB seen kx
      · rw [hin] at hlk QQ
        clear hin
        have z0 := HX1.out.cell (j := 0) rfl
        have z1 := HX1.out.cell (j := 1) rfl
        have z2 := HX1.out.cell (j := 2) rfl
        have HNI := Lib.hid (QQ.out.2 rfl)
        go_wp2_with fail
        refine (HKV.out _).mono ?_
        rintro e w2 ⟨rfl, hb3⟩
        have HB3 := Lib.hid (ext_trans HB2.out hb3)
        have HM3 := Lib.hid (HMB.out _ HB3.out)
        clear hb3 hlk
        go_wp2_with (refine wpList_putK _ rfl _ _ _ 270 rfl 4 Tryz.underlying270 w.heap.size k _ rfl HM3.out (by unfold maxLen; omega) kx (.bool true) rfl rfl HDK.out ?_; intro w3 hm3 hg3)
        have HM4 := Lib.hid (hm3.ext (fun s => seenF_snoc seen kx s))
        have HB4 := Lib.hid ((HB.out.trans (HB3.out.mono HB.out.size)).grown hg3 (by have := HB.out.size; have := HB3.out.size; omega) (fun j ej => by injection ej with ej; omega))
        clear hm3 hg3
        go_wp2_with fail
        go_roundw
        case rel => exact ⟨k + 1, hlt, by go_num, by rw [HTK.out]; exact nodup_snoc.2 ⟨HND.out, HNI.out⟩, by rw [HTK.out]; exact HM4.out, HB4.out⟩
        case measure => simp [intOf]; omega
      · rw [hin] at hlk QQ
        clear hin
        have HRF := Lib.hid (show R = false from HNO.out (QQ.out.1 rfl))
        go_wp2_with fail
        go_ret
        exact ⟨ret_bool HRF.out.symm, HB.out.trans (HB2.out.mono HB.out.size)⟩
    · obtain rfl : k = L.length := by omega
      have HRT := Lib.hid (show R = true by
        rw [HR.out, uniq_iff]
        have := HND.out
        rwa [List.take_of_length_le (Nat.le_refl _)] at this)
      clear hlt
      go_wp2_with fail
      go_ret
      exact ⟨ret_bool HRT.out.symm, HB.out⟩
set_option maxHeartbeats 800000 in
set_option maxRecDepth 100000 in
theorem hi_uniq_vrs (v : Value) (L : List Vr) (w : World) (hs : SlR w v L.length (vrs L)) (hl : L.length ≤ 1000) (hd : ∀ x ∈ L, ((Lit.int .i64 x.sc).wf = true ∧ x.nm.length ≤ maxLen) ∧ (Lit.int .i64 x.mb).wf = true ∧ (Lit.int .i64 x.lb).wf = true) :
    Calls Tryz.prog 216 #[v, (.func (.func 217) #[] #[])] w fun e w' => e = .returned (.bool (uniq vrKey L)) ∧ Below w.heap.size w w' := by
  obtain ⟨a, cap, rfl, -, -⟩ := hs.shape
  have HS := Lib.hid hs
  have HD := Lib.hid (show ∀ x ∈ L, (entryEnc).dom (vrKey x) from hd)
  have HM0 := Lib.hid (KMap.made entryEnc w)
  have HB0 := Lib.hid (show Below w.heap.size w (w.alloc (.map #[] 0)) from (Below.refl _ _).alloc (Nat.le_refl _) _)
  obtain ⟨R, hR⟩ : ∃ R, R = uniq vrKey L := ⟨_, rfl⟩
  rw [← hR]
  have HR := Lib.hid hR
  clear hs hd hR
  have hmm := @run_makeMap Tryz.prog
  go_enter Tryz.func216, Tryz.ntmps216
  go_wp2_with fail
  clear hmm
  go_loopw [11] (fun i wr => ∃ k : Nat, k ≤ L.length ∧ i = .int .i64 k ∧ ((L.take k).map vrKey).Nodup ∧ KMap entryEnc wr w.heap.size k (seenF ((L.take k).map vrKey)) ∧ Below w.heap.size w wr) (fun i _ => L.length - (intOf i).toNat)
  case atStart => exact ⟨0, Nat.zero_le _, rfl, by simp, HM0.out, HB0.out⟩
  case round =>
    obtain ⟨k, hk, rfl, hnd, hm, hb⟩ := hrel
    have HND := Lib.hid hnd
    have HM := Lib.hid hm
    have HB := Lib.hid hb
    clear hnd hm hb
    by_cases hlt : k < L.length
    · obtain ⟨b, o, rfl, hcell⟩ := (HS.out.below HB.out).vrs hlt
      have HTK := Lib.hid (show (L.take (k + 1)).map vrKey = (L.take k).map vrKey ++ [vrKey L[k]] by rw [List.take_succ_eq_append_getElem hlt, List.map_append]; rfl)
      have HDK := Lib.hid (HD.out L[k] (List.getElem_mem hlt))
      have HNO := Lib.hid (fun (hin : vrKey L[k] ∈ (L.take k).map vrKey) => (show R = false by
        rw [HR.out, ← Bool.not_eq_true, uniq_iff]
        intro hall
        rw [← List.take_append_drop (k + 1) L, List.map_append, HTK.out, List.nodup_append] at hall
        exact (nodup_snoc.1 hall.1).2 hin))
      have HKY := Lib.hid (fun W => hi_vrKey L[k] W)
      generalize hxk : L[k] = x at *
      clear hxk
      generalize hseen : (L.take k).map vrKey = seen at *
      clear hseen
      obtain ⟨kx, hkx⟩ : ∃ kx, vrKey x = kx := ⟨_, rfl⟩
      have HKV := Lib.hid (show ∀ W, Calls Tryz.prog 217 #[vrV x] W fun e w' => e = .returned (entryV kx) ∧ Below W.heap.size W w' by rw [← hkx]; exact HKY.out)
      rw [hkx] at HTK HDK HNO
      clear HKY hkx
      have HLK := Lib.hid (fun (W : World) (hW : Below wr.heap.size wr W) => (show (Instr.lookup 271 (.map (some w.heap.size)) (entryV kx) false).run Tryz.prog W = .ok (.bool (inB seen kx)) W by
        have := (HM.out.below hW HM.out.lt).look1 (t := 271) Tryz.underlying271 (zeroB W) kx HDK.out
        rw [seenF_get] at this
        exact this))
      have HIN := Lib.hid (show ∀ b, inB seen kx = b → (b = true → kx ∈ seen) ∧ (b = false → kx ∉ seen) by
        rintro b rfl
        exact ⟨inB_iff.1, fun h hm => by rw [inB_iff.2 hm] at h; cases h⟩)
      have HMB := Lib.hid (fun (W : World) (hW : Below wr.heap.size wr W) => HM.out.below hW HM.out.lt)
      obtain ⟨nm, ty, sc, sg, rg, mb, lb⟩ := x
      have d0 : wr.cell? ⟨b, o + k * 7, none⟩ = some (.string (bsB nm)) := hcell 0 _ rfl
      have d1 : wr.cell? ⟨b, o + k * 7 + 1, none⟩ = some (.int .i64 ty) := hcell 1 _ rfl
      have d2 : wr.cell? ⟨b, o + k * 7 + 2, none⟩ = some (.int .i64 sc) := hcell 2 _ rfl
      have d3 : wr.cell? ⟨b, o + k * 7 + 3, none⟩ = some (.int .i64 sg) := hcell 3 _ rfl
      have d4 : wr.cell? ⟨b, o + k * 7 + 4, none⟩ = some (.bool rg) := hcell 4 _ rfl
      have d5 : wr.cell? ⟨b, o + k * 7 + 5, none⟩ = some (.int .i64 mb) := hcell 5 _ rfl
      have d6 : wr.cell? ⟨b, o + k * 7 + 6, none⟩ = some (.int .i64 lb) := hcell 6 _ rfl
      clear hcell
      go_wp2_with fail
      refine (HKV.out _).mono ?_
      rintro e w1 ⟨rfl, hb1⟩
      have HX1 := Lib.hid ((OwnRow.fresh wr #[.string (bsB nm), .int .i64 ty, .int .i64 sc, .int .i64 sg, .bool rg, .int .i64 mb, .int .i64 lb] 42).below hb1 (by simp))
      have hb2 := ext_alloc hb1
      have hlk := HLK.out _ hb2
      have HB2 := Lib.hid hb2
      obtain ⟨q0, q1⟩ := HIN.out _ rfl
      have QQ := Lib.hid (And.intro q0 q1)
      clear hb1 hb2 q0 q1
      cases hin : inB seen kx
      · rw [hin] at hlk QQ
        clear hin
        have z0 := HX1.out.cell (j := 0) rfl
        have z1 := HX1.out.cell (j := 1) rfl
        have z2 := HX1.out.cell (j := 2) rfl
        have z3 := HX1.out.cell (j := 3) rfl
        have z4 := HX1.out.cell (j := 4) rfl
        have z5 := HX1.out.cell (j := 5) rfl
        have z6 := HX1.out.cell (j := 6) rfl
        have HNI := Lib.hid (QQ.out.2 rfl)
        go_wp2_with fail
        refine (HKV.out _).mono ?_
        rintro e w2 ⟨rfl, hb3⟩
        have HB3 := Lib.hid (ext_trans HB2.out hb3)
        have HM3 := Lib.hid (HMB.out _ HB3.out)
        clear hb3 hlk
        go_wp2_with (refine wpList_putK _ rfl _ _ _ 271 rfl 4 Tryz.underlying271 w.heap.size k _ rfl HM3.out (by unfold maxLen; omega) kx (.bool true) rfl rfl HDK.out ?_; intro w3 hm3 hg3)
        have HM4 := Lib.hid (hm3.ext (fun s => seenF_snoc seen kx s))
        have HB4 := Lib.hid ((HB.out.trans (HB3.out.mono HB.out.size)).grown hg3 (by have := HB.out.size; have := HB3.out.size; omega) (fun j ej => by injection ej with ej; omega))
        clear hm3 hg3
        go_wp2_with fail
        go_roundw
        case rel => exact ⟨k + 1, hlt, by go_num, by rw [HTK.out]; exact nodup_snoc.2 ⟨HND.out, HNI.out⟩, by rw [HTK.out]; exact HM4.out, HB4.out⟩
        case measure => simp [intOf]; omega
      · rw [hin] at hlk QQ
        clear hin
        have HRF := Lib.hid (show R = false from HNO.out (QQ.out.1 rfl))
        go_wp2_with fail
        go_ret
        exact ⟨ret_bool HRF.out.symm, HB.out.trans (HB2.out.mono HB.out.size)⟩
    · obtain rfl : k = L.length := by omega
      have HRT := Lib.hid (show R = true by
        rw [HR.out, uniq_iff]
        have := HND.out
        rwa [List.take_of_length_le (Nat.le_refl _)] at this)
      clear hlt
      go_wp2_with fail
      go_ret
      exact ⟨ret_bool HRT.out.symm, HB.out⟩
end Go.Proofs.YtbiadennhnokhaaGreatDoor
