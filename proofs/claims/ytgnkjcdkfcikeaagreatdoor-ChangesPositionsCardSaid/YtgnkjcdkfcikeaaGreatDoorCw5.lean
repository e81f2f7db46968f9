import Derived.Test.YtgnkjcdkfcikeaaGreatDoorCw4
import Derived.Maps.AppendAt
import Derived.Laws.BytesArg
import Derived.Laws.BytesString
import Derived.Deep.AppendLies
import Derived.Deep.RegionLaw
namespace Go.Proofs.YtgnkjcdkfcikeaaGreatDoor
open Go.RowKit

/-! quote.Unquote, quote.Quote -/
def szStr : Value → Nat
  | .string s => s.size
  | _ => 0
theorem own_later6 {W W' : World} {B e size n : Nat} {v : Value} {xs : List Value} (h : W.ownsRow B e size v n xs) (hb : RowKit.Below W.heap.size W W') : W'.ownsRow B e size v n xs :=
  h.kept (row := none) ⟨hb.os, hb.tape, hb.output, hb.size, fun i hi _ => hb.block i hi⟩ (by cases v.ownBlock <;> simp)
theorem conv_own (w : World) (base n : Nat) (o : Bs) (v : Value) (h : w.ownsRow base 5 1 v n (bys o)) (hn : n = o.length) :
    (convert 66 9 v).run Tryz.prog w = .ok (.string (bsB o)) w := by
  subst hn
  have hs := SlR.of_own h
  obtain ⟨a, cap, rfl, hc, hm, hz, hcs⟩ := hs
  cases o with
  | nil =>
    have h0 := run_convert_bytes_string w 66 9 5 a 0 cap Tryz.underlying66 Tryz.underlying5 Tryz.underlying9
    refine h0.trans ?_
    cases a <;> simp [Conv.bytesToString, loadCells] <;> rfl
  | cons c t =>
    obtain ⟨b, i, rfl, hcell⟩ := hcs (by simp)
    exact conv_bys Tryz.prog w 66 9 5 b i _ (c :: t) Tryz.underlying66 Tryz.underlying5 Tryz.underlying9 hcell
theorem unq_step {s t r o : Bs} {c : UInt8} (h : unqL s = (unqL t).map (o ++ ·)) (ht : t ≠ []) (hf : unqF t = some (c, r)) : unqL s = (unqL r).map ((o ++ [c]) ++ ·) := by
  rw [h, unqL_some ht hf, Option.map_map]
  congr 1
  funext x
  simp
theorem unq_out {s t o : Bs} (h : unqL s = (unqL t).map (o ++ ·)) (ht : t ≠ []) (hf : unqF t = none) : unqR s = ([], 3) := by
  unfold unqR
  rw [h, unqL_none ht hf]
  rfl
theorem unq_end {s o : Bs} (h : unqL s = (unqL []).map (o ++ ·)) : unqR s = if 64 < o.length then ([], 9) else (o, 0) := by
  unfold unqR
  rw [h, unqL_nil]
  simp

set_option linter.unusedSimpArgs false in
set_option maxHeartbeats 1600000 in
set_option maxRecDepth 100000 in
theorem quo_Unquote (s : ByteArray) (w : World) (hm : s.size ≤ 140737488351232) : Calls Tryz.prog 78 #[.string s] w fun e w' => e = .returned (.tuple #[.string (bsB (unqR s.data.toList).1), .int .i64 (unqR s.data.toList).2]) ∧ Below w.heap.size w w' := by
  obtain ⟨i0, hi, iz0, iz1, iz2⟩ := info_parts (P := Tryz.prog) uint8_info
  go_enter Tryz.func78, Tryz.ntmps78
  go_wp2_with fail
  go_loopw [0, 4] (fun v o wr => ∃ (t u : Bs), v = .string (bsB t) ∧ u.length + t.length ≤ s.size ∧ unqL s.data.toList = (unqL t).map (u ++ ·) ∧ wr.ownsRow w.heap.size 5 1 o u.length (bys u) ∧ Below w.heap.size w wr) (fun v _ _ => szStr v)
  case atStart => exact ⟨s.data.toList, [], by rw [bsB_of], by simp, by simp, World.ownsRow_nil _ _ _ _, Below.refl _ _⟩
  case round =>
    obtain ⟨t, u, rfl, hlen, heq, hown, hb⟩ := hrel
    obtain ⟨ao, co, rfl, -, -⟩ := (SlR.of_own hown).shape
    have HO := Lib.hid hown
    have HB := Lib.hid hb
    have HQ := Lib.hid heq
    have HLEN := Lib.hid hlen
    clear hown hb heq hlen
    cases t with
    | nil =>
      have HR := Lib.hid (unq_end HQ.out)
      have HCV := conv_own _ _ _ _ _ HO.out rfl
      have hE0 : (bsB []).toList.isEmpty = true := by rw [ByteArray.toList_eq]; rfl
      by_cases h64 : 64 < u.length
      · have hd1 : decide ((64 : Int) < (u.length : Int)) = true := by rw [decide_eq_true_iff]; omega
        have HR2 := Lib.hid (HR.out.trans (if_pos h64))
        clear h64
        go_wp2_with fail
        refine bodyPost_ret (v := .tuple #[.string ⟨#[]⟩, .int .i64 9]) (by simp [results, Tryz.results78, go_sem]) rfl ?_
        rw [HR2.out]
        exact ⟨rfl, HB.out⟩
      · have hd1 : decide ((64 : Int) < (u.length : Int)) = false := by rw [decide_eq_false_iff_not]; omega
        have HR2 := Lib.hid (HR.out.trans (if_neg h64))
        clear h64
        go_wp2_with fail
        refine bodyPost_ret (v := .tuple #[.string (bsB u), .int .i64 0]) (by simp [results, Tryz.results78, go_sem]) rfl ?_
        rw [HR2.out]
        exact ⟨rfl, HB.out⟩
    | cons c r =>
      have HF := Lib.hid (fun W => quo_first (bsB (c :: r)) W c r (bsB_list _) (by unfold maxLen; rw [bsB_size]; have := HLEN.out; omega))
      have HNE := Lib.hid (show (c :: r) ≠ [] by simp)
      have hE := toList_ne (bsB (c :: r)) (by rw [bsB_size]; simp)
      have HSZ := Lib.hid (bsB_size (c :: r))
      have HL := Lib.hid (bsB_list (c :: r))
      generalize hx : bsB (c :: r) = x at HF hE HSZ HL ⊢
      clear hx
      go_wp2_with fail
      refine (HF.out _).mono ?_
      rintro e w2 ⟨⟨a, b, ok, rfl, hpo⟩, hb2⟩
      have HB2 := Lib.hid (ext_trans HB.out hb2)
      have HO2 := Lib.hid (own_later6 HO.out hb2)
      clear hb2
      rw [HL.out] at hpo
      cases hu : unqF (c :: r) with
      | none =>
        rw [hu] at hpo
        dsimp only at hpo
        subst hpo
        have HR := Lib.hid (unq_out HQ.out HNE.out hu)
        clear hu
        go_wp2_with fail
        refine bodyPost_ret (v := .tuple #[.string ⟨#[]⟩, .int .i64 3]) (by simp [results, Tryz.results78, go_sem]) rfl ?_
        rw [HR.out]
        exact ⟨rfl, HB2.out⟩
      | some p =>
        obtain ⟨d, r'⟩ := p
        rw [hu] at hpo
        dsimp only at hpo
        obtain ⟨rfl, rfl, rfl⟩ := hpo
        have HQ2 := Lib.hid (unq_step HQ.out HNE.out hu)
        have HLT := Lib.hid (unqF_lt hu)
        clear hu
        have HSZ2 := Lib.hid HB2.out.size
        have HC := Lib.hid (World.news_of_block (w := w2.alloc (.cells #[.int .u8 (d.toNat : Int)] 5)) (cs := #[.int .u8 (d.toNat : Int)]) (t := 5) (fr := (0, 0)) (by exact heap_alloc_new _ _))
        have HO3 := Lib.hid (own_later6 HO2.out ((Below.refl w2.heap.size w2).alloc (Nat.le_refl _) (.cells #[.int .u8 (d.toNat : Int)] 5)))
        have HB3 := Lib.hid (HB2.out.alloc HB2.out.size (.cells #[.int .u8 (d.toNat : Int)] 5))
        have hul : u.length ≤ 140737488351232 := by have := HLEN.out; omega
        clear hm
        go_wp2_with (at_builtin; refine wpList_append_own_at _ rfl _ _ 66 rfl w.heap.size 5 i0 (.int .u8 0) 1 1 Tryz.underlying66 hi iz0 iz1 iz2 rfl (by decide) _ _ _ rfl HO3.out ⟨w2.heap.size, 0, none⟩ 1 1 [.int .u8 (d.toNat : Int)] rfl rfl HC.out (by simp [Value.oneCell']) (by unfold maxLen; omega) (by omega) (by have := HSZ2.out; simp; omega) ?_)
        intro v8 w8 ho8 hg8 _ _
        have HO8 := Lib.hid (show w8.ownsRow w.heap.size 5 1 v8 (u ++ [d]).length (bys (u ++ [d])) by
          rw [List.length_append]
          have : bys (u ++ [d]) = bys u ++ [.int .u8 (d.toNat : Int)] := by simp [bys, byteVal]
          rw [this]
          exact ho8)
        have HB8 := Lib.hid (HB3.out.grown hg8 (by have := HSZ2.out; simp; omega) (fun q hq => (HO3.out.lt q hq).1))
        clear ho8 hg8
        go_wp2_with fail
        go_roundw
        case rel => exact ⟨r', u ++ [d], rfl, by have := HLEN.out; have := HLT.out; simp at *; omega, HQ2.out, HO8.out, HB8.out⟩
        case measure => have := HLT.out; have := HSZ.out; simp only [szStr, bsB_size]; omega

theorem quoL_snoc {s : ByteArray} {k : Nat} (h : k < s.size) : quoL (s.data.toList.take (k + 1)) = quoL (s.data.toList.take k) ++ quoC s[k] := by
  rw [List.take_succ_eq_append_getElem (by simpa using h)]
  unfold quoL
  rw [List.flatMap_append]
  simp
  rfl
theorem quoC_len (c : UInt8) : (quoC c).length ≤ 4 := by
  unfold quoC
  split
  · simp
  · split <;> simp
theorem quoL_len : ∀ l : Bs, (quoL l).length ≤ 4 * l.length
  | [] => by simp [quoL]
  | c :: t => by
    have h1 := quoL_len t
    have h2 := quoC_len c
    have : quoL (c :: t) = quoC c ++ quoL t := rfl
    rw [this, List.length_append, List.length_cons]
    omega
theorem quoC_92 : quoC 92 = [92, 92] := rfl
theorem quoC_prn {c : UInt8} (h1 : c ≠ 92) (h2 : 33 ≤ c.toNat) (h3 : c.toNat ≤ 126) : quoC c = [c] := by
  unfold quoC
  rw [if_neg h1, if_neg (by omega)]
theorem quoC_hex {c : UInt8} (h1 : c ≠ 92) (h2 : c.toNat < 33 ∨ 126 < c.toNat) : quoC c = [92, 120, hexd (c.toNat / 16), hexd (c.toNat % 16)] := by
  unfold quoC
  rw [if_neg h1, if_pos h2]
theorem hex_ch : ∀ d : Fin 16, hexS.data.toList[d.val]? = some (hexd d.val) := by decide
theorem hex_at (d : Nat) (hd : d < 16) (h : d < hexS.size) : hexS[d]'h = hexd d := (at_list (hex_ch ⟨d, hd⟩)).2
theorem and15_all : ∀ n : Fin 256, bits .and .u8 (n.val : Int) 15 = ((n.val % 16 : Nat) : Int) := by decide +kernel
theorem and15 (c : UInt8) : bits .and .u8 (c.toNat : Int) 15 = ((c.toNat % 16 : Nat) : Int) := and15_all ⟨c.toNat, c.toNat_lt⟩
theorem grown_row {w w' : World} {b : Nat} {xs : List Value} {row : Option Nat} (h : OwnRow w b xs) (hg : w.grownBy w' row) (hb : b < w.heap.size) (hne : ∀ k, row = some k → b < k) : OwnRow w' b xs :=
  h.grown hg hb (fun e => by have := hne b e.symm; omega)
set_option linter.unusedSimpArgs false in
set_option maxHeartbeats 1600000 in
set_option maxRecDepth 100000 in
theorem quo_Quote (s : ByteArray) (w : World) (hm : s.size ≤ 100000) : Calls Tryz.prog 79 #[.string s] w fun e w' => e = .returned (.string (bsB (quoL s.data.toList))) ∧ Below w.heap.size w w' := by
  obtain ⟨i0, hi, iz0, iz1, iz2⟩ := info_parts (P := Tryz.prog) uint8_info
  have hcv := run_bytes_of_string (P := Tryz.prog) w 9 66 5 s Tryz.underlying9 Tryz.underlying66 Tryz.underlying5
  have hown := bytesRow_own w.drew s (grownCap w s.size 0 5) 5 (bytesRow s (grownCap w s.size 0 5)).size (bytesRow_size _ _)
  have h9 := (Below.refl w.heap.size w).drew.alloc (Nat.le_refl _) (.cells (bytesRow s (grownCap w s.size 0 5)) 5 ((bytesRow s (grownCap w s.size 0 5)).size, (bytesRow s (grownCap w s.size 0 5)).size + 1))
  have hz9 : (w.drew.alloc (.cells (bytesRow s (grownCap w s.size 0 5)) 5 ((bytesRow s (grownCap w s.size 0 5)).size, (bytesRow s (grownCap w s.size 0 5)).size + 1))).heap.size = w.heap.size + 1 := by simp
  generalize grownCap w s.size 0 5 = cap9 at *
  generalize w.drew.alloc (.cells (bytesRow s cap9) 5 ((bytesRow s cap9).size, (bytesRow s cap9).size + 1)) = w9 at *
  have HOWN := Lib.hid hown
  have H9 := Lib.hid h9
  have HZ9 := Lib.hid hz9
  clear hown h9 hz9
  go_enter Tryz.func79, Tryz.ntmps79
  go_wp2_with fail
  clear hcv
  go_loopw [3, 9] (fun o i wr => ∃ k : Nat, k ≤ s.size ∧ w.heap.size + 1 ≤ wr.heap.size ∧ i = .int .i64 k ∧ wr.ownsRow (w.heap.size + 1) 5 1 o (quoL (s.data.toList.take k)).length (bys (quoL (s.data.toList.take k))) ∧ OwnRow wr w.heap.size (s.data.toList.map byteVal) ∧ Below w.heap.size w wr) (fun _ i _ => s.size - (intOf i).toNat)
  case atStart => exact ⟨0, Nat.zero_le _, by have := HZ9.out; omega, rfl, World.ownsRow_nil _ _ _ _, HOWN.out, H9.out⟩
  case round =>
    obtain ⟨k, hk, hz, rfl, ho, hr, hb⟩ := hrel
    obtain ⟨ao, co, rfl, -, -⟩ := (SlR.of_own ho).shape
    have HO := Lib.hid ho
    have HR := Lib.hid hr
    have HB := Lib.hid hb
    have HZ := Lib.hid hz
    clear ho hr hb hz
    by_cases hlt : k < s.size
    · have hcell : wr.cell? ⟨w.heap.size, k, none⟩ = some (.int .u8 s[k].toNat) := HR.out.cell (by
        rw [List.getElem?_map, List.getElem?_eq_getElem (by simpa using hlt)]; rfl)
      have HQ := Lib.hid (quoL_snoc hlt)
      have hul : (quoL (s.data.toList.take k)).length ≤ 400000 := by
        have := quoL_len (s.data.toList.take k)
        rw [List.length_take] at this
        omega
      generalize s[k] = c at hcell HQ
      generalize quoL (s.data.toList.take k) = u at HO HQ hul ⊢
      have hlt2 : (k : Int) < (s.size : Int) := by omega
      by_cases h92 : c = 92
      · subst h92
        rw [quoC_92] at HQ
        have HQ2 := Lib.hid HQ.out
        clear HQ
        have hsz2 : (⟨#[92, 92]⟩ : ByteArray).size = 2 := rfl
        go_wp2_with (at_builtin; (refine Lib.wpList_append_own_string _ rfl _ _ 66 9 rfl (w.heap.size + 1) 5 i0 Tryz.underlying66 Tryz.underlying9 hi iz0 iz1 iz2 _ _ _ rfl HO.out _ rfl (by unfold maxLen; omega) (by omega) HZ.out ?_))
        intro v8 w8 ho8 hg8 _
        have HO8 := Lib.hid (show w8.ownsRow (w.heap.size + 1) 5 1 v8 (quoL (s.data.toList.take (k + 1))).length (bys (quoL (s.data.toList.take (k + 1)))) by
          rw [HQ2.out, List.length_append]
          have : bys (u ++ ([92, 92] : Bs)) = bys u ++ bys ([92, 92] : Bs) := by simp [bys]
          rw [this]
          exact ho8)
        have HR8 := Lib.hid (grown_row HR.out hg8 (by have := HZ.out; simp; omega) (fun q hq => by have := (HO.out).lt q hq; omega))
        have HB8 := Lib.hid ((HB.out).grown hg8 (by have := HZ.out; simp; omega) (fun q hq => by have := (HO.out).lt q hq; omega))
        have HZ8 := Lib.hid (show w.heap.size + 1 ≤ w8.heap.size by have := hg8.size; have := HZ.out; simp at *; omega)
        clear ho8 hg8
        go_wp2_with fail
        go_roundw
        case rel => exact ⟨k + 1, by omega, HZ8.out, by go_num, HO8.out, HR8.out, HB8.out⟩
        case measure => simp [intOf]; omega
      · have hb3 : ((c.toNat : Int) == 92) = false := by
          rw [beq_eq_false_iff_ne]
          intro e
          exact h92 (UInt8.toNat_inj.1 (by have : (92 : UInt8).toNat = 92 := rfl; omega))
        by_cases hp : 33 ≤ c.toNat ∧ c.toNat ≤ 126
        · have HQ2 := Lib.hid (HQ.out.trans (congrArg (u ++ ·) (quoC_prn h92 hp.1 hp.2)))
          have hb1 : decide ((c.toNat : Int) < 33) = false := by rw [decide_eq_false_iff_not]; omega
          have hb2 : decide ((126 : Int) < (c.toNat : Int)) = false := by rw [decide_eq_false_iff_not]; omega
          clear hp HQ
          have HC := Lib.hid (World.news_of_block (w := wr.alloc (.cells #[.int .u8 (c.toNat : Int)] 5)) (cs := #[.int .u8 (c.toNat : Int)]) (t := 5) (fr := (0, 0)) (by exact heap_alloc_new _ _))
          have hal := (Below.refl wr.heap.size wr).alloc (Nat.le_refl _) (.cells #[.int .u8 (c.toNat : Int)] 5)
          have HO3 := Lib.hid (own_later6 HO.out hal)
          have HB3 := Lib.hid (ext_trans HB.out hal)
          have HR3 := Lib.hid (HR.out.alloc (by have := HZ.out; omega) (.cells #[.int .u8 (c.toNat : Int)] 5))
          clear hal
          go_wp2_with (at_builtin; refine wpList_append_own_at _ rfl _ _ 66 rfl (w.heap.size + 1) 5 i0 (.int .u8 0) 1 1 Tryz.underlying66 hi iz0 iz1 iz2 rfl (by decide) _ _ _ rfl HO3.out ⟨wr.heap.size, 0, none⟩ 1 1 [.int .u8 (c.toNat : Int)] rfl rfl HC.out (by simp [Value.oneCell']) (by unfold maxLen; omega) (by omega) (by have := HZ.out; simp; omega) ?_)
          intro v8 w8 ho8 hg8 _ _
          have HO8 := Lib.hid (show w8.ownsRow (w.heap.size + 1) 5 1 v8 (quoL (s.data.toList.take (k + 1))).length (bys (quoL (s.data.toList.take (k + 1)))) by
            rw [HQ2.out, List.length_append]
            have : bys (u ++ ([c] : Bs)) = bys u ++ bys ([c] : Bs) := by simp [bys]
            rw [this]
            exact ho8)
          have HR8 := Lib.hid (grown_row HR3.out hg8 (by have := HZ.out; simp; omega) (fun q hq => by have := (HO3.out).lt q hq; omega))
          have HB8 := Lib.hid ((HB3.out).grown hg8 (by have := HZ.out; simp; omega) (fun q hq => by have := (HO3.out).lt q hq; omega))
          have HZ8 := Lib.hid (show w.heap.size + 1 ≤ w8.heap.size by have := hg8.size; have := HZ.out; simp at *; omega)
          clear ho8 hg8
          go_wp2_with fail
          go_roundw
          case rel => exact ⟨k + 1, by omega, HZ8.out, by go_num, HO8.out, HR8.out, HB8.out⟩
          case measure => simp [intOf]; omega
        · have hp2 : c.toNat < 33 ∨ 126 < c.toNat := by omega
          have HQ2 := Lib.hid (HQ.out.trans (congrArg (u ++ ·) (quoC_hex h92 hp2)))
          clear HQ hp
          have hdd : c.toNat / 16 < 16 := by have := c.toNat_lt; omega
          have hmm : c.toNat % 16 < 16 := by omega
          have hi1 : (c.toNat : Int) / 16 = ((c.toNat / 16 : Nat) : Int) := by omega
          have hi2 : bits .and .u8 (c.toNat : Int) 15 = ((c.toNat % 16 : Nat) : Int) := and15 c
          generalize c.toNat / 16 = d at hdd hi1 HQ2
          generalize c.toNat % 16 = m at hmm hi2 HQ2
          have hdi : (d : Int) < 16 := by omega
          have hmi : (m : Int) < 16 := by omega
          have hx1 := hex_at d hdd
          have hx2 := hex_at m hmm
          unfold hexS at hx1 hx2
          clear hdd hmm
          have hal := ((Below.refl wr.heap.size wr).alloc (Nat.le_refl _) (.cells #[.int .u8 92, .int .u8 120, .int .u8 ((hexd d).toNat : Int), .int .u8 ((hexd m).toNat : Int)] 5)).drew
          have hnw := World.news_of_block (w := (wr.alloc (.cells #[.int .u8 92, .int .u8 120, .int .u8 ((hexd d).toNat : Int), .int .u8 ((hexd m).toNat : Int)] 5)).drew) (cs := #[.int .u8 92, .int .u8 120, .int .u8 ((hexd d).toNat : Int), .int .u8 ((hexd m).toNat : Int)]) (t := 5) (fr := (0, 0)) (by exact heap_alloc_new wr _)
          have HO3 := Lib.hid (own_later6 HO.out hal)
          have HB3 := Lib.hid (ext_trans HB.out hal)
          have HR3 := Lib.hid (show OwnRow (wr.alloc (.cells #[.int .u8 92, .int .u8 120, .int .u8 ((hexd d).toNat : Int), .int .u8 ((hexd m).toNat : Int)] 5)).drew w.heap.size (s.data.toList.map byteVal) from HR.out.alloc (by have := HZ.out; omega) (.cells #[.int .u8 92, .int .u8 120, .int .u8 ((hexd d).toNat : Int), .int .u8 ((hexd m).toNat : Int)] 5))
          have HNW := Lib.hid hnw
          clear hal hnw
          rcases hp2 with hp2 | hp2
          · have hb1 : decide ((c.toNat : Int) < 33) = true := by rw [decide_eq_true_iff]; omega
            go_upto_region 9 with fail
            clear hcell
            go_region_law (refine step_append_lies _ (by rfl) _ _ _ (by rfl) (w.heap.size + 1) 5 i0 (.int .u8 0) 1 1 Tryz.underlying66 hi iz0 iz1 iz2 rfl (by decide) (.slice ao u.length co) u.length (bys u) (by rfl) HO3.out ⟨wr.heap.size, 0, none⟩ 4 4 [.int .u8 92, .int .u8 120, .int .u8 ((hexd d).toNat : Int), .int .u8 ((hexd m).toNat : Int)] (by rfl) (by rfl) HNW.out (by simp [Value.oneCell']) (by omega) (by unfold maxLen; omega) (by omega) (by have := HZ.out; simp; omega) (wr.heap.size + 1) (by simp) ?_; intro gg cap10 w8 ho8 hg8 hat hlt10)
            all_goals
              clear hat hlt10
              generalize (.slice (some ⟨gg, 0, none⟩) (u.length + 4) cap10 : Value) = v8 at ho8 ⊢
              have HO8 := Lib.hid (show w8.ownsRow (w.heap.size + 1) 5 1 v8 (quoL (s.data.toList.take (k + 1))).length (bys (quoL (s.data.toList.take (k + 1)))) by
                rw [HQ2.out, List.length_append]
                have : bys (u ++ ([92, 120, hexd d, hexd m] : Bs)) = bys u ++ bys ([92, 120, hexd d, hexd m] : Bs) := by simp [bys]
                rw [this]
                exact ho8)
              have HR8 := Lib.hid (grown_row HR3.out hg8 (by have := HZ.out; simp; omega) (fun q hq => by have := (HO3.out).lt q hq; omega))
              have HB8 := Lib.hid ((HB3.out).grown hg8 (by have := HZ.out; simp; omega) (fun q hq => by have := (HO3.out).lt q hq; omega))
              have HZ8 := Lib.hid (show w.heap.size + 1 ≤ w8.heap.size by have := hg8.size; have := HZ.out; simp at *; omega)
              clear ho8 hg8
              go_wp2_with fail
              go_roundw
              case rel => exact ⟨k + 1, by omega, HZ8.out, by go_num, HO8.out, HR8.out, HB8.out⟩
              case measure => simp [intOf]; omega
          · have hb1 : decide ((c.toNat : Int) < 33) = false := by rw [decide_eq_false_iff_not]; omega
            have hb2 : decide ((126 : Int) < (c.toNat : Int)) = true := by rw [decide_eq_true_iff]; omega
            go_upto_region 9 with fail
            clear hcell
            go_region_law (refine step_append_lies _ (by rfl) _ _ _ (by rfl) (w.heap.size + 1) 5 i0 (.int .u8 0) 1 1 Tryz.underlying66 hi iz0 iz1 iz2 rfl (by decide) (.slice ao u.length co) u.length (bys u) (by rfl) HO3.out ⟨wr.heap.size, 0, none⟩ 4 4 [.int .u8 92, .int .u8 120, .int .u8 ((hexd d).toNat : Int), .int .u8 ((hexd m).toNat : Int)] (by rfl) (by rfl) HNW.out (by simp [Value.oneCell']) (by omega) (by unfold maxLen; omega) (by omega) (by have := HZ.out; simp; omega) (wr.heap.size + 1) (by simp) ?_; intro gg cap10 w8 ho8 hg8 hat hlt10)
            all_goals
              clear hat hlt10
              generalize (.slice (some ⟨gg, 0, none⟩) (u.length + 4) cap10 : Value) = v8 at ho8 ⊢
              have HO8 := Lib.hid (show w8.ownsRow (w.heap.size + 1) 5 1 v8 (quoL (s.data.toList.take (k + 1))).length (bys (quoL (s.data.toList.take (k + 1)))) by
                rw [HQ2.out, List.length_append]
                have : bys (u ++ ([92, 120, hexd d, hexd m] : Bs)) = bys u ++ bys ([92, 120, hexd d, hexd m] : Bs) := by simp [bys]
                rw [this]
                exact ho8)
              have HR8 := Lib.hid (grown_row HR3.out hg8 (by have := HZ.out; simp; omega) (fun q hq => by have := (HO3.out).lt q hq; omega))
              have HB8 := Lib.hid ((HB3.out).grown hg8 (by have := HZ.out; simp; omega) (fun q hq => by have := (HO3.out).lt q hq; omega))
              have HZ8 := Lib.hid (show w.heap.size + 1 ≤ w8.heap.size by have := hg8.size; have := HZ.out; simp at *; omega)
              clear ho8 hg8
              go_wp2_with fail
              go_roundw
              case rel => exact ⟨k + 1, by omega, HZ8.out, by go_num, HO8.out, HR8.out, HB8.out⟩
              case measure => simp [intOf]; omega
    · obtain rfl : k = s.size := by omega
      have hlt2 : ¬ (s.size : Int) < (s.size : Int) := by omega
      have HQ := Lib.hid (show s.data.toList.take s.size = s.data.toList from List.take_of_length_le (by simp))
      have hcv := conv_own _ _ _ _ _ HO.out rfl
      go_wp2_with fail
      refine bodyPost_ret (v := .string (bsB (quoL (s.data.toList.take s.size)))) (by simp [results, Tryz.results79, go_sem]) rfl ?_
      rw [HQ.out]
      exact ⟨rfl, HB.out⟩
end Go.Proofs.YtgnkjcdkfcikeaaGreatDoor
