import Derived.Test.YtlbcfmhpkcpmaaaGreatDoorTrim
import Derived.Lib.ItoaLen
import Derived.Lib.AppendIntMem
namespace Go.Proofs.YtlbcfmhpkcpmaaaGreatDoor
open Go.RowKit

abbrev Num := Bool × List UInt8 × Int
def numTrim (n : Num) : Num :=
  let d1 := n.2.1.dropWhile (· == 48)
  let d2 := trimR 48 d1
  if d2 = [] then (false, [], 0) else (n.1, d2, n.2.2 + ((d1.length : Int) - d2.length))

theorem trimR_le (c : UInt8) (l : List UInt8) : (trimR c l).length ≤ l.length := by
  have := List.Sublist.length_le (List.dropWhile_sublist (l := l.reverse) (· == c))
  unfold trimR; simpa using this
theorem trimR_prefix (c : UInt8) (l : List UInt8) : trimR c l <+: l := by
  unfold trimR
  have := List.dropWhile_suffix (l := l.reverse) (· == c)
  have := List.reverse_prefix.2 this
  simpa using this
theorem dropW_le (c : UInt8) (l : List UInt8) : (l.dropWhile (· == c)).length ≤ l.length := List.Sublist.length_le (List.dropWhile_sublist _)

set_option maxHeartbeats 400000 in
set_option maxRecDepth 100000 in
theorem dec_trim (neg : Bool) (v : Value) (l : List UInt8) (ex : Int) (w : World) (h : SlR w v l.length (bys l)) (hl : l.length ≤ 1000) (hlo : -1000000000 ≤ ex) (hhi : ex ≤ 1000000000) :
    Calls Tryz.prog 154 #[.agg #[.bool neg, v, .int .i64 ex]] w fun e w' => Below w.heap.size w w' ∧ ∃ v', e = .returned (.agg #[.bool (numTrim (neg, l, ex)).1, v', .int .i64 (numTrim (neg, l, ex)).2.2]) ∧ ∀ W, SlR W v l.length (bys l) → SlR W v' (numTrim (neg, l, ex)).2.1.length (bys (numTrim (neg, l, ex)).2.1) := by
  obtain ⟨d1, hd1⟩ : ∃ d1, d1 = l.dropWhile (· == 48) := ⟨_, rfl⟩
  obtain ⟨d2, hd2⟩ : ∃ d2, d2 = trimR 48 d1 := ⟨_, rfl⟩
  have hl1 : d1.length ≤ l.length := hd1 ▸ dropW_le 48 l
  have hl2 : d2.length ≤ d1.length := hd2 ▸ trimR_le 48 d1
  have hpre : d2 <+: d1 := hd2 ▸ trimR_prefix 48 d1
  have HN := Lib.hid (show numTrim (neg, l, ex) = if d2 = [] then (false, [], 0) else (neg, d2, ex + ((d1.length : Int) - d2.length)) by subst hd2 hd1; rfl)
  have HD1 := Lib.hid hd1
  have HD2 := Lib.hid hd2
  have HP := Lib.hid hpre
  have HS := Lib.hid h
  clear hd1 hd2 h hpre
  go_enter Tryz.func154, Tryz.ntmps154
  go_wp2_with fail
  refine (bytes_TrimLeft v l _ (HS.out.below ?_) hl).mono ?_
  · exact ((Below.refl _ _).alloc (Nat.le_refl _) _).alloc (by simp) _
  rintro e w1 ⟨rfl, v1, rfl, h1⟩
  have hs1 := h1 w HS.out
  rw [← HD1.out] at hs1
  obtain ⟨a1, cap1, rfl, hc1, hm1⟩ := hs1.shape
  have HS1 := Lib.hid hs1
  have H1 := Lib.hid h1
  clear h1 hs1
  unfold maxLen at hm1
  go_wp2_with fail
  refine (bytes_TrimRight _ d1 _ (HS1.out.below ?_) (by omega)).mono ?_
  · exact ((Below.refl _ _).alloc (Nat.le_refl _) _).alloc (by simp) _
  rintro e w1 ⟨rfl, v2, rfl, h2⟩
  have hs2 := h2 w HS1.out
  rw [← HD2.out] at hs2
  obtain ⟨a2, cap2, rfl, hc2, hm2⟩ := hs2.shape
  clear h2 hs2
  have H2 : Hid (∀ W, SlR W v l.length (bys l) → SlR W (.slice a1 d2.length d2.length) d2.length (bys d2)) := Lib.hid (fun W h => by
    have := H1.out W h
    rw [← HD1.out] at this
    obtain ⟨r, hr⟩ := HP.out
    rw [show bys d1 = bys d2 ++ bys r by rw [← hr]; simp [bys]] at this
    exact this.cut hl2 (Nat.le_refl _) (by omega))
  by_cases hz : d2 = []
  · subst hz
    have HN' := Lib.hid (HN.out.trans (if_pos rfl))
    go_wp2_with fail
    refine bodyPost_ret (v := .agg #[.bool false, .slice none 0 0, .int .i64 0]) (by simp [results, Tryz.results154, go_sem]) rfl ⟨((Below.refl _ _).alloc (Nat.le_refl _) _).alloc (by simp) _, ?_⟩
    rw [HN'.out]
    exact ⟨_, rfl, fun W _ => SlR.nil W⟩
  · have hpos : 0 < d2.length := List.length_pos_iff.2 hz
    have HN' := Lib.hid (HN.out.trans (if_neg hz))
    have hb : ((d2.length : Int) == 0) = false := by rw [beq_eq_false_iff_ne]; omega
    clear hz
    go_wp2_with fail
    refine bodyPost_ret (v := .agg #[.bool neg, .slice a1 d2.length d2.length, .int .i64 (ex + ((d1.length : Int) - d2.length))]) (by simp [results, Tryz.results154, go_sem]) rfl ?_
    have hb' : Below w.heap.size w ((w.alloc (Obj.cells #[Value.bool neg, Value.slice a1 d2.length d2.length, Value.int IntKind.i64 (ex + ((d1.length : Int) - d2.length))] 133)).alloc (Obj.cells #[Value.bool neg, Value.slice a1 d2.length d2.length, Value.int IntKind.i64 (ex + ((d1.length : Int) - d2.length))] 133)) := ((Below.refl _ _).alloc (Nat.le_refl _) _).alloc (by simp) _
    refine ⟨hb', ?_⟩
    rw [HN'.out]
    exact ⟨_, rfl, H2.out⟩
set_option maxHeartbeats 400000 in
set_option maxRecDepth 100000 in
theorem dec_first (neg : Bool) (a : Option Addr) (n cap : Nat) (ex : Int) (w : World) (hl : n ≤ 1000) (hlo : -2000000000 ≤ ex) (hhi : ex ≤ 2000000000) :
    Calls Tryz.prog 155 #[.agg #[.bool neg, .slice a n cap, .int .i64 ex]] w fun e w' => e = .returned (.int .i64 (ex + n - 1)) ∧ Below w.heap.size w w' := by
  go_enter Tryz.func155, Tryz.ntmps155
  go_wp2_with fail
  go_ret
  exact ⟨rfl, (Below.refl _ _).alloc (Nat.le_refl _) _⟩

/-- the canonical text of a number whose digits have no zeros at the ends; none: too large -/
def numText (n : Num) : List UInt8 × Int :=
  if n.2.1 = [] then ([48], 0) else
  if 17 < n.2.1.length ∨ n.2.2 + n.2.1.length - 1 < -400 ∨ 400 < n.2.2 + n.2.1.length - 1 then ([], 9) else
  ((if n.1 then [45] else []) ++ (n.2.1.take 1 ++ ((if 1 < n.2.1.length then [46] ++ n.2.1.drop 1 else []) ++ ([101] ++ Lib.itoa (n.2.2 + n.2.1.length - 1)))), 0)

/-- the tables that the call reads -/
def Glob (w : World) : Prop := Lib.TabIs Tryz.prog w "internal/strconv.uint64pow10" .u64 Lib.pow10Tab

theorem globalPow : Tryz.prog.globalNamed "internal/strconv.uint64pow10" = some 1 := by kernel_rfl
theorem Glob.below {w w' : World} (h : Glob w) (hb : Below w.heap.size w w') : Glob w' := by
  unfold Glob Lib.TabIs World.var? at *
  simp only [globalPow, Option.bind_some] at *
  have hlt : 1 < w.heap.size := by
    rcases Nat.lt_or_ge 1 w.heap.size with h' | h'
    · exact h'
    · rw [Array.getElem?_eq_none h'] at h; simp at h
  rw [hb.block _ hlt]
  exact h

set_option maxHeartbeats 400000 in
set_option maxRecDepth 100000 in
theorem dec_text_nil (neg : Bool) (a : Option Addr) (cap : Nat) (ex : Int) (w : World) :
    Calls Tryz.prog 139 #[.agg #[.bool neg, .slice a 0 cap, .int .i64 ex]] w fun e w' => e = .returned (.tuple #[.string ⟨#[48]⟩, .int .i64 0]) ∧ Below w.heap.size w w' := by
  go_enter Tryz.func139, Tryz.ntmps139
  go_wp2_with fail
  go_ret2
  exact ⟨rfl, (Below.refl _ _).alloc (Nat.le_refl _) _⟩

set_option maxHeartbeats 400000 in
set_option maxRecDepth 100000 in
theorem dec_text_big (neg : Bool) (a : Option Addr) (n cap : Nat) (ex : Int) (w : World) (h0 : 0 < n) (hl : n ≤ 1000) (hlo : -2000000000 ≤ ex) (hhi : ex ≤ 2000000000) (hbig : 17 < n ∨ ex + n - 1 < -400 ∨ 400 < ex + n - 1) :
    Calls Tryz.prog 139 #[.agg #[.bool neg, .slice a n cap, .int .i64 ex]] w fun e w' => e = .returned (.tuple #[.string ⟨#[]⟩, .int .i64 9]) ∧ Below w.heap.size w w' := by
  have hb : ((n : Int) == 0) = false := by rw [beq_eq_false_iff_ne]; omega
  by_cases h1 : 17 < n
  · clear hbig
    go_enter Tryz.func139, Tryz.ntmps139
    go_wp2_with fail
    go_ret2
    exact ⟨rfl, (Below.refl _ _).alloc (Nat.le_refl _) _⟩
  by_cases h2 : ex + n - 1 < -400
  · clear hbig
    go_enter Tryz.func139, Tryz.ntmps139
    go_wp2_with fail
    refine (dec_first _ _ _ _ _ _ hl hlo hhi).mono ?_
    rintro e w1 ⟨rfl, hb1⟩
    go_wp2_with fail
    go_ret2
    exact ⟨rfl, ((Below.refl _ _).alloc (Nat.le_refl _) _).trans (hb1.mono (by simp))⟩
  · have h3 : 400 < ex + n - 1 := by omega
    clear hbig
    go_enter Tryz.func139, Tryz.ntmps139
    go_wp2_with fail
    refine (dec_first _ _ _ _ _ _ hl hlo hhi).mono ?_
    rintro e w1 ⟨rfl, hb1⟩
    obtain ⟨hc1, hf1⟩ := bcell hb1
    go_wp2_with fail
    refine (dec_first _ _ _ _ _ _ hl hlo hhi).mono ?_
    rintro e w2 ⟨rfl, hb2⟩
    go_wp2_with fail
    go_ret2
    exact ⟨rfl, ((Below.refl _ _).alloc (Nat.le_refl _) _).trans ((ext_trans hb1 hb2).mono (by simp))⟩

theorem conv_bys (P : Program) (W : World) (src dst e : TypeId) (b o cap : Nat) (l : List UInt8) (hs : P.underlying src = some (.slice e)) (he : P.underlying e = some (.int .u8)) (hd : P.underlying dst = some .string)
    (hc : ∀ j u, (bys l)[j]? = some u → W.cell? ⟨b, o + j, none⟩ = some u) :
    (convert src dst (.slice (some ⟨b, o, none⟩) l.length cap)).run P W = .ok (.string ⟨l.toArray⟩) W :=
  run_convert_bytes_back (P := P) W src dst e ⟨b, o, none⟩ cap l hs he hd (fun j hj => by rw [addr_add]; exact hc j _ (bys_at l j hj))

set_option maxHeartbeats 800000 in
set_option maxRecDepth 100000 in
theorem dec_text_ok (neg : Bool) (v : Value) (x : UInt8) (l : List UInt8) (ex : Int) (w : World) (hg : Glob w) (h : SlR w v (x :: l).length (bys (x :: l))) (hl : l.length ≤ 16) (hlo : -400 ≤ ex + l.length) (hhi : ex + l.length ≤ 400) :
    Calls Tryz.prog 139 #[.agg #[.bool neg, v, .int .i64 ex]] w fun e w' => e = .returned (.tuple #[.string ⟨(numText (neg, x :: l, ex)).1.toArray⟩, .int .i64 0]) ∧ Below w.heap.size w w' := by
  obtain ⟨b, o, cap, rfl, hlc, hm, hc⟩ := h.at (by simp)
  have HC1 : Hid (∀ W cap', Below w.heap.size w W → (convert 96 9 (.slice (some ⟨b, o, none⟩) 1 cap')).run Tryz.prog W = .ok (.string ⟨#[x]⟩) W) := Lib.hid (fun W cap' hb =>
    conv_bys Tryz.prog W 96 9 5 b o cap' [x] Tryz.underlying96 Tryz.underlying5 Tryz.underlying9
    (fun j u hj => by
      have := hc j u (by
        cases j with
        | zero => simpa [bys] using hj
        | succ j => simp [bys] at hj)
      exact (hb.cell (p := ⟨b, o + j, none⟩) (cell_lt this)).trans this))
  have HC2 : Hid (∀ W cap', Below w.heap.size w W → (convert 96 9 (.slice (some ⟨b, o + 1, none⟩) l.length cap')).run Tryz.prog W = .ok (.string ⟨l.toArray⟩) W) := Lib.hid (fun W cap' hb =>
    conv_bys Tryz.prog W 96 9 5 b (o + 1) cap' l Tryz.underlying96 Tryz.underlying5 Tryz.underlying9
    (fun j u hj => by
      have := hc (j + 1) u (by simpa [bys] using hj)
      rw [show o + (j + 1) = o + 1 + j by omega] at this
      exact (hb.cell (p := ⟨b, o + 1 + j, none⟩) (cell_lt this)).trans this))
  have HG := Lib.hid hg
  have HN : Hid (numText (neg, x :: l, ex) = ((if neg then [45] else []) ++ ((x :: l).take 1 ++ ((if 1 < (x :: l).length then [46] ++ (x :: l).drop 1 else []) ++ ([101] ++ Lib.itoa (ex + ((x :: l).length : Int) - 1)))), 0)) := Lib.hid (by
    unfold numText
    rw [if_neg (by simp), if_neg (by simp; omega)])
  clear h hc hg
  simp only [List.length_cons] at hlc ⊢
  unfold maxLen at hm
  have hb : (((l.length + 1 : Nat) : Int) == 0) = false := by rw [beq_eq_false_iff_ne]; omega
  have hcase : l.length ≤ 0 ∨ 0 < l.length := by omega
  rcases hcase with hpos | hpos
  all_goals
    cases neg
    all_goals
      go_enter Tryz.func139, Tryz.ntmps139
      go_wp2_with fail
      refine (dec_first _ _ _ _ _ _ (by omega) (by omega) (by omega)).mono ?_
      rintro e w1 ⟨rfl, hb1⟩
      obtain ⟨k0, k1, k2⟩ := box3 hb1
      go_wp2_with fail
      refine (dec_first _ _ _ _ _ _ (by omega) (by omega) (by omega)).mono ?_
      rintro e w2 ⟨rfl, hb2⟩
      have hb12 := ext_trans hb1 hb2
      obtain ⟨k0', k1', k2'⟩ := box3 hb12
      have hbw : Below w.heap.size w w2 := ((Below.refl _ _).alloc (Nat.le_refl _) _).trans (hb12.mono (by simp))
      have c1 := fun cap' => HC1.out w2 cap' hbw
      have c2 := fun cap' => HC2.out w2 cap' hbw
      clear k0 k1 k2
      go_wp2_with fail
      refine (dec_first _ _ _ _ _ _ (by omega) (by omega) (by omega)).mono ?_
      rintro e w3 ⟨rfl, hb3⟩
      have hgl : Glob w3 := HG.out.below (ext_trans hbw hb3)
      have HB3 : Hid (Below w.heap.size w w3) := Lib.hid (ext_trans hbw hb3)
      clear c1 c2 k0' k1' k2'
      go_wp2_with fail
      refine (Tryz.strconv_Itoa _ (by omega) (by omega) _ hgl).mono ?_
      rintro e w4 ⟨rfl, kk, os, rfl⟩
      have hil := Lib.itoa_length_le (ex + ((l.length : Int) + 1) - 1) (by omega) (by omega)
      go_wp2_with fail
      go_ret2
      refine ⟨ret_str_int ?_, ?_⟩
      · rw [HN.out]
        refine congrArg (·, (0 : Int)) (ba_eq _ _ ?_)
        cases l <;> simp [ByteArray.data_append] at hpos ⊢
      · exact HB3.out.trans (Lib.below_grow _ _ HB3.out.size _ _)
theorem numTrim_bd (n : Num) : (numTrim n).2.1.length ≤ n.2.1.length ∧ ((numTrim n).2.2 = 0 ∨ (n.2.2 ≤ (numTrim n).2.2 ∧ (numTrim n).2.2 ≤ n.2.2 + n.2.1.length)) := by
  have h1 := dropW_le 48 n.2.1
  have h2 := trimR_le 48 (n.2.1.dropWhile (· == 48))
  unfold numTrim
  simp only
  split
  · simp
  · simp only; omega
end Go.Proofs.YtlbcfmhpkcpmaaaGreatDoor
