import Derived.Test.YtgnkjcdkfcikeaaGreatDoorCw3
import Derived.Deep.RegionHeld3
namespace Go.Proofs.YtgnkjcdkfcikeaaGreatDoor
open Go.RowKit

/-! quote -/
theorem prn_high {c : UInt8} (h : 128 ≤ c.toNat) : prn c = false := by
  unfold prn
  rw [Bool.and_eq_false_iff, decide_eq_false_iff_not, decide_eq_false_iff_not]
  exact .inr (by omega)
theorem all_takeP {p : UInt8 → Bool} {s : ByteArray} {pos : Nat} (h : pos < s.size) : (s.data.toList.take (pos + 1)).all p = ((s.data.toList.take pos).all p && p (s[pos]'h)) := by
  rw [List.take_succ_eq_append_getElem (by simpa using h), List.all_append]
  simp
  rfl
theorem all_notP {p : UInt8 → Bool} {s : ByteArray} {pos : Nat} (h : pos < s.size) (hd : p (s[pos]'h) = false) : s.data.toList.all p = false := by
  rw [List.all_eq_false]
  exact ⟨s[pos], by
    have : s[pos] = s.data.toList[pos]'(by simpa using h) := by simp; rfl
    rw [this]; exact List.getElem_mem _, by rw [hd]; simp⟩
set_option maxHeartbeats 800000 in
set_option maxRecDepth 100000 in
theorem quo_printable (s : ByteArray) (w : World) : Calls Tryz.prog 126 #[.string s] w fun e w' => e = .returned (.bool (s.data.toList.all prn)) ∧ Below w.heap.size w w' := by
  go_enter Tryz.func126, Tryz.ntmps126
  go_wp2_with fail
  go_loopw [2] (fun r_ w' => ∃ pos : Nat, pos ≤ s.size ∧ r_ = .bool false ∧ (s.data.toList.take pos).all prn = true ∧ w' = w.iter s pos) (fun _ w' => s.size - w'.iterPos w.heap.size)
  case atStart => exact ⟨0, by omega, rfl, rfl, rfl⟩
  case round =>
    obtain ⟨pos, hps, rfl, hall, rfl⟩ := hrel
    have HA := Lib.hid hall
    clear hall
    by_cases hp : pos < s.size
    · have hnx : ∀ ty, (Instr.next (.pointer (some ⟨w.heap.size, 0, none⟩)) true ty).run Tryz.prog (w.iter s pos) = _ := fun ty => run_next_any w s pos ty hp
      have HT := Lib.hid (all_takeP (p := prn) hp)
      have HN := Lib.hid (fun h => all_notP (p := prn) hp h)
      by_cases ha : (s[pos]'hp).toNat < 128
      · rw [dec_low s pos hp ha] at hnx
        generalize s[pos]'hp = c at ha hnx HT HN
        dsimp only at hnx
        by_cases c1 : c.toNat < 33
        · have HR := Lib.hid (HN.out (by unfold prn; rw [decide_eq_false (show ¬ 33 ≤ c.toNat by omega)]; rfl))
          have hb1 : decide ((c.toNat : Int) < 33) = true := by rw [decide_eq_true_iff]; omega
          go_wp2_with fail
          go_ret
          exact ⟨ret_bool (HR.out).symm, (Below.refl _ _).alloc (Nat.le_refl _) _⟩
        · have hb1 : decide ((c.toNat : Int) < 33) = false := by rw [decide_eq_false_iff_not]; omega
          by_cases c2 : 126 < c.toNat
          · have HR := Lib.hid (HN.out (by unfold prn; rw [decide_eq_false (show ¬ c.toNat ≤ 126 by omega), Bool.and_false]))
            have hb2 : decide ((126 : Int) < (c.toNat : Int)) = true := by rw [decide_eq_true_iff]; omega
            go_wp2_with fail
            go_ret
            exact ⟨ret_bool (HR.out).symm, (Below.refl _ _).alloc (Nat.le_refl _) _⟩
          · have hb2 : decide ((126 : Int) < (c.toNat : Int)) = false := by rw [decide_eq_false_iff_not]; omega
            have HA2 := Lib.hid (show (s.data.toList.take (pos + 1)).all prn = true by
              rw [HT.out, HA.out]
              unfold prn
              rw [decide_eq_true (show 33 ≤ c.toNat by omega), decide_eq_true (show c.toNat ≤ 126 by omega)]
              rfl)
            go_wp2_with fail
            go_roundw
            case rel => exact ⟨pos + 1, by omega, rfl, HA2.out, rfl⟩
            case measure => simp; omega
      · have HR := Lib.hid (HN.out (prn_high (by omega)))
        have hd := (decode_high s pos hp (by omega)).1
        have hb1 : decide (((Utf8.decode s pos).1 : Int) < 33) = false := by rw [decide_eq_false_iff_not]; omega
        have hb2 : decide ((126 : Int) < ((Utf8.decode s pos).1 : Int)) = true := by rw [decide_eq_true_iff]; omega
        clear hd
        go_wp2_with fail
        go_ret
        exact ⟨ret_bool (HR.out).symm, (Below.refl _ _).alloc (Nat.le_refl _) _⟩
    · obtain rfl : pos = s.size := by omega
      have hnx : ∀ ty, (Instr.next (.pointer (some ⟨w.heap.size, 0, none⟩)) true ty).run Tryz.prog (w.iter s s.size) = _ := fun ty => run_next_end w s s.size ty hp
      have HR := Lib.hid (show s.data.toList.all prn = true by
        have := HA.out
        rwa [List.take_of_length_le (by simp)] at this)
      go_wp2_with fail
      go_ret
      exact ⟨ret_bool (HR.out).symm, (Below.refl _ _).alloc (Nat.le_refl _) _⟩

/-- the digits of a quoted byte -/
abbrev hexS : ByteArray := ⟨#[48, 49, 50, 51, 52, 53, 54, 55, 56, 57, 97, 98, 99, 100, 101, 102]⟩
theorem hex_ix : ∀ n : Fin 256, Lib.indexByte hexS.data.toList (UInt8.ofNat n.val) = (match hexv (UInt8.ofNat n.val) with | some a => (a : Int) | none => -1) := by decide +kernel
theorem hex_byte (c : UInt8) (w : World) : Calls Tryz.prog 127 #[.string hexS, .int .u8 (c.toNat : Int)] w fun e w' => e = .returned (.int .i64 (match hexv c with | some a => (a : Int) | none => -1)) ∧ w' = w := by
  refine (Tryz.strings_IndexByte hexS (c.toNat : Int) w).mono ?_
  rintro e w' ⟨rfl, rfl⟩
  refine ⟨?_, rfl⟩
  have := hex_ix ⟨c.toNat, c.toNat_lt⟩
  simp only [UInt8.ofNat_toNat] at this
  rw [show (c.toNat : Int).toNat.toUInt8 = c by rw [Int.toNat_natCast]; exact UInt8.ofNat_toNat, this]
theorem hexv_lt {c : UInt8} {a : Nat} (h : hexv c = some a) : a < 16 := by
  unfold hexv at h
  split at h
  · injection h with h; omega
  · split at h
    · injection h with h; omega
    · cases h
theorem ext_drop (s : ByteArray) (k : Nat) : s.extract k s.size = bsB (s.data.toList.drop k) := by
  rw [← bsB_of (s.extract k s.size), Lib.extract_data, List.take_of_length_le (by simp)]
theorem ext_one {s : ByteArray} {c : UInt8} {t : Bs} (h : s.data.toList = c :: t) : s.extract 0 1 = ⟨#[c]⟩ := by
  rw [← bsB_of (s.extract 0 1), Lib.extract_data, h]
  rfl
theorem at_list {s : ByteArray} {k : Nat} {c : UInt8} (h : s.data.toList[k]? = some c) : ∃ hk : k < s.size, s[k] = c := by
  obtain ⟨h1, h2⟩ := List.getElem?_eq_some_iff.1 h
  have h3 : k < s.size := by simpa using h1
  exact ⟨h3, by rw [← h2]; simp; rfl⟩
theorem unqF_cons {c : UInt8} (t : Bs) (h : c ≠ 92) : unqF (c :: t) = if prn c = true then some (c, t) else none := by
  show (if c = 92 then _ else if prn c = true then some (c, t) else none) = _
  rw [if_neg h]
theorem below_undr {w W : World} (h : Below w.drew.heap.size w.drew W) : Below w.heap.size w W := ⟨h.os, h.tape, h.output, h.size, h.block⟩
def FirPost (s : ByteArray) (w : World) (e : Ending) (w' : World) : Prop :=
  (∃ (a : Int) (b : ByteArray) (ok : Bool), e = .returned (.tuple #[.int .u8 a, .string b, .bool ok]) ∧ (match unqF s.data.toList with | some (c, r) => a = (c.toNat : Int) ∧ b = bsB r ∧ ok = true | none => ok = false)) ∧ Below w.heap.size w w'
theorem FirPost.none {s : ByteArray} {w w' : World} {a : Int} {b : ByteArray} (h : unqF s.data.toList = none) (hb : Below w.heap.size w w') : FirPost s w (.returned (.tuple #[.int .u8 a, .string b, .bool false])) w' := ⟨⟨a, b, false, rfl, by rw [h]⟩, hb⟩
theorem FirPost.some {s : ByteArray} {w w' : World} {c : UInt8} {r : Bs} (h : unqF s.data.toList = some (c, r)) (hb : Below w.heap.size w w') : FirPost s w (.returned (.tuple #[.int .u8 (c.toNat : Int), .string (bsB r), .bool true])) w' := ⟨⟨_, _, true, rfl, by rw [h]; exact ⟨rfl, rfl, rfl⟩⟩, hb⟩

set_option linter.unusedSimpArgs false in
set_option maxHeartbeats 1600000 in
set_option maxRecDepth 100000 in
theorem quo_first (s : ByteArray) (w : World) (c : UInt8) (t : Bs) (hs : s.data.toList = c :: t) (hm : s.size ≤ maxLen) : Calls Tryz.prog 102 #[.string s] w (FirPost s w) := by
  unfold maxLen at hm
  have hlen : s.size = t.length + 1 := by have := congrArg List.length hs; simpa using this
  obtain ⟨hp0, h0⟩ := at_list (s := s) (k := 0) (c := c) (by rw [hs]; rfl)
  have HS := Lib.hid hs
  have HD1 := Lib.hid (show s.extract 1 s.size = bsB t by rw [ext_drop, hs]; rfl)
  have hsz1 : (1 : Int) ≤ (s.size : Int) := by omega
  have hsz1n : 1 ≤ s.size := by omega
  by_cases h92 : c = 92
  · subst h92
    have HHP := Lib.hid (fun W => Tryz.strings_HasPrefix s ⟨#[92, 92]⟩ W)
    rw [hs] at HHP
    cases t with
    | nil =>
      rw [show Lib.hasPrefix ([92] : Bs) (⟨#[92, 92]⟩ : ByteArray).data.toList = false from rfl] at HHP
      have HU := Lib.hid (show unqF s.data.toList = none by rw [hs]; rfl)
      have h4 : decide ((s.size : Int) < 4) = true := by rw [decide_eq_true_iff]; simp at hlen; omega
      clear hs hlen
      go_enter Tryz.func102, Tryz.ntmps102
      go_wp2_with (first | (go_at_call 118; (with_reducible refine (HHP.out _).mono ?_); rintro e w2 ⟨rfl, rfl⟩))
      refine bodyPost_ret (v := .tuple #[.int .u8 0, .string ⟨#[]⟩, .bool false]) (by simp [results, Tryz.results102, go_sem]) rfl (FirPost.none HU.out (Below.refl _ _))
    | cons d r =>
      obtain ⟨hp1, h1⟩ := at_list (s := s) (k := 1) (c := d) (by rw [hs]; rfl)
      have HD2 := Lib.hid (show s.extract 2 s.size = bsB r by rw [ext_drop, hs]; rfl)
      have hsz2 : (2 : Int) ≤ (s.size : Int) := by simp at hlen; omega
      have hsz2n : 2 ≤ s.size := by simp at hlen; omega
      by_cases d92 : d = 92
      · subst d92
        rw [show Lib.hasPrefix (92 :: 92 :: r : Bs) (⟨#[92, 92]⟩ : ByteArray).data.toList = true by rfl] at HHP
        have HU := Lib.hid (show unqF s.data.toList = some (92, r) by rw [hs]; rfl)
        clear hs hlen
        go_enter Tryz.func102, Tryz.ntmps102
        go_wp2_with (first | (go_at_call 118; (with_reducible refine (HHP.out _).mono ?_); rintro e w2 ⟨rfl, rfl⟩))
        go_quiet (fail)
        go_wp2_with fail
        refine bodyPost_ret (v := .tuple #[.int .u8 92, .string (bsB r), .bool true]) (by rw [← HD2.out]; simp [results, Tryz.results102, go_sem]) rfl (FirPost.some (c := 92) HU.out (below_drewN (Below.refl _ _) _))
      · rw [show Lib.hasPrefix (92 :: d :: r : Bs) (⟨#[92, 92]⟩ : ByteArray).data.toList = false by
          show ([92, 92] : Bs).isPrefixOf (92 :: d :: r) = false
          simp [List.isPrefixOf]
          exact fun h => d92 h.symm] at HHP
        have hdx : ((d.toNat : Int) != 120) = true ↔ d ≠ 120 := by
          rw [bne_iff_ne]
          exact ⟨fun h e => h (by rw [e]; rfl), fun h e => h (UInt8.toNat_inj.1 (by show d.toNat = 120; omega))⟩
        by_cases h4 : s.size < 4
        · have HU := Lib.hid (show unqF s.data.toList = none by
            rw [hs]
            show (if d = 92 then _ else if d = 120 then _ else none) = none
            rw [if_neg d92]
            split
            · match r, hlen with
              | [], _ => rfl
              | [_], _ => rfl
              | h :: l :: r', hlen => exfalso; simp at hlen; omega
            · rfl)
          have h4b : decide ((s.size : Int) < 4) = true := by rw [decide_eq_true_iff]; omega
          clear hs hlen hdx
          go_enter Tryz.func102, Tryz.ntmps102
          go_wp2_with (first | (go_at_call 118; (with_reducible refine (HHP.out _).mono ?_); rintro e w2 ⟨rfl, rfl⟩))
          refine bodyPost_ret (v := .tuple #[.int .u8 0, .string ⟨#[]⟩, .bool false]) (by simp [results, Tryz.results102, go_sem]) rfl (FirPost.none HU.out (Below.refl _ _))
        · have h4b : decide ((s.size : Int) < 4) = false := by rw [decide_eq_false_iff_not]; omega
          by_cases d120 : d = 120
          · subst d120
            obtain ⟨h, l, r', rfl⟩ : ∃ h l r', r = h :: l :: r' := by
              match r, hlen with
              | [], hlen => exfalso; simp at hlen; omega
              | [_], hlen => exfalso; simp at hlen; omega
              | h :: l :: r', _ => exact ⟨h, l, r', rfl⟩
            obtain ⟨hp2, h2⟩ := at_list (s := s) (k := 2) (c := h) (by rw [hs]; rfl)
            obtain ⟨hp3, h3⟩ := at_list (s := s) (k := 3) (c := l) (by rw [hs]; rfl)
            have HD4 := Lib.hid (show s.extract 4 s.size = bsB r' by rw [ext_drop, hs]; rfl)
            have hsz4 : (4 : Int) ≤ (s.size : Int) := by omega
            have hsz4n : 4 ≤ s.size := by omega
            have HH := Lib.hid (hex_byte h)
            have HL := Lib.hid (hex_byte l)
            have hU : unqF s.data.toList = (match hexv h, hexv l with | some a, some b => some (UInt8.ofNat (16 * a + b), r') | _, _ => none) := by rw [hs]; rfl
            obtain ⟨hi, hhi⟩ : ∃ hi : Int, hi = (match hexv h with | some a => (a : Int) | none => -1) := ⟨_, rfl⟩
            obtain ⟨lo, hlo⟩ : ∃ lo : Int, lo = (match hexv l with | some a => (a : Int) | none => -1) := ⟨_, rfl⟩
            rw [← hhi] at HH
            rw [← hlo] at HL
            have hb1 : -1 ≤ hi ∧ hi ≤ 15 := by
              rw [hhi]
              split
              · rename_i a ha; have := hexv_lt ha; omega
              · omega
            have hb2 : -1 ≤ lo ∧ lo ≤ 15 := by
              rw [hlo]
              split
              · rename_i a ha; have := hexv_lt ha; omega
              · omega
            have hw1 : IntKind.i64.wrap (16 * hi) = 16 * hi := IntWalk.i64_in _ (by omega)
            have hw2 : IntKind.i64.wrap (16 * hi + lo) = 16 * hi + lo := IntWalk.i64_in _ (by omega)
            obtain ⟨x, hx⟩ : ∃ x, IntKind.u8.wrap (16 * hi + lo) = x := ⟨_, rfl⟩
            clear hs hlen hdx
            cases hv1 : hexv h with
            | none =>
              have HU := Lib.hid (show unqF s.data.toList = none by rw [hU, hv1])
              have hd1 : decide (hi ≥ 0) = false := by rw [decide_eq_false_iff_not, hhi, hv1]; decide
              have hd2 : decide (0 ≤ hi) = false := hd1
              clear hv1 hU hhi hlo hb1 hb2
              go_enter Tryz.func102, Tryz.ntmps102
              go_wp2_with (first | (go_at_call 118; (with_reducible refine (HHP.out _).mono ?_); rintro e w2 ⟨rfl, rfl⟩))
              go_quiet (first | (go_at_call 127; (with_reducible exact Calls.quiet_of_same (HH.out _))) | (go_at_call 127; (with_reducible exact Calls.quiet_of_same (HL.out _))))
              go_wp2_with fail
              go_quiet (fail)
              go_wp2_with fail
              refine bodyPost_ret (v := .tuple #[.int .u8 x, .string (bsB r'), .bool false]) (by rw [← HD4.out]; simp [results, Tryz.results102, go_sem]) rfl ?_
              exact FirPost.none HU.out (below_drewN (below_drewN (Below.refl _ _) _) _)
            | some a =>
              have hd1 : decide (hi ≥ 0) = true := by rw [decide_eq_true_iff, hhi, hv1]; show (0 : Int) ≤ a; omega
              have hd2 : decide (0 ≤ hi) = true := hd1
              cases hv2 : hexv l with
              | none =>
                have HU := Lib.hid (show unqF s.data.toList = none by rw [hU, hv1, hv2])
                have hd3 : decide (lo ≥ 0) = false := by rw [decide_eq_false_iff_not, hlo, hv2]; decide
                have hd4 : decide (0 ≤ lo) = false := hd3
                clear hv1 hv2 hU hhi hlo hb1 hb2
                go_enter Tryz.func102, Tryz.ntmps102
                go_wp2_with (first | (go_at_call 118; (with_reducible refine (HHP.out _).mono ?_); rintro e w2 ⟨rfl, rfl⟩))
                go_quiet (first | (go_at_call 127; (with_reducible exact Calls.quiet_of_same (HH.out _))) | (go_at_call 127; (with_reducible exact Calls.quiet_of_same (HL.out _))))
                go_wp2_with fail
                go_quiet (fail)
                go_wp2_with fail
                refine bodyPost_ret (v := .tuple #[.int .u8 x, .string (bsB r'), .bool false]) (by rw [← HD4.out]; simp [results, Tryz.results102, go_sem]) rfl ?_
                exact FirPost.none HU.out (below_drewN (below_drewN (Below.refl _ _) _) _)
              | some b =>
                have HU := Lib.hid (show unqF s.data.toList = some (UInt8.ofNat (16 * a + b), r') by rw [hU, hv1, hv2])
                have hd3 : decide (lo ≥ 0) = true := by rw [decide_eq_true_iff, hlo, hv2]; show (0 : Int) ≤ b; omega
                have hd4 : decide (0 ≤ lo) = true := hd3
                have HX := Lib.hid (show x = ((UInt8.ofNat (16 * a + b)).toNat : Int) by
                  have ha := hexv_lt hv1
                  have hb := hexv_lt hv2
                  rw [← hx, hhi, hlo, hv1, hv2]
                  rw [IntKind.wrap_u8]
                  simp)
                clear hv1 hv2 hU hhi hlo hb1 hb2
                go_enter Tryz.func102, Tryz.ntmps102
                go_wp2_with (first | (go_at_call 118; (with_reducible refine (HHP.out _).mono ?_); rintro e w2 ⟨rfl, rfl⟩))
                go_quiet (first | (go_at_call 127; (with_reducible exact Calls.quiet_of_same (HH.out _))) | (go_at_call 127; (with_reducible exact Calls.quiet_of_same (HL.out _))))
                go_wp2_with fail
                go_quiet (fail)
                go_wp2_with fail
                refine bodyPost_ret (v := .tuple #[.int .u8 x, .string (bsB r'), .bool true]) (by rw [← HD4.out]; simp [results, Tryz.results102, go_sem]) rfl ?_
                (rw [HX.out]; exact FirPost.some HU.out (below_drewN (below_drewN (Below.refl _ _) _) _))
          · have HU := Lib.hid (show unqF s.data.toList = none by
              rw [hs]
              show (if d = 92 then _ else if d = 120 then _ else none) = none
              rw [if_neg d92, if_neg d120])
            have hdb := hdx.2 d120
            clear hs hlen hdx
            go_enter Tryz.func102, Tryz.ntmps102
            go_wp2_with (first | (go_at_call 118; (with_reducible refine (HHP.out _).mono ?_); rintro e w2 ⟨rfl, rfl⟩))
            refine bodyPost_ret (v := .tuple #[.int .u8 0, .string ⟨#[]⟩, .bool false]) (by simp [results, Tryz.results102, go_sem]) rfl (FirPost.none HU.out (Below.refl _ _))
  · have e1 : ((c.toNat : Int) != 92) = true := by rw [bne_iff_ne]; intro h; exact h92 (UInt8.toNat_inj.1 (by show c.toNat = 92; omega))
    have HE := Lib.hid (ext_one hs)
    have hP := (fun W => quo_printable (s.extract 0 1) W)
    rw [show (s.extract 0 1).data.toList.all prn = prn c by rw [HE.out]; simp] at hP
    have HP := Lib.hid hP
    clear hP
    have hU : unqF s.data.toList = if prn c = true then some (c, t) else none := by rw [hs]; exact unqF_cons t h92
    have HU := Lib.hid hU
    clear h92 hs hU hlen
    go_enter Tryz.func102, Tryz.ntmps102
    go_wp2_with fail
    go_region_held3 (fun _ => True) (trivial) (first | (go_at_call 126; (with_reducible refine (HP.out _).mono ?_); rintro e w2 ⟨rfl, hb2⟩))
    all_goals
      rename_i hh
      clear hh
      have HB2 := Lib.hid (below_undr hb2)
      clear hb2
      cases hp : prn c with
      | true =>
        rw [hp] at HU
        go_wp2_with fail
        refine bodyPost_ret (v := .tuple #[.int .u8 (c.toNat : Int), .string (bsB t), .bool true]) (by rw [← HD1.out]; simp [results, Tryz.results102, go_sem]) rfl (FirPost.some HU.out HB2.out)
      | false =>
        rw [hp] at HU
        go_wp2_with fail
        refine bodyPost_ret (v := .tuple #[.int .u8 (c.toNat : Int), .string (bsB t), .bool false]) (by rw [← HD1.out]; simp [results, Tryz.results102, go_sem]) rfl (FirPost.none HU.out HB2.out)
end Go.Proofs.YtgnkjcdkfcikeaaGreatDoor
