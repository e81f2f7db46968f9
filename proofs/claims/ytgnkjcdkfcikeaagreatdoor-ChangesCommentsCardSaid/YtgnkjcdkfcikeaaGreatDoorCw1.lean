import Derived.Test.YtgnkjcdkfcikeaaGreatDoorCv
import Derived.Laws.Runes
import Derived.Laws.RangeAny
namespace Go.Proofs.YtgnkjcdkfcikeaaGreatDoor
open Go.RowKit

/-! runes -/
abbrev digS : ByteArray := ⟨#[48, 49, 120, 122, 88, 90]⟩
theorem dec_valid (s : ByteArray) (pos : Nat) : Utf8.valid ((Utf8.decode s pos).1 : Int) = true := by
  have hb : ∀ k, (s.get! (pos + k)).toNat < 256 := fun k => (s.get! (pos + k)).toNat_lt
  have h0 := hb 0; have h1 := hb 1
  simp only [Utf8.decode]
  repeat' split
  all_goals first
    | (simp_all [Utf8.valid, Utf8.runeError]; done)
    | (simp only [Utf8.valid, Bool.or_eq_true, Bool.and_eq_true, decide_eq_true_eq]; omega)
theorem dig_low : ∀ b ∈ digS.data.toList, b.toNat < 128 := by decide

theorem dig_dec : ∀ p : Fin 6, (Utf8.decode digS p.val).1 < 128 ∧ (Utf8.decode digS p.val).2 = 1 := by decide
set_option maxHeartbeats 400000 in
set_option maxRecDepth 100000 in
theorem ix_rune_err (w : World) : Calls Tryz.prog 108 #[.string digS, .int .i32 65533] w fun e w' => e = .returned (.int .i64 (-1)) ∧ Below w.heap.size w w' := by
  go_enter Tryz.func108, Tryz.ntmps108
  go_wp2_with fail
  go_loopw [4] (fun r_ w' => ∃ pos : Nat, pos ≤ 6 ∧ r_ = .int .i64 0 ∧ w' = w.iter digS pos) (fun _ w' => 6 - w'.iterPos w.heap.size)
  case atStart => exact ⟨0, by omega, rfl, rfl⟩
  case round =>
    obtain ⟨pos, hp6, rfl, rfl⟩ := hrel
    by_cases hp : pos < 6
    · have hps : pos < digS.size := hp
      obtain ⟨d1, d2⟩ := dig_dec ⟨pos, hp⟩
      have hnx : ∀ ty, (Instr.next (.pointer (some ⟨w.heap.size, 0, none⟩)) true ty).run Tryz.prog (w.iter digS pos) = _ := fun ty => run_next_any w digS pos ty hps
      have hne : (((Utf8.decode digS pos).1 : Int) == 65533) = false := by rw [beq_eq_false_iff_ne]; dsimp only at d1; omega
      have D2 := Lib.hid d2
      dsimp only at D2
      clear d1 d2
      go_wp2_with fail
      go_roundw
      case rel => exact ⟨pos + 1, by omega, rfl, by rw [D2.out]⟩
      case measure => simp; rw [D2.out]; omega
    · obtain rfl : pos = 6 := by omega
      have hps : ¬ (6 < digS.size) := by decide
      have hnx : ∀ ty, (Instr.next (.pointer (some ⟨w.heap.size, 0, none⟩)) true ty).run Tryz.prog (w.iter digS 6) = _ := fun ty => run_next_end w digS 6 ty hps
      go_wp2_with fail
      go_ret
      exact ⟨rfl, (Below.refl _ _).alloc (Nat.le_refl _) _⟩

theorem ixb_none : ∀ (l : Bs) (c : UInt8), (∀ b ∈ l, b ≠ c) → Lib.indexByte l c = -1
  | [], _, _ => rfl
  | b :: l, c, h => by
    unfold Lib.indexByte
    rw [if_neg (by simpa using h b (by simp)), ixb_none l c (fun x hx => h x (by simp [hx]))]
    rfl
theorem ixb_high (u : ByteArray) (c : UInt8) (w : World) (hu : ∀ b ∈ u.data.toList, b.toNat < 128) (hc : 128 ≤ c.toNat) : Calls Tryz.prog 127 #[.string u, .int .u8 c.toNat] w fun e w' => e = .returned (.int .i64 (-1)) ∧ w' = w := by
  refine (Tryz.strings_IndexByte u c.toNat w).mono ?_
  rintro e w' ⟨rfl, rfl⟩
  refine ⟨?_, rfl⟩
  rw [show (c.toNat : Int).toNat.toUInt8 = c by rw [Int.toNat_natCast]; exact UInt8.ofNat_toNat, ixb_none _ _ (fun b hb e => by have := hu b hb; rw [e] at this; omega)]
set_option maxHeartbeats 800000 in
set_option maxRecDepth 100000 in
theorem ix_rune_high (r : Int) (w : World) (h0 : 128 ≤ r) (hv : Utf8.valid r = true) (hne : r ≠ 65533) : Calls Tryz.prog 108 #[.string digS, .int .i32 r] w fun e w' => e = .returned (.int .i64 (-1)) ∧ Below w.heap.size w w' := by
  obtain ⟨s1, s2, hl⟩ := encode_facts r hv h0
  have hr0 : 0 ≤ r := by omega
  have hlt : ¬ r < 128 := by omega
  have heb : (r == 65533) = false := by rw [beq_eq_false_iff_ne]; exact hne
  have hvr : Lib.validRune r = true := by
    have := hv
    unfold Utf8.valid at this
    unfold Lib.validRune
    simp at this ⊢
    omega
  obtain ⟨last, hlast⟩ : ∃ last : Nat, last = (Utf8.encode r).size - 1 := ⟨_, rfl⟩
  have hll : last < (Utf8.encode r).size := by omega
  obtain ⟨c, hc⟩ : ∃ c : UInt8, c = (Utf8.encode r)[last]'hll := ⟨_, rfl⟩
  have hc128 : 128 ≤ c.toNat := by
    rw [hc]
    have := hl (by omega)
    simp only [← hlast] at this
    exact this
  clear hl
  generalize hrs : Utf8.encode r = rs at s1 s2 hll hc hlast
  have HRS := Lib.hid hrs
  clear hrs
  have hsz : (rs.size : Int) - 1 = last := by omega
  have h1 : 1 ≤ last := by omega
  have h3 : last ≤ 3 := by omega
  have HC := Lib.hid hc.symm
  clear hc
  obtain ⟨d, hd⟩ : ∃ d : UInt8, digS.data.toList[last]? = some d := ⟨_, List.getElem?_eq_getElem (by show last < 6; omega)⟩
  have hdl := dig_low d (List.mem_of_getElem? hd)
  have hdc : ((d.toNat : Int) != (c.toNat : Int)) = true := by rw [bne_iff_ne]; omega
  have HSZ := Lib.hid hsz
  clear hlast hsz
  have hsl : last < digS.size := by show last < 6; omega
  have hdx : digS[last] = d := by
    have := (List.getElem?_eq_some_iff.1 hd).2
    exact this
  have hrx := HC.out
  have HIX := Lib.hid (fun W => ixb_high (digS.extract (last + 1) digS.size) c W (fun b hb => dig_low b (mem_extract hb)) hc128)
  clear hd HC hdl
  go_enter Tryz.func108, Tryz.ntmps108
  go_wp2_with (first | (go_at_call 131; (with_reducible refine (Tryz.utf8_ValidRune r _).mono ?_); rw [hvr]; rintro e w2 ⟨rfl, rfl⟩))
  have hu : (Tryz.prog.underlying 21).isSome = true := by kernel_rfl
  have hcv : ∀ W : World, (convert 21 9 (.int .i32 r)).run Tryz.prog W = .ok (.string rs) W := fun W => by rw [run_convert_int_string W _ _ _ _ hu Tryz.underlying9, HRS.out]
  clear hvr heb
  go_wp2_with fail
  go_step3
  go_wp2_with fail
  rw [HSZ.out]
  go_loopw [9] (fun i_ W => i_ = .int .i64 (last : Int) ∧ W = w2) (fun _ _ => 0)
  case atStart => exact ⟨rfl, rfl⟩
  case round =>
    obtain ⟨rfl, rfl⟩ := hrel
    go_wp2_with fail
    go_step3
    go_wp2_with fail
    go_quiet (fail)
    go_wp2_with fail
    have HB6 := Lib.hid (below_drewN (Below.refl wr.heap.size wr) nq)
    have hz6 : (wr.drewN nq).heap.size = wr.heap.size := by simp
    have HZ6 := Lib.hid hz6
    clear hz6
    generalize wr.drewN nq = w6 at HB6 HZ6 ⊢
    have q1 : IntKind.i64.wrap ((last : Int) + 1) = (last : Int) + 1 := IntWalk.i64_in _ (by omega)
    have q2 : (0 : Int) ≤ (last : Int) + 1 := by omega
    have q3 : ((last : Int) + 1).toNat = last + 1 := by omega
    have q4 : (last : Int) + 1 ≤ (digS.size : Int) := by have : digS.size = 6 := rfl; omega
    have q5 : last + 1 ≤ digS.size := by have : digS.size = 6 := rfl; omega
    go_quiet ((go_at_call 127; exact Calls.quiet_of_same (HIX.out _)))
    clear q1 q2 q3 q4 q5
    go_wp2_with fail
    rw [Exit.noGoto_ret]
    go_wp2_with fail
    rw [Exit.noGoto_ret]
    try go_wp2_with fail
    go_ret
    exact ⟨rfl, below_drewN HB6.out _⟩

set_option maxHeartbeats 400000 in
theorem con_rune_high (r : Int) (w : World) (h0 : 128 ≤ r) (hv : Utf8.valid r = true) : Calls Tryz.prog 121 #[.string digS, .int .i32 r] w fun e w' => e = .returned (.bool false) ∧ Below w.heap.size w w' := by
  have HI := Lib.hid (show Calls Tryz.prog 108 #[.string digS, .int .i32 r] w fun e w' => e = .returned (.int .i64 (-1)) ∧ Below w.heap.size w w' by
    by_cases h : r = 65533
    · subst h; exact ix_rune_err w
    · exact ix_rune_high r w h0 hv h)
  clear h0 hv
  go_enter Tryz.func121, Tryz.ntmps121
  go_wp2_with fail
  refine HI.out.mono ?_
  rintro e w1 ⟨rfl, hb⟩
  go_wp2_with fail
  go_ret
  exact ⟨rfl, hb⟩
theorem dig_byte : ∀ n : Fin 256, decide (0 ≤ Lib.indexByte digS.data.toList (UInt8.ofNat n.val)) = digC (UInt8.ofNat n.val) := by decide +kernel
theorem con_rune_low (c : UInt8) (w : World) (h : c.toNat < 128) : Calls Tryz.prog 121 #[.string digS, .int .i32 (c.toNat : Int)] w fun e w' => e = .returned (.bool (digC c)) ∧ w' = w := by
  refine (Tryz.strings_ContainsRune_ascii digS (c.toNat : Int) w (by omega) (by omega)).mono ?_
  rintro e w' ⟨rfl, rfl⟩
  refine ⟨?_, rfl⟩
  have := dig_byte ⟨c.toNat, c.toNat_lt⟩
  simp only [UInt8.ofNat_toNat] at this
  rw [show (c.toNat : Int).toNat.toUInt8 = c by rw [Int.toNat_natCast]; exact UInt8.ofNat_toNat, this]
theorem dig_high {c : UInt8} (h : 128 ≤ c.toNat) : digC c = false := by
  cases hd : digC c with
  | false => rfl
  | true =>
    unfold digC at hd
    simp only [Bool.or_eq_true, beq_iff_eq] at hd
    rcases hd with ((((rfl | rfl) | rfl) | rfl) | rfl) | rfl <;> exact absurd h (by decide)
/-- are all bytes digits, one at least -/
def digB (s : ByteArray) : Bool := s.data.toList.all digC && !decide (s.size = 0)
theorem dec_low (s : ByteArray) (pos : Nat) (h : pos < s.size) (ha : (s[pos]'h).toNat < 128) : Utf8.decode s pos = ((s[pos]'h).toNat, 1) := decode_ascii s pos h ha
theorem all_take {s : ByteArray} {pos : Nat} (h : pos < s.size) : (s.data.toList.take (pos + 1)).all digC = ((s.data.toList.take pos).all digC && digC (s[pos]'h)) := by
  rw [List.take_succ_eq_append_getElem (by simpa using h), List.all_append]
  simp
  rfl
theorem all_not {s : ByteArray} {pos : Nat} (h : pos < s.size) (hd : digC (s[pos]'h) = false) : digB s = false := by
  unfold digB
  have : s.data.toList.all digC = false := by
    rw [List.all_eq_false]
    exact ⟨s[pos], by
      have : s[pos] = s.data.toList[pos]'(by simpa using h) := by simp; rfl
      rw [this]; exact List.getElem_mem _, by rw [hd]; simp⟩
  rw [this, Bool.false_and]

set_option maxHeartbeats 800000 in
set_option maxRecDepth 100000 in
theorem val_digits (s : ByteArray) (w : World) : Calls Tryz.prog 96 #[.string s] w fun e w' => e = .returned (.bool (digB s)) ∧ Below w.heap.size w w' := by
  go_enter Tryz.func96, Tryz.ntmps96
  go_wp2_with fail
  go_loopw [2] (fun r_ w' => ∃ pos : Nat, pos ≤ s.size ∧ r_ = .bool false ∧ (s.data.toList.take pos).all digC = true ∧ w' = w.iter s pos) (fun _ w' => s.size - w'.iterPos w.heap.size)
  case atStart => exact ⟨0, by omega, rfl, rfl, rfl⟩
  case round =>
    obtain ⟨pos, hps, rfl, hall, rfl⟩ := hrel
    have HA := Lib.hid hall
    clear hall
    by_cases hp : pos < s.size
    · have hnx : ∀ ty, (Instr.next (.pointer (some ⟨w.heap.size, 0, none⟩)) true ty).run Tryz.prog (w.iter s pos) = _ := fun ty => run_next_any w s pos ty hp
      have HT := Lib.hid (all_take hp)
      have HN := Lib.hid (fun h => all_not hp h)
      by_cases ha : (s[pos]'hp).toNat < 128
      · rw [dec_low s pos hp ha] at hnx
        generalize s[pos]'hp = c at ha hnx HT HN
        dsimp only at hnx
        cases hd : digC c with
        | true =>
          have HC := Lib.hid (con_rune_low c)
          rw [hd] at HC HT
          have HA2 := Lib.hid (show (s.data.toList.take (pos + 1)).all digC = true by rw [HT.out, HA.out]; rfl)
          clear hd
          go_wp2_with (first | (go_at_call 121; (with_reducible refine (HC.out _ ha).mono ?_); rintro e w2 ⟨rfl, rfl⟩))
          go_roundw
          case rel => exact ⟨pos + 1, by omega, rfl, HA2.out, rfl⟩
          case measure => simp; omega
        | false =>
          have HC := Lib.hid (con_rune_low c)
          rw [hd] at HC
          have HR := Lib.hid (HN.out hd)
          clear hd
          go_wp2_with (first | (go_at_call 121; (with_reducible refine (HC.out _ ha).mono ?_); rintro e w2 ⟨rfl, rfl⟩))
          go_ret
          exact ⟨ret_bool HR.out.symm, (Below.refl _ _).alloc (Nat.le_refl _) _⟩
      · have HR := Lib.hid (HN.out (dig_high (by omega)))
        have hd := decode_high s pos hp (by omega)
        have hv := dec_valid s pos
        have HC := Lib.hid (fun W => con_rune_high ((Utf8.decode s pos).1 : Int) W (by omega) hv)
        clear hd hv
        go_wp2_with fail
        refine (HC.out _).mono ?_
        rintro e w2 ⟨rfl, hb⟩
        go_wp2_with fail
        go_ret
        exact ⟨ret_bool HR.out.symm, ext_alloc hb⟩
    · obtain rfl : pos = s.size := by omega
      have hnx : ∀ ty, (Instr.next (.pointer (some ⟨w.heap.size, 0, none⟩)) true ty).run Tryz.prog (w.iter s s.size) = _ := fun ty => run_next_end w s s.size ty hp
      have hal : s.data.toList.all digC = true := by
        have := HA.out
        rwa [List.take_of_length_le (by simp)] at this
      by_cases h0 : s.size = 0
      · have hse : s = ⟨#[]⟩ := by
          cases s with | mk d => congr 1; exact Array.eq_empty_of_size_eq_zero h0
        subst hse
        have HR := Lib.hid (show digB ⟨#[]⟩ = false from rfl)
        have hnx0 : ∀ ty, (Instr.next (.pointer (some ⟨w.heap.size, 0, none⟩)) true ty).run Tryz.prog (w.iter ⟨#[]⟩ 0) = _ := fun ty => run_next_end w ⟨#[]⟩ 0 ty (by decide)
        clear hnx hp hal
        go_wp2_with fail
        go_ret
        exact ⟨ret_bool HR.out.symm, (Below.refl _ _).alloc (Nat.le_refl _) _⟩
      · have HR := Lib.hid (show digB s = true by unfold digB; rw [hal, decide_eq_false h0]; rfl)
        have hE := toList_ne s h0
        clear hal h0
        go_wp2_with fail
        go_ret
        exact ⟨ret_bool HR.out.symm, (Below.refl _ _).alloc (Nat.le_refl _) _⟩
end Go.Proofs.YtgnkjcdkfcikeaaGreatDoor
