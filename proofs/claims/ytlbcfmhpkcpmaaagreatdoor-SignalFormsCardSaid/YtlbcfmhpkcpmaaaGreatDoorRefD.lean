import Derived.Test.YtlbcfmhpkcpmaaaGreatDoorRefC
namespace Go.Proofs.YtlbcfmhpkcpmaaaGreatDoor
open Go.RowKit

theorem one_byteI (P : Program) (w : World) (src dst e : TypeId) (c : UInt8) (x : Int) (hx : x = (c.toNat : Int)) (hs : P.underlying src = some (.slice e)) (he : P.underlying e = some (.int .u8)) (hd : P.underlying dst = some .string) :
    (convert src dst (.slice (some ⟨w.heap.size, 0, none⟩) 1 1)).run P (w.alloc (.cells #[.int .u8 x] e)) = .ok (.string ⟨#[c]⟩) (w.alloc (.cells #[.int .u8 x] e)) := by
  subst hx
  exact one_byte P w src dst e c hs he hd
/-- the last digit -/
def digB (n : Nat) : UInt8 := UInt8.ofNat (48 + n % 10)
theorem dig_byte (n : Nat) : (48 : Int) + (n : Int) % 10 = ((digB n).toNat : Int) := by
  unfold digB
  have : (UInt8.ofNat (48 + n % 10)).toNat = 48 + n % 10 := by rw [UInt8.toNat_ofNat']; omega
  rw [this]; omega
def DecPost (ds : List UInt8) (w : World) (e : Ending) (w' : World) : Prop := ∃ o : ByteArray, e = .returned (.string o) ∧ o.data.toList = ds ∧ Below w.heap.size w w'
theorem decDigits_le (n : Nat) (h : n ≤ 1000000) : (Lib.decDigits n).length ≤ 20 := by rw [Lib.decDigits_length]; exact Lib.nDigits_le20 n (by omega)

set_option maxHeartbeats 400000 in
set_option maxRecDepth 100000 in
theorem ref_DecimalN (n : Nat) (hn : n ≤ 1000000) (w : World) : Calls Tryz.prog 143 #[.int .i64 n] w (DecPost (Lib.decDigits n) w) := by
  induction n using Nat.strongRecOn generalizing w with
  | _ n ih =>
    have IH := Lib.hid ih
    clear ih
    have g0 : (0 : Int) ≤ (n : Int) := by omega
    have hcb := one_byteI Tryz.prog w 96 9 5 (digB n) _ (dig_byte n) Tryz.underlying96 Tryz.underlying5 Tryz.underlying9
    by_cases h : n < 10
    · have HR := Lib.hid (show Lib.decDigits n = [digB n] by rw [Lib.decDigits, dif_pos h]; unfold digB; rw [Nat.mod_eq_of_lt h])
      have g1 : (n : Int) < 10 := by omega
      clear h
      go_enter Tryz.func143, Tryz.ntmps143
      go_wp2_with fail
      go_ret
      exact ⟨_, rfl, HR.out.symm, (Below.refl _ _).alloc (Nat.le_refl _) _⟩
    · have HR : Hid (Lib.decDigits n = Lib.decDigits (n / 10) ++ [digB n]) := Lib.hid (by
        rw [Lib.decDigits, dif_neg h]
        rfl)
      have g1 : (10 : Int) ≤ (n : Int) := by omega
      have hl := decDigits_le (n / 10) (by omega)
      have HI := Lib.hid (IH.out (n / 10) (by omega) (by omega) (w.alloc (.cells #[.int .u8 (48 + (n : Int) % 10)] 5)))
      clear h IH
      go_enter Tryz.func143, Tryz.ntmps143
      go_wp2_with fail
      rw [show ((n : Int) / 10) = ((n / 10 : Nat) : Int) by omega]
      refine HI.out.mono ?_
      rintro e w1 ⟨o, rfl, ho, hb⟩
      have hol : o.size + 1 ≤ 9223372036854775807 := by
        have := congrArg List.length ho
        simp only [Array.length_toList] at this
        have h2 : o.data.size = o.size := rfl
        omega
      have HO := Lib.hid ho
      have HB := Lib.hid (ext_alloc hb)
      clear ho hb hcb
      go_wp2_with fail
      go_ret
      exact ⟨_, rfl, by rw [ba_app, HO.out, HR.out], HB.out⟩

set_option maxHeartbeats 400000 in
set_option maxRecDepth 100000 in
theorem ref_Decimal (x : Int) (h0 : -1000000 ≤ x) (h1 : x ≤ 1000000) (w : World) : Calls Tryz.prog 143 #[.int .i64 x] w (DecPost (Lib.itoa x) w) := by
  by_cases h : x < 0
  · obtain ⟨n, hn⟩ := Int.eq_ofNat_of_zero_le (show 0 ≤ -x by omega)
    have HR := Lib.hid (show Lib.itoa x = 45 :: Lib.decDigits n by rw [Lib.itoa, if_pos h, show x.natAbs = n by omega])
    have hl := decDigits_le n (by omega)
    have HI := Lib.hid (ref_DecimalN n (by omega) w)
    rw [← hn] at HI
    clear hn
    go_enter Tryz.func143, Tryz.ntmps143
    go_wp2_with fail
    refine HI.out.mono ?_
    rintro e w1 ⟨o, rfl, ho, hb⟩
    have hol : 1 + o.size ≤ 9223372036854775807 := by
      have := congrArg List.length ho
      simp only [Array.length_toList] at this
      have h2 : o.data.size = o.size := rfl
      omega
    have HO := Lib.hid ho
    clear ho
    go_wp2_with fail
    go_ret
    exact ⟨_, rfl, by rw [ba_app, HO.out, HR.out]; rfl, hb⟩
  · obtain ⟨n, rfl⟩ := Int.eq_ofNat_of_zero_le (show 0 ≤ x by omega)
    rw [show Lib.itoa (n : Int) = Lib.decDigits n by rw [Lib.itoa, if_neg h, Int.toNat_natCast]]
    exact ref_DecimalN n (by omega) w
end Go.Proofs.YtlbcfmhpkcpmaaaGreatDoor
