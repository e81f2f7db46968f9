import Derived.Test.YtgnkjcdkfcikeaaGreatDoorCw1
import Derived.BigQuiet
namespace Go.Proofs.YtgnkjcdkfcikeaaGreatDoor
open Go.RowKit

/-! the shortest digits -/
def strLn : Value → Nat | .string s => s.size | _ => 0
theorem drop1 {v : ByteArray} : (v.extract 1 v.size).data.toList = v.data.toList.drop 1 := by
  rw [Lib.extract_data]
  rw [List.take_of_length_le (by simp)]
theorem sho_cons {v : ByteArray} (h : 1 < v.size) : v.data.toList = v[0] :: v[1] :: v.data.toList.drop 2 := by
  have hl : v.data.toList.length = v.size := by simp
  have e0 : v.data.toList[0]'(by omega) = v[0] := by simp; rfl
  have e1 : v.data.toList[1]'(by omega) = v[1] := by simp; rfl
  rw [← e0, ← e1, ← List.drop_eq_getElem_cons (by omega)]
  rw [← List.drop_eq_getElem_cons (by omega)]
  rfl
def shoB (s : ByteArray) : ByteArray := bsB (shoL s.data.toList)
set_option maxHeartbeats 1600000 in
set_option maxRecDepth 100000 in
theorem bits_Shorten (s : ByteArray) (w : World) (hs : bvIs s = true) : Calls Tryz.prog 69 #[.string s] w fun e w' => e = .returned (.string (shoB s)) ∧ Below w.heap.size w w' := by
  have hbd : 1 ≤ s.size ∧ s.size ≤ 128 := by
    unfold bvIs at hs
    rw [Bool.and_eq_true, Bool.and_eq_true, decide_eq_true_iff, decide_eq_true_iff] at hs
    exact hs.1
  have HI := Lib.hid (bits_is s w (by unfold maxLen; omega))
  rw [hs] at HI
  obtain ⟨h1, h2⟩ := hbd
  clear hs
  go_enter Tryz.func69, Tryz.ntmps69
  go_wp2_with fail
  refine HI.out.mono ?_
  rintro e w1 ⟨rfl, hb⟩
  have HB1 := Lib.hid hb
  clear hb
  go_wp2_with fail
  go_loopw [0] (fun v_ wr => ∃ v : ByteArray, v_ = .string v ∧ shoL v.data.toList = shoL s.data.toList ∧ (1 ≤ v.size ∧ v.size ≤ 128) ∧ Below w.heap.size w wr) (fun v_ _ => strLn v_)
  case atStart => exact ⟨s, rfl, rfl, ⟨h1, h2⟩, HB1.out⟩
  case round =>
    obtain ⟨v, rfl, hsh, ⟨v1, v2⟩, hb⟩ := hrel
    have HB := Lib.hid hb
    have HSL := Lib.hid hsh
    clear hb hsh HB1
    by_cases hv : 1 < v.size
    · have hvd : decide ((v.size : Int) > 1) = true := by rw [decide_eq_true_iff]; omega
      have hvn : decide (1 < v.size) = true := by rw [decide_eq_true_iff]; exact hv
      have hc := sho_cons hv
      have hp0 : 0 < v.size := by omega
      have hpi0 : (0 : Int) < (v.size : Int) := by omega
      have hpi1 : (1 : Int) < (v.size : Int) := by omega
      have HSZ := Lib.hid (show 1 ≤ (v.extract 1 v.size).size ∧ (v.extract 1 v.size).size ≤ 128 by simp; omega)
      have hq := HSL.out
      rw [hc] at hq
      have hd1 : v.data.toList.drop 1 = v[1] :: v.data.toList.drop 2 := by rw [hc]; rfl
      have HD1 := Lib.hid hd1
      have HC := Lib.hid hc
      obtain ⟨c, hc0⟩ : ∃ c, c = v[0] := ⟨_, rfl⟩
      obtain ⟨d, hd0⟩ : ∃ d, d = v[1] := ⟨_, rfl⟩
      rw [← hc0, ← hd0] at hq HC
      rw [← hd0] at HD1
      replace hc0 := hc0.symm
      replace hd0 := hd0.symm
      clear hc hd1
      have hcn : (c.toNat < 256) ∧ d.toNat < 256 := ⟨c.toNat_lt, d.toNat_lt⟩
      have hun : ∀ x y : UInt8, x ≠ y → ((x.toNat : Int) == (y.toNat : Int)) = false := fun x y h => by rw [beq_eq_false_iff_ne]; intro e; exact h (UInt8.toNat_inj.1 (by omega))
      have HUN := Lib.hid hun
      have HV := Lib.hid (bsB_of v)
      clear hun hcn
      have h49v : ((49 : UInt8).toNat : Int) = 49 := rfl
      have h48v : ((48 : UInt8).toNat : Int) = 48 := rfl
      have H49 := Lib.hid h49v
      have H48 := Lib.hid h48v
      clear h49v h48v
      by_cases hcd : c = d
      · subst hcd
        by_cases h49 : c = 49
        · subst h49
          have HSH := Lib.hid (show v = shoB s by
            unfold shoB
            rw [← HSL.out, HC.out]
            unfold shoL
            rw [if_neg (by rintro (⟨-, h⟩ | ⟨h, -⟩); (exact h rfl); (exact absurd h (by decide))), ← HC.out, bsB_of])
          clear hq
          go_wp2_with fail
          go_quiet (fail)
          go_wp2_with fail
          go_ret
          exact ⟨ret_str HSH.out, below_drewN HB.out _⟩
        · have HSH := Lib.hid (show shoL (v.data.toList.drop 1) = shoL s.data.toList by
            rw [← hq, HD1.out]
            conv => rhs; unfold shoL
            rw [if_pos (.inl ⟨rfl, h49⟩)])
          have e1 := HUN.out c 49 h49
          rw [H49.out] at e1
          have e1b : ((c.toNat : Int) != 49) = true := by rw [bne, e1]; rfl
          clear hq h49
          go_wp2_with fail
          go_quiet (fail)
          go_wp2_with fail
          go_roundw
          case rel => exact ⟨_, rfl, by rw [drop1]; exact HSH.out, HSZ.out, below_drewN HB.out _⟩
          case measure =>
            show (v.extract 1 v.size).size < v.size
            have := HSZ.out
            have h2 : (v.extract 1 v.size).size = v.size - 1 := by simp
            omega
      · have e0 := HUN.out c d hcd
        by_cases h48 : c = 48
        · subst h48
          by_cases hd49 : d = 49
          · subst hd49
            have HSH := Lib.hid (show shoL (v.data.toList.drop 1) = shoL s.data.toList by
              rw [← hq, HD1.out]
              conv => rhs; unfold shoL
              rw [if_pos (.inr ⟨rfl, rfl⟩)])
            clear hq hcd
            go_wp2_with fail
            go_quiet (fail)
            go_wp2_with fail
            go_roundw
            case rel => exact ⟨_, rfl, by rw [drop1]; exact HSH.out, HSZ.out, below_drewN HB.out _⟩
            case measure =>
              show (v.extract 1 v.size).size < v.size
              have := HSZ.out
              have h2 : (v.extract 1 v.size).size = v.size - 1 := by simp
              omega
          · have HSH := Lib.hid (show v = shoB s by
              unfold shoB
              rw [← HSL.out, HC.out]
              unfold shoL
              rw [if_neg (by rintro (⟨h, -⟩ | ⟨-, h⟩); (exact hcd h); (exact hd49 h)), ← HC.out, bsB_of])
            have e1 := HUN.out d 49 hd49
            rw [H49.out] at e1
            rw [H48.out] at e0
            clear hq hcd hd49
            go_wp2_with fail
            go_quiet (fail)
            go_wp2_with fail
            go_ret
            exact ⟨ret_str HSH.out, below_drewN HB.out _⟩
        · have HSH := Lib.hid (show v = shoB s by
            unfold shoB
            rw [← HSL.out, HC.out]
            unfold shoL
            rw [if_neg (by rintro (⟨h, -⟩ | ⟨h, -⟩); (exact hcd h); (exact h48 h)), ← HC.out, bsB_of])
          have e1 := HUN.out c 48 h48
          rw [H48.out] at e1
          clear hq hcd h48
          go_wp2_with fail
          go_quiet (fail)
          go_wp2_with fail
          go_ret
          exact ⟨ret_str HSH.out, below_drewN HB.out _⟩
    · have hvd : decide ((v.size : Int) > 1) = false := by rw [decide_eq_false_iff_not]; omega
      have hvn : decide (1 < v.size) = false := by rw [decide_eq_false_iff_not]; exact hv
      have HSH := Lib.hid (show v = shoB s by
        unfold shoB
        rw [← HSL.out]
        have hl : v.data.toList.length = 1 := by simp; omega
        match hvl : v.data.toList, hl with
        | [c], _ =>
          show v = bsB [c]
          rw [← hvl, bsB_of])
      go_wp2_with fail
      go_quiet (fail)
      go_wp2_with fail
      go_ret
      exact ⟨ret_str HSH.out, below_drewN HB.out _⟩
end Go.Proofs.YtgnkjcdkfcikeaaGreatDoor
