import Derived.Test.YtlbcfmhpkcpmaaaGreatDoorBits2
namespace Go.Proofs.YtlbcfmhpkcpmaaaGreatDoor
open Go.RowKit

def byteVal (c : UInt8) : Value := .int .u8 c.toNat

theorem bytesRow_own (w : World) (s : ByteArray) (cap : Nat) (e : TypeId) (n : Nat) (hn : s.size ≤ n) :
    OwnRow (w.alloc (.cells (bytesRow s cap) e (n, n+1))) w.heap.size (s.data.toList.map byteVal) := by
  intro j v hj
  have hlt : j < s.data.toList.length := by
    have := (List.getElem?_eq_some_iff.1 hj).1
    simpa using this
  have hlt' : j < s.data.size := by simpa using hlt
  refine ⟨?_, ?_⟩
  · rw [World.cell?_alloc_mark, bytesRow_at s cap j hlt', ← hj]
    rw [List.getElem?_map, List.getElem?_eq_getElem hlt]; rfl
  · rw [World.frozen?_alloc_mark]
    have : s.data.size = s.size := rfl
    simp; omega

theorem bytesRow_size (s : ByteArray) (cap : Nat) : s.size ≤ (bytesRow s cap).size := by
  have : s.data.size = s.size := rfl
  simp [bytesRow]

theorem each_set (g : UInt8 → UInt8) (l : List UInt8) (k : Nat) (h : k < l.length) :
    (((l.take k).map g ++ l.drop k).map byteVal).set k (byteVal (g l[k])) = (((l.take (k+1)).map g ++ l.drop (k+1)).map byteVal) := by
  apply List.ext_getElem?
  intro i
  by_cases e : i = k
  · subst e
    have h1 : (List.map g (List.take i l)).length = i := by simp; omega
    have h2 : (List.map g (List.take (i+1) l)).length = i + 1 := by simp; omega
    rw [List.getElem?_set_self (by simp; omega)]
    simp only [List.getElem?_map]
    rw [List.getElem?_append_left (by omega)]
    simp [h]
  · rw [List.getElem?_set_ne (fun h => e h.symm)]
    simp only [List.getElem?_map]
    congr 1
    by_cases hik : i < k
    · rw [List.getElem?_append_left (by simp; omega), List.getElem?_append_left (by simp; omega)]
      simp [hik, show i < k + 1 by omega]
    · rw [List.getElem?_append_right (by simp; omega), List.getElem?_append_right (by simp; omega)]
      simp only [List.getElem?_drop, List.length_map, List.length_take]
      congr 1
      omega

theorem each_mid (g : UInt8 → UInt8) (l : List UInt8) (k : Nat) (h : k < l.length) :
    (((l.take k).map g ++ l.drop k).map byteVal)[k]? = some (byteVal l[k]) := by
  rw [List.getElem?_map, List.getElem?_append_right (by simp; omega)]
  simp only [List.length_map, List.length_take, List.getElem?_drop]
  rw [show k + (k - min k l.length) = k by omega, List.getElem?_eq_getElem h]
  rfl

set_option maxHeartbeats 400000 in
set_option maxRecDepth 100000 in
theorem bits_each (s : ByteArray) (g : UInt8 → UInt8) (hF : ∀ c w, Calls Tryz.prog 73 #[.int .u8 (UInt8.toNat c)] w fun e w' => e = .returned (.int .u8 (g c).toNat) ∧ w = w') (w : World) (hs : s.size ≤ maxLen) :
    Calls Tryz.prog 72 #[.string s, .func (.func 73) #[] #[]] w fun e w' => e = .returned (.string ⟨(s.data.toList.map g).toArray⟩) ∧ Below w.heap.size w w' := by
  unfold maxLen at hs
  have HF := Lib.hid hF
  clear hF
  have hcv := run_bytes_of_string (P := Tryz.prog) w 9 96 5 s Tryz.underlying9 Tryz.underlying96 Tryz.underlying5
  have hown := bytesRow_own w.drew s (grownCap w s.size 0 5) 5 (bytesRow s (grownCap w s.size 0 5)).size (bytesRow_size _ _)
  have hbel : Below w.heap.size w (w.drew.alloc (.cells (bytesRow s (grownCap w s.size 0 5)) 5 ((bytesRow s (grownCap w s.size 0 5)).size, (bytesRow s (grownCap w s.size 0 5)).size + 1))) := (Below.refl _ _).drew.alloc (Nat.le_refl _) _
  have hgc := grownCap_ge w s.size 0 5
  generalize grownCap w s.size 0 5 = cap at *
  generalize w.drew.alloc (.cells (bytesRow s cap) 5 ((bytesRow s cap).size, (bytesRow s cap).size + 1)) = w1 at *
  go_enter Tryz.func72, Tryz.ntmps72
  go_wp2_with fail
  clear hcv
  go_loopw [6, 7, 12] (fun _ _ i wr => ∃ k : Nat, k ≤ s.size ∧ i = .int .i64 k ∧ OwnRow wr w.heap.size (((s.data.toList.take k).map g ++ s.data.toList.drop k).map byteVal) ∧ Below w.heap.size w wr)
    (fun _ _ i _ => s.size - (intOf i).toNat)
  case atStart => exact ⟨0, Nat.zero_le _, rfl, by simpa using hown, hbel⟩
  case round =>
    obtain ⟨k, hk, rfl, hr, hb⟩ := hrel
    clear hown hbel
    by_cases hlt : k < s.size
    · have hkl : k < s.data.toList.length := by simpa using hlt
      have hlen : (((s.data.toList.take k).map g ++ s.data.toList.drop k).map byteVal).length = s.size := by simp; omega
      have hcell : wr.cell? ⟨w.heap.size, k, none⟩ = some (.int .u8 s[k].toNat) := hr.cell (each_mid g _ k hkl)
      have hfree : wr.frozen? ⟨w.heap.size, k, none⟩ = false := hr.free (by omega)
      have HR := Lib.hid hr
      have HL := Lib.hid hlen
      clear hr hlen
      go_wp2_with fail
      refine (HF.out _ _).mono ?_
      rintro e w' ⟨rfl, rfl⟩
      go_wp2_with fail
      go_roundw
      case rel => exact ⟨k + 1, by omega, by go_num, by rw [← each_set g _ k hkl]; exact HR.out.set (by rw [HL.out]; omega) _, hb.setCell (Nat.le_refl _) _⟩
      case measure => simp [intOf]; omega
    · obtain rfl : k = s.size := by omega
      have e1 : (((s.data.toList.take s.size).map g ++ s.data.toList.drop s.size).map byteVal) = (s.data.toList.map g).map byteVal := by
        rw [List.take_of_length_le (by simp), List.drop_eq_nil_of_le (by simp)]; simp
      rw [e1] at hr
      have hcb := run_convert_bytes_back (P := Tryz.prog) wr 96 9 5 ⟨w.heap.size, 0, none⟩ cap (s.data.toList.map g) Tryz.underlying96 Tryz.underlying5 Tryz.underlying9 (fun j hj => by
        have := hr.cell (j := j) (v := byteVal (s.data.toList.map g)[j]) (by rw [List.getElem?_map, List.getElem?_eq_getElem hj]; rfl)
        rw [addr_add, Nat.zero_add]; exact this)
      rw [show (s.data.toList.map g).length = s.size by simp] at hcb
      clear hr e1
      go_wp2_with fail
      go_ret
      exact ⟨rfl, hb⟩
def bvInv (s : ByteArray) : ByteArray := if bvIs s then ⟨(s.data.toList.map invB).toArray⟩ else ⟨#[]⟩

set_option maxHeartbeats 400000 in
theorem bits_Inverse (s : ByteArray) (w : World) (hs : s.size ≤ maxLen) :
    Calls Tryz.prog 43 #[.string s] w fun e w' => e = .returned (.string (bvInv s)) ∧ Below w.heap.size w w' := by
  go_enter Tryz.func43, Tryz.ntmps43
  go_wp2_with fail
  refine (bits_is _ _ hs).mono ?_
  rintro e w1 ⟨rfl, hb⟩
  cases h : bvIs s
  · go_wp2_with fail
    go_ret
    exact ⟨ret_str (by simp [bvInv, h]), hb⟩
  · go_wp2_with fail
    refine (bits_each s invB logic_Inverse _ hs).mono ?_
    rintro e w2 ⟨rfl, hb2⟩
    go_wp2_with fail
    go_ret
    exact ⟨ret_str (by simp [bvInv, h]), ext_trans hb hb2⟩

/-- what Slice returns -/
def slR (s : ByteArray) (low n : Int) : ByteArray × Int :=
  if bvIs s = false then (⟨#[]⟩, 1) else if low < 0 ∨ n < 1 ∨ (s.size : Int) < n ∨ (s.size : Int) - n < low then (⟨#[]⟩, 2)
  else (s.extract (s.size - low.toNat - n.toNat) (s.size - low.toNat), 0)
set_option maxHeartbeats 400000 in
theorem bits_Slice (s : ByteArray) (low n : Int) (w : World) (hs : s.size ≤ maxLen) :
    Calls Tryz.prog 44 #[.string s, .int .i64 low, .int .i64 n] w fun e w' => e = .returned (.tuple #[.string (slR s low n).1, .int .i64 (slR s low n).2]) ∧ Below w.heap.size w w' := by
  cases h : bvIs s
  · have e : slR s low n = (⟨#[]⟩, 1) := by simp [slR, h]
    have E := Lib.hid e
    clear e
    go_enter Tryz.func44, Tryz.ntmps44
    go_wp2_with fail
    refine (bits_is _ _ hs).mono ?_
    rintro e w1 ⟨rfl, hb⟩
    rw [h]
    go_wp2_with fail
    go_ret2
    exact ⟨ret_str_int E.out.symm, hb⟩
  by_cases hc : low < 0 ∨ n < 1 ∨ (s.size : Int) < n ∨ (s.size : Int) - n < low
  · have e : slR s low n = (⟨#[]⟩, 2) := by rw [slR, if_neg (by simp [h]), if_pos hc]
    have E := Lib.hid e
    clear e
    unfold maxLen at hs
    go_enter Tryz.func44, Tryz.ntmps44
    go_wp2_with fail
    refine (bits_is _ _ hs).mono ?_
    rintro e w1 ⟨rfl, hb⟩
    rw [h]
    go_wp2_with fail
    all_goals first | (exfalso; omega) | (go_ret2; exact ⟨ret_str_int E.out.symm, hb⟩)
  · have e : slR s low n = (s.extract (s.size - low.toNat - n.toNat) (s.size - low.toNat), 0) := by rw [slR, if_neg (by simp [h]), if_neg hc]
    have E := Lib.hid e
    clear e
    unfold maxLen at hs
    obtain ⟨g1, g2, g3, g4⟩ : 0 ≤ low ∧ 1 ≤ n ∧ n ≤ (s.size : Int) ∧ low ≤ (s.size : Int) - n := by omega
    clear hc
    go_enter Tryz.func44, Tryz.ntmps44
    go_wp2_with fail
    refine (bits_is _ _ hs).mono ?_
    rintro e w1 ⟨rfl, hb⟩
    rw [h]
    go_wp2_with fail
    go_ret2
    refine ⟨ret_str_int (E.out.trans ?_).symm, hb⟩
    rw [show ((s.size : Int) - low - n).toNat = s.size - low.toNat - n.toNat by omega, show ((s.size : Int) - low).toNat = s.size - low.toNat by omega]
end Go.Proofs.YtlbcfmhpkcpmaaaGreatDoor
