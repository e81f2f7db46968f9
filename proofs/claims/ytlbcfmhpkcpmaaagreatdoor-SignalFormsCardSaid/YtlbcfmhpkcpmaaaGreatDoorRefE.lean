import Derived.Test.YtlbcfmhpkcpmaaaGreatDoorRefD
import Derived.RegionTactic
import Derived.Deep.DeepCutAuto
namespace Go.Proofs.YtlbcfmhpkcpmaaaGreatDoor
open Go.RowKit

theorem OwnRow.setOther {w : World} {b b' : Nat} {xs : List Value} (h : OwnRow w b xs) (hb : b' ≠ b) (o : Nat) (u : Value) : OwnRow (w.setCell ⟨b', o, none⟩ u) b xs := by
  intro j v hj
  have := h j v hj
  refine ⟨?_, by rw [World.frozen?_setCell]; exact this.2⟩
  rw [World.cell?_setCell_other (h := by intro e; apply hb; injection e with e1 _ _)]
  exact this.1
theorem OwnRow.drewN {w : World} {b : Nat} {xs : List Value} (h : OwnRow w b xs) (n : Nat) : OwnRow (w.drewN n) b xs := h

/-- the boxes of strip -/
structure StripSt (w wr : World) (neg : Bool) (s : ByteArray) (ex : Int) : Prop where
  p : OwnRow wr w.heap.size [.bool neg, .string s, .int .i64 ex]
  r : OwnRow wr (w.heap.size + 1) [.bool false, .string ⟨#[]⟩, .int .i64 0]
  b : Below w.heap.size w wr
theorem StripSt.drew {w wr : World} {neg : Bool} {s : ByteArray} {ex : Int} (h : StripSt w wr neg s ex) : StripSt w wr.drew neg s ex := ⟨h.p, h.r, h.b.drew⟩
theorem StripSt.set1 {w wr : World} {neg : Bool} {s s' : ByteArray} {ex : Int} (h : StripSt w wr neg s ex) : StripSt w (wr.setCell ⟨w.heap.size, 1, none⟩ (.string s')) neg s' ex :=
  ⟨h.p.set (j := 1) (by simp) _, h.r.setOther (by omega) _ _, h.b.setCell (Nat.le_refl _) _⟩
theorem StripSt.set2 {w wr : World} {neg : Bool} {s : ByteArray} {ex ex' : Int} (h : StripSt w wr neg s ex) : StripSt w (wr.setCell ⟨w.heap.size, 2, none⟩ (.int .i64 ex')) neg s ex' :=
  ⟨h.p.set (j := 2) (by simp) _, h.r.setOther (by omega) _ _, h.b.setCell (Nat.le_refl _) _⟩

def szAt (w : World) (b : Nat) : Nat := match w.cell? ⟨b, 1, none⟩ with | some (.string s) => s.size | _ => 0
theorem szAt_eq {w wr : World} {neg : Bool} {s : ByteArray} {ex : Int} (h : StripSt w wr neg s ex) : szAt wr w.heap.size = s.size := by unfold szAt; rw [h.p.cell (j := 1) rfl]

theorem ba_tail (s : ByteArray) (h : 0 < s.size) : s.data.toList = s[0] :: (s.extract 1 s.size).data.toList := by
  have h1 : s.data.toList.length = s.size := by simp
  have := List.drop_eq_getElem_cons (l := s.data.toList) (i := 0) (by omega)
  rw [List.drop_zero] at this
  rw [Lib.extract_data, List.take_of_length_le (by rw [List.length_drop]; omega)]
  exact this
theorem ba_last (s : ByteArray) (h : 0 < s.size) : s.data.toList = (s.extract 0 (s.size - 1)).data.toList ++ [s[s.size - 1]] := by
  have h1 : s.data.toList.length = s.size := by simp
  rw [Lib.extract_data, List.drop_zero, Nat.sub_zero]
  have := List.take_succ_eq_append_getElem (l := s.data.toList) (i := s.size - 1) (by omega)
  rw [Nat.sub_add_cancel h, List.take_of_length_le (by omega)] at this
  exact this
theorem ext1_size (s : ByteArray) (h : 0 < s.size) : (s.extract 1 s.size).size = s.size - 1 := by
  have h1 : s.data.toList.length = s.size := by simp
  have := congrArg List.length (ba_tail s h)
  simp only [List.length_cons] at this
  have h2 : (s.extract 1 s.size).data.toList.length = (s.extract 1 s.size).size := by simp
  omega
theorem ext0_size (s : ByteArray) (h : 0 < s.size) : (s.extract 0 (s.size - 1)).size = s.size - 1 := by
  have h1 : s.data.toList.length = s.size := by simp
  have := congrArg List.length (ba_last s h)
  simp only [List.length_append, List.length_singleton] at this
  have h2 : (s.extract 0 (s.size - 1)).data.toList.length = (s.extract 0 (s.size - 1)).size := by simp
  omega

/-- what strip returns -/
def stripR (neg : Bool) (d : List UInt8) (ex : Int) : Bool × List UInt8 × Int :=
  let d1 := d.dropWhile (· == 48)
  if trimR 48 d1 = [] then (false, [], 0) else (neg, trimR 48 d1, ex - ((d.length : Int) - d1.length))
def StripPost (r : Bool × List UInt8 × Int) (w : World) (e : Ending) (w' : World) : Prop := ∃ o : ByteArray, e = .returned (.agg #[.bool r.1, .string o, .int .i64 r.2.2]) ∧ o.data.toList = r.2.1 ∧ Below w.heap.size w w'

set_option maxHeartbeats 800000 in
set_option maxRecDepth 100000 in
theorem ref_strip (neg : Bool) (d : ByteArray) (ex : Int) (w : World) (hd : d.size ≤ 1000) (h0 : -1000000 ≤ ex) (h1 : ex ≤ 1000000) :
    Calls Tryz.prog 142 #[.agg #[.bool neg, .string d, .int .i64 ex]] w (StripPost (stripR neg d.data.toList ex) w) := by
  have hst : StripSt w ((w.alloc (.cells #[.bool neg, .string d, .int .i64 ex] 121)).alloc (.cells #[.bool false, .string ⟨#[]⟩, .int .i64 0] 121)) neg d ex := by
    refine ⟨?_, ?_, ((Below.refl _ _).alloc (Nat.le_refl _) _).alloc (by simp) _⟩
    · exact (OwnRow.fresh w #[.bool neg, .string d, .int .i64 ex] _).alloc (by simp) _
    · have h := OwnRow.fresh (w.alloc (.cells #[.bool neg, .string d, .int .i64 ex] 121)) #[.bool false, .string ⟨#[]⟩, .int .i64 0] 121
      simp only [World.size_alloc] at h
      exact h
  have HST := Lib.hid hst
  clear hst
  go_enter Tryz.func142, Tryz.ntmps142
  go_wp2_with fail
  go_loopw [3] (fun _ wr => ∃ (s : ByteArray) (x : Int), StripSt w wr neg s x ∧ s.data.toList.dropWhile (· == 48) = d.data.toList.dropWhile (· == 48) ∧ x - s.size = ex - d.size ∧ s.size ≤ d.size) (fun _ wr => szAt wr w.heap.size)
  case atStart => exact ⟨d, ex, HST.out, rfl, rfl, Nat.le_refl _⟩
  case round =>
    obtain ⟨s, x, hs, hdw, hx, hsd⟩ := hrel
    have HS := Lib.hid hs
    have HDW := Lib.hid hdw
    have HX := Lib.hid hx
    have hxl : -1001000 ≤ x ∧ x ≤ 1001000 := by omega
    obtain ⟨hx0, hx1⟩ := hxl
    have c0 := hs.p.cell (j := 0) rfl
    have c1 := hs.p.cell (j := 1) rfl
    have c2 := hs.p.cell (j := 2) rfl
    have f1 := hs.p.free (j := 1) (by simp)
    have f2 := hs.p.free (j := 2) (by simp)
    clear hs hdw hx HST
    by_cases hpos : 0 < s.size
    · by_cases hz : s[0] = 48
      · have hzb : ((s[0].toNat : Int) == 48) = true := u8_eq_t (b := 48) hz
        have HZ := Lib.hid hz
        clear hz
        have HT := Lib.hid (ba_tail s hpos)
        have HSZ := Lib.hid (ext1_size s hpos)
        have hw : IntKind.i64.wrap (x - 1) = x - 1 := IntWalk.i64_in _ (by omega)
        go_wp2_with fail
        go_region
        all_goals
          go_wp2_with fail
          go_roundw
          case rel =>
            refine ⟨s.extract 1 s.size, x - 1, ?_, ?_, ?_, ?_⟩
            · exact HS.out.set1.set2.drew
            · rw [← HDW.out, HT.out, List.dropWhile_cons, if_pos (by rw [HZ.out]; rfl)]
            · rw [HSZ.out]; have := HX.out; omega
            · rw [HSZ.out]; omega
          case measure => rw [szAt_eq HS.out, szAt_eq HS.out.set1.set2.drew, HSZ.out]; omega
      · have hzb : ((s[0].toNat : Int) == 48) = false := u8_nl (n := 48) rfl hz
        have HZ := Lib.hid hz
        have HD := Lib.hid (show d.data.toList.dropWhile (· == 48) = s.data.toList by
          rw [← HDW.out, ba_tail s hpos, List.dropWhile_cons, if_neg (by simpa using hz)])
        have hw : IntKind.i64.wrap ((s.size : Int) - 1) = (s.size : Int) - 1 := IntWalk.i64_in _ (by omega)
        clear hz
        go_wp2_with fail
        go_loopw [21] (fun _ wr => ∃ (s2 : ByteArray) (tl : List UInt8), StripSt w wr neg s2 x ∧ trimR 48 s2.data.toList = trimR 48 s.data.toList ∧ s.data.toList = s2.data.toList ++ tl ∧ 0 < s2.size ∧ s2.size ≤ s.size) (fun _ wr => szAt wr w.heap.size)
        case atStart => exact ⟨s, [], HS.out, rfl, by simp, hpos, Nat.le_refl _⟩
        case round =>
          obtain ⟨s2, tl, hs2, htr, hap, hpos2, hsz2⟩ := hrel
          have HS2 := Lib.hid hs2
          have HTR := Lib.hid htr
          have HAP := Lib.hid hap
          have d0 := hs2.p.cell (j := 0) rfl
          have d1 := hs2.p.cell (j := 1) rfl
          have d2 := hs2.p.cell (j := 2) rfl
          have f1 := hs2.p.free (j := 1) (by simp)
          have r0 := hs2.r.cell (j := 0) rfl
          have r1 := hs2.r.cell (j := 1) rfl
          have r2 := hs2.r.cell (j := 2) rfl
          have q0 := hs2.r.free (j := 0) (by simp)
          have q1 := hs2.r.free (j := 1) (by simp)
          have q2 := hs2.r.free (j := 2) (by simp)
          have HLAST := Lib.hid (ba_last s2 hpos2)
          have hw2 : IntKind.i64.wrap ((s2.size : Int) - 1) = (s2.size : Int) - 1 := IntWalk.i64_in _ (by omega)
          have hi0 : (0 : Int) ≤ (s2.size : Int) - 1 := by omega
          have hi1 : ((s2.size : Int) - 1).toNat = s2.size - 1 := by omega
          clear hs2 htr hap
          by_cases hl : s2[s2.size - 1] = 48
          · have hlb : ((s2[s2.size - 1].toNat : Int) == 48) = true := u8_eq_t (b := 48) hl
            have HSZ2 := Lib.hid (ext0_size s2 hpos2)
            have HL := Lib.hid hl
            clear hl
            go_wp2_with fail
            have hpos3 : 0 < s2.size - 1 := by
              rcases Nat.lt_or_ge 1 s2.size with h | h
              · omega
              · exfalso
                have e1 := ba_tail s hpos
                rw [HAP.out, HLAST.out] at e1
                have e2 : (s2.extract 0 (s2.size - 1)).data.toList = [] := List.length_eq_zero_iff.1 (by
                  have : (s2.extract 0 (s2.size - 1)).data.toList.length = (s2.extract 0 (s2.size - 1)).size := by simp
                  rw [this, HSZ2.out]; omega)
                rw [e2, HL.out] at e1
                simp only [List.nil_append, List.singleton_append, List.cons.injEq] at e1
                exact HZ.out e1.1.symm
            go_wp2_with fail
            refine ⟨⟨s2.extract 0 (s2.size - 1), [s2[s2.size - 1]] ++ tl, HS2.out.set1, ?_, ?_, ?_, ?_⟩, ?_⟩
            · rw [← HTR.out, HLAST.out, trimR_snoc, if_pos HL.out]
            · rw [← List.append_assoc, ← HLAST.out]; exact HAP.out
            · rw [HSZ2.out]; exact hpos3
            · rw [HSZ2.out]; omega
            · rw [szAt_eq HS2.out, szAt_eq HS2.out.set1, HSZ2.out]; omega
          · have hlb : ((s2[s2.size - 1].toNat : Int) == 48) = false := u8_nl (n := 48) rfl hl
            have hne := toList_ne s2 (by omega)
            have HR := Lib.hid (show stripR neg d.data.toList ex = (neg, s2.data.toList, x) by
              have e1 : trimR 48 s.data.toList = s2.data.toList := by
                rw [← HTR.out, HLAST.out, trimR_snoc, if_neg hl]
              unfold stripR
              simp only
              rw [HD.out, e1, if_neg (by intro h; rw [h] at HLAST; have := HLAST.out; simp at this)]
              have h2 : s.data.toList.length = s.size := by simp
              have h3 : d.data.toList.length = d.size := by simp
              have := HX.out
              rw [h2, h3]
              congr 2
              omega)
            clear hl
            go_wp2_with fail
            obtain ⟨e0, e1, e2⟩ := set3 r0 r1 r2 (.bool neg) (.string s2) (.int .i64 x)
            refine bodyPost_ret (v := .agg #[.bool neg, .string s2, .int .i64 x]) (by simp [results, Tryz.results142, go_sem, e0, e1, e2]) rfl ?_
            rw [HR.out]
            exact ⟨s2, rfl, rfl, ((HS2.out.b.setCell (Nat.le_succ _) _).setCell (Nat.le_succ _) _).setCell (Nat.le_succ _) _⟩
    · have HE := Lib.hid (show s.data.toList = [] from List.length_eq_zero_iff.1 (by
        have : s.data.toList.length = s.size := by simp
        omega))
      have HSZ0 := Lib.hid (show s.size = 0 by omega)
      have r0 := HS.out.r.cell (j := 0) rfl
      have r1 := HS.out.r.cell (j := 1) rfl
      have r2 := HS.out.r.cell (j := 2) rfl
      have q0 := HS.out.r.free (j := 0) (by simp)
      have q1 := HS.out.r.free (j := 1) (by simp)
      have q2 := HS.out.r.free (j := 2) (by simp)
      have he : s.toList.isEmpty = true := by rw [ByteArray.toList_eq, HE.out]; rfl
      have HR := Lib.hid (show stripR neg d.data.toList ex = (false, [], 0) by
        unfold stripR
        simp only
        rw [← HDW.out, HE.out, List.dropWhile_nil, if_pos (trimR_nil 48)])
      have hsz : s.size ≤ 0 := by omega
      go_wp2_with fail
      refine wp_loop_rounds 1 ?_
      rw [rounds_succ]
      go_wp2_with fail
      obtain ⟨e0, e1, e2⟩ := set3 r0 r1 r2 (.bool false) (.string ⟨#[]⟩) (.int .i64 0)
      refine bodyPost_ret (v := .agg #[.bool false, .string ⟨#[]⟩, .int .i64 0]) (by simp [results, Tryz.results142, go_sem, e0, e1, e2]) rfl ?_
      rw [HR.out]
      exact ⟨⟨#[]⟩, rfl, rfl, ((HS.out.b.setCell (Nat.le_succ _) _).setCell (Nat.le_succ _) _).setCell (Nat.le_succ _) _⟩
end Go.Proofs.YtlbcfmhpkcpmaaaGreatDoor
