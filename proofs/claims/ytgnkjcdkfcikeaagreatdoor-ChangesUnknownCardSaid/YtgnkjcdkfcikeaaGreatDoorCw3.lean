import Derived.Test.YtgnkjcdkfcikeaaGreatDoorCw2
namespace Go.Proofs.YtgnkjcdkfcikeaaGreatDoor
open Go.RowKit

/-! digits that are extended -/
theorem ba_app2 (a b : ByteArray) : (a ++ b).data.toList = a.data.toList ++ b.data.toList := by simp
theorem okD_lst {l : Bs} : l.all (fun c => codeOf c != -1) = l.all okD := rfl
set_option maxHeartbeats 1600000 in
set_option maxRecDepth 100000 in
theorem bits_Extend (n : Int) (s : ByteArray) (w : World) (h1 : 1 ≤ n) (h2 : n ≤ 128) (h3 : s.size ≠ 0) (h4 : s.data.toList.all okD = true) (h5 : (s.size : Int) ≤ n) :
    Calls Tryz.prog 97 #[.int .i64 n, .string s] w fun e w' => e = .returned (.tuple #[.string (bsB (extB n.toNat s.data.toList)), .int .i64 0]) ∧ Below w.heap.size w w' := by
  have hE := toList_ne s h3
  have hp0 : 0 < s.size := by omega
  have hsum : cntC 0 s.data.toList + cntC 1 s.data.toList + cntC 2 s.data.toList + cntC 3 s.data.toList = s.size := by
    have := (cntC_sum s.data.toList).2 (by rw [okD_lst]; exact h4)
    simpa using this
  have l0 := cntC_le 0 s.data.toList
  have l1 := cntC_le 1 s.data.toList
  have l2 := cntC_le 2 s.data.toList
  have l3 := cntC_le 3 s.data.toList
  have hl : s.data.toList.length ≤ s.size := by simp
  have hcn : ((((cntC 0 s.data.toList : Int) + (cntC 1 s.data.toList : Int)) + (cntC 2 s.data.toList : Int)) + (cntC 3 s.data.toList : Int) != (s.size : Int)) = false := by
    rw [bne_eq_false_iff_eq]; omega
  obtain ⟨k, hk⟩ : ∃ k : Nat, n = (s.size : Int) + k := ⟨(n - s.size).toNat, by omega⟩
  obtain ⟨c, hc⟩ : ∃ c : UInt8, c = s[0] := ⟨_, rfl⟩
  have hfr : frD s.data.toList = if c = 49 then 48 else c := by
    have : s.data.toList = s[0] :: s.data.toList.drop 1 := by
      have e0 : s.data.toList[0]'(by simpa using hp0) = s[0] := by simp; rfl
      rw [← e0, ← List.drop_eq_getElem_cons (by simpa using hp0)]
      rfl
    rw [this, ← hc]
    rfl
  have HR : ∀ f : UInt8, frD s.data.toList = f → Hid ((⟨(List.replicate k f).toArray⟩ : ByteArray) ++ s = bsB (extB n.toNat s.data.toList)) := fun f hf => Lib.hid (by
    unfold extB
    rw [hf, show n.toNat - s.data.toList.length = k by simp; omega]
    rw [← bsB_of ((⟨(List.replicate k f).toArray⟩ : ByteArray) ++ s), ba_app2])
  replace hc := hc.symm
  subst hk
  have hsk : (s.size : Int) + (k : Int) - (s.size : Int) = (k : Int) := by omega
  clear h3 h4 hsum
  go_enter Tryz.func97, Tryz.ntmps97
  go_wp2_with fail
  refine (logic_Count s _ (by unfold maxLen; omega)).mono ?_
  rintro e w1 ⟨rfl, hb⟩
  unfold cnt4
  have HB := Lib.hid (hb.alloc hb.size (.cells #[.int .i64 (cntC 0 s.data.toList), .int .i64 (cntC 1 s.data.toList), .int .i64 (cntC 2 s.data.toList), .int .i64 (cntC 3 s.data.toList)] 170))
  clear hb
  by_cases h49 : c = 49
  · subst h49
    have H := HR 48 (by rw [hfr]; rfl)
    clear HR hfr
    have hcb : (convert 66 9 (.slice (some ⟨w1.heap.size + 1, 0, none⟩) 1 1)).run Tryz.prog ((w1.alloc (.cells #[.int .i64 (cntC 0 s.data.toList), .int .i64 (cntC 1 s.data.toList), .int .i64 (cntC 2 s.data.toList), .int .i64 (cntC 3 s.data.toList)] 170)).alloc (.cells #[.int .u8 48] 5)) = .ok (.string ⟨#[48]⟩) ((w1.alloc (.cells #[.int .i64 (cntC 0 s.data.toList), .int .i64 (cntC 1 s.data.toList), .int .i64 (cntC 2 s.data.toList), .int .i64 (cntC 3 s.data.toList)] 170)).alloc (.cells #[.int .u8 48] 5)) := by
      have := one_byte Tryz.prog (w1.alloc (.cells #[.int .i64 (cntC 0 s.data.toList), .int .i64 (cntC 1 s.data.toList), .int .i64 (cntC 2 s.data.toList), .int .i64 (cntC 3 s.data.toList)] 170)) 66 9 5 48 Tryz.underlying66 Tryz.underlying5 Tryz.underlying9
      rw [World.size_alloc] at this
      exact this
    go_wp2_with fail
    refine (Tryz.strings_Repeat ⟨#[48]⟩ k _ (by omega) (by simp [ByteArray.size]; omega)).mono ?_
    rintro e w2 ⟨rfl, hb2⟩
    have HB2 := Lib.hid (ext_trans (HB.out.alloc HB.out.size _) hb2)
    clear hb2
    rw [repeatL_one]
    go_wp2_with fail
    refine bodyPost_ret (v := .tuple #[.string (bsB (extB ((s.size : Int) + (k : Int)).toNat s.data.toList)), .int .i64 0]) (by rw [← H.out]; simp [results, Tryz.results97, go_sem]) rfl ?_
    exact ⟨rfl, HB2.out⟩
  · have H := HR c (by rw [hfr, if_neg h49])
    have e1 : ((c.toNat : Int) == 49) = false := by rw [beq_eq_false_iff_ne]; intro h; exact h49 (UInt8.toNat_inj.1 (by show c.toNat = 49; omega))
    clear HR hfr h49
    have hcb : (convert 66 9 (.slice (some ⟨w1.heap.size + 1, 0, none⟩) 1 1)).run Tryz.prog ((w1.alloc (.cells #[.int .i64 (cntC 0 s.data.toList), .int .i64 (cntC 1 s.data.toList), .int .i64 (cntC 2 s.data.toList), .int .i64 (cntC 3 s.data.toList)] 170)).alloc (.cells #[.int .u8 c.toNat] 5)) = .ok (.string ⟨#[c]⟩) ((w1.alloc (.cells #[.int .i64 (cntC 0 s.data.toList), .int .i64 (cntC 1 s.data.toList), .int .i64 (cntC 2 s.data.toList), .int .i64 (cntC 3 s.data.toList)] 170)).alloc (.cells #[.int .u8 c.toNat] 5)) := by
      have := one_byte Tryz.prog (w1.alloc (.cells #[.int .i64 (cntC 0 s.data.toList), .int .i64 (cntC 1 s.data.toList), .int .i64 (cntC 2 s.data.toList), .int .i64 (cntC 3 s.data.toList)] 170)) 66 9 5 c Tryz.underlying66 Tryz.underlying5 Tryz.underlying9
      rw [World.size_alloc] at this
      exact this
    go_wp2_with fail
    refine (Tryz.strings_Repeat ⟨#[c]⟩ k _ (by omega) (by simp [ByteArray.size]; omega)).mono ?_
    rintro e w2 ⟨rfl, hb2⟩
    have HB2 := Lib.hid (ext_trans (HB.out.alloc HB.out.size _) hb2)
    clear hb2
    rw [repeatL_one]
    go_wp2_with fail
    refine bodyPost_ret (v := .tuple #[.string (bsB (extB ((s.size : Int) + (k : Int)).toNat s.data.toList)), .int .i64 0]) (by rw [← H.out]; simp [results, Tryz.results97, go_sem]) rfl ?_
    exact ⟨rfl, HB2.out⟩
/-! the texts of values -/
theorem set_same' {α : Type} {l : List α} {i : Nat} {a : α} (h : l[i]? = some a) : l.set i a = l := by
  obtain ⟨h1, rfl⟩ := List.getElem?_eq_some_iff.1 h
  exact List.set_getElem_self h1
theorem digB_iff {s : ByteArray} : digB s = true ↔ s.data.toList.all digC = true ∧ s.size ≠ 0 := by
  unfold digB
  rw [Bool.and_eq_true, Bool.not_eq_true', decide_eq_false_iff_not]
theorem lowC_same {c : UInt8} (h1 : c ≠ 88) (h2 : c ≠ 90) : lowC c = c := by
  unfold lowC
  rw [if_neg (by rintro (h | h); (exact h1 h); (exact h2 h))]
def pbR (n : Int) (s : ByteArray) : ByteArray × Int := (bsB (pbL n s.data.toList).1, (pbL n s.data.toList).2)
theorem nil_bs : bsB [] = ⟨#[]⟩ := rfl
set_option maxHeartbeats 1600000 in
set_option maxRecDepth 100000 in
theorem val_parseBits (n : Int) (s : ByteArray) (w : World) (h1 : 1 ≤ n) (h2 : n ≤ 128) (hs : s.size ≤ maxLen) :
    Calls Tryz.prog 68 #[.int .i64 n, .string s] w fun e w' => e = .returned (.tuple #[.string (pbR n s).1, .int .i64 (pbR n s).2]) ∧ Below w.heap.size w w' := by
  unfold maxLen at hs
  have HD := Lib.hid (val_digits s w)
  cases hd : digB s with
  | false =>
    rw [hd] at HD
    have HR := Lib.hid (show pbR n s = (⟨#[]⟩, 3) by
      unfold pbR pbL
      rw [if_pos]
      · rfl
      · by_cases h0 : s.size = 0
        · exact .inl (List.eq_nil_of_length_eq_zero (by simpa using h0))
        · refine .inr ?_
          cases ha : s.data.toList.all digC with
          | false => rfl
          | true => rw [digB_iff.2 ⟨ha, h0⟩] at hd; cases hd)
    clear hd
    go_enter Tryz.func68, Tryz.ntmps68
    go_wp2_with fail
    refine HD.out.mono ?_
    rintro e w1 ⟨rfl, hb⟩
    go_wp2_with fail
    refine bodyPost_ret (v := .tuple #[.string ⟨#[]⟩, .int .i64 3]) (by simp [results, Tryz.results68, go_sem]) rfl ?_
    rw [HR.out]
    exact ⟨rfl, hb⟩
  | true =>
    rw [hd] at HD
    obtain ⟨hall, hne⟩ := digB_iff.1 hd
    have hnl : s.data.toList ≠ [] := fun h => hne (by have := congrArg List.length h; simpa using this)
    by_cases hl : n < s.size
    · have HR := Lib.hid (show pbR n s = (⟨#[]⟩, 8) by
        unfold pbR pbL
        rw [if_neg (by rintro (h | h); (exact hnl h); (rw [hall] at h; cases h)), if_pos (by simpa using hl)]
        rfl)
      have hlb : decide ((s.size : Int) > n) = true := by rw [decide_eq_true_iff]; exact hl
      clear hd hall hne hnl hl
      go_enter Tryz.func68, Tryz.ntmps68
      go_wp2_with fail
      refine HD.out.mono ?_
      rintro e w1 ⟨rfl, hb⟩
      go_wp2_with fail
      refine bodyPost_ret (v := .tuple #[.string ⟨#[]⟩, .int .i64 8]) (by simp [results, Tryz.results68, go_sem]) rfl ?_
      rw [HR.out]
      exact ⟨rfl, hb⟩
    · have hlow : (s.data.toList.map lowC).all okD = true := by
        rw [List.all_map, List.all_eq_true]
        intro c hc
        exact lowC_ok (List.all_eq_true.1 hall c hc)
      have HR := Lib.hid (show pbR n s = (bsB (extB n.toNat (s.data.toList.map lowC)), 0) by
        unfold pbR pbL
        rw [if_neg (by rintro (h | h); (exact hnl h); (rw [hall] at h; cases h)), if_neg (by simpa using hl)]
        unfold extL
        rw [if_neg (by omega), if_neg (by rintro (h | h); (exact hnl (List.map_eq_nil_iff.1 h)); (rw [hlow] at h; cases h)), if_neg (by simpa using hl)])
      have HX := Lib.hid (fun W => bits_Extend n (bsB (s.data.toList.map lowC)) W h1 h2 (by rw [bsB_size]; simpa using hne) (by rw [bsB_list]; exact hlow) (by rw [bsB_size, List.length_map]; simp; omega))
      rw [bsB_list] at HX
      have hlb : decide ((s.size : Int) > n) = false := by rw [decide_eq_false_iff_not]; omega
      have hs128 : s.size ≤ 128 := by omega
      clear hd hall hne hnl hl hlow
      go_enter Tryz.func68, Tryz.ntmps68
      go_wp2_with fail
      refine HD.out.mono ?_
      rintro e w1 ⟨rfl, hb⟩
      have HB1 := Lib.hid hb
      clear hb
      have hcv := run_bytes_of_string (P := Tryz.prog) w1 9 66 5 s Tryz.underlying9 Tryz.underlying66 Tryz.underlying5
      have hown := bytesRow_own w1.drew s (grownCap w1 s.size 0 5) 5 (bytesRow s (grownCap w1 s.size 0 5)).size (bytesRow_size _ _)
      have hbel : Below w1.heap.size w1 (w1.drew.alloc (.cells (bytesRow s (grownCap w1 s.size 0 5)) 5 ((bytesRow s (grownCap w1 s.size 0 5)).size, (bytesRow s (grownCap w1 s.size 0 5)).size + 1))) := (Below.refl _ _).drew.alloc (Nat.le_refl _) _
      have hgc := grownCap_ge w1 s.size 0 5
      generalize grownCap w1 s.size 0 5 = cap at *
      generalize w1.drew.alloc (.cells (bytesRow s cap) 5 ((bytesRow s cap).size, (bytesRow s cap).size + 1)) = w2 at *
      have HBL := Lib.hid (ext_trans HB1.out hbel)
      have HOW := Lib.hid hown
      have hz1 := HB1.out.size
      clear hbel hown
      go_wp2_with fail
      clear hcv
      go_loopw [7, 8, 22] (fun _ _ i wr => ∃ k : Nat, k ≤ s.size ∧ i = .int .i64 k ∧ OwnRow wr w1.heap.size (((s.data.toList.take k).map lowC ++ s.data.toList.drop k).map byteVal) ∧ Below w.heap.size w wr)
        (fun _ _ i _ => s.size - (intOf i).toNat)
      case atStart => exact ⟨0, Nat.zero_le _, rfl, by simpa using HOW.out, HBL.out⟩
      case round =>
        obtain ⟨k, hk, rfl, hr, hb⟩ := hrel
        by_cases hlt : k < s.size
        · have hkl : k < s.data.toList.length := by simpa using hlt
          have hlen : (((s.data.toList.take k).map lowC ++ s.data.toList.drop k).map byteVal).length = s.size := by simp; omega
          have hcell : wr.cell? ⟨w1.heap.size, k, none⟩ = some (.int .u8 s[k].toNat) := hr.cell (each_mid lowC _ k hkl)
          have hfree : wr.frozen? ⟨w1.heap.size, k, none⟩ = false := hr.free (by omega)
          have HST := Lib.hid (each_set lowC s.data.toList k hkl)
          have HMD := Lib.hid (each_mid lowC s.data.toList k hkl)
          have hsk : s.data.toList[k] = s[k] := by simp; rfl
          rw [hsk] at HST HMD
          have HR2 := Lib.hid hr
          have HL := Lib.hid hlen
          have HB := Lib.hid hb
          clear hr hlen hb hsk
          generalize s[k] = c at hcell HST HMD
          by_cases c88 : c = 88
          · subst c88
            go_wp2_with fail
            go_roundw
            case rel => exact ⟨k + 1, by omega, by go_num, by rw [← HST.out]; exact HR2.out.set (by rw [HL.out]; omega) _, HB.out.setCell hz1 _⟩
            case measure => simp [intOf]; omega
          · by_cases c90 : c = 90
            · subst c90
              go_wp2_with fail
              go_roundw
              case rel => exact ⟨k + 1, by omega, by go_num, by rw [← HST.out]; exact HR2.out.set (by rw [HL.out]; omega) _, HB.out.setCell hz1 _⟩
              case measure => simp [intOf]; omega
            · have e1 : ((c.toNat : Int) == 88) = false := by rw [beq_eq_false_iff_ne]; intro h; exact c88 (UInt8.toNat_inj.1 (by show c.toNat = 88; omega))
              have e2 : ((c.toNat : Int) == 90) = false := by rw [beq_eq_false_iff_ne]; intro h; exact c90 (UInt8.toNat_inj.1 (by show c.toNat = 90; omega))
              have HSM := Lib.hid (lowC_same c88 c90)
              clear c88 c90
              go_wp2_with fail
              go_roundw
              case rel => exact ⟨k + 1, by omega, by go_num, by rw [← HST.out, HSM.out, set_same' HMD.out]; exact HR2.out, HB.out⟩
              case measure => simp [intOf]; omega
        · obtain rfl : k = s.size := by omega
          have e1 : (((s.data.toList.take s.size).map lowC ++ s.data.toList.drop s.size).map byteVal) = (s.data.toList.map lowC).map byteVal := by
            rw [List.take_of_length_le (by simp), List.drop_eq_nil_of_le (by simp)]; simp
          rw [e1] at hr
          have hcb := run_convert_bytes_back (P := Tryz.prog) wr 66 9 5 ⟨w1.heap.size, 0, none⟩ cap (s.data.toList.map lowC) Tryz.underlying66 Tryz.underlying5 Tryz.underlying9 (fun j hj => by
            have := hr.cell (j := j) (v := byteVal (s.data.toList.map lowC)[j]) (by rw [List.getElem?_map, List.getElem?_eq_getElem hj]; rfl)
            rw [addr_add, Nat.zero_add]; exact this)
          rw [show (s.data.toList.map lowC).length = s.size by simp] at hcb
          have HB := Lib.hid hb
          clear hr e1 hb
          go_wp2_with fail
          refine (HX.out _).mono ?_
          rintro e w3 ⟨rfl, hb3⟩
          go_wp2_with fail
          refine bodyPost_ret (v := .tuple #[.string (bsB (extB n.toNat (s.data.toList.map lowC))), .int .i64 0]) (by simp [results, Tryz.results68, go_sem]) rfl ?_
          rw [HR.out]
          exact ⟨rfl, ext_trans HB.out hb3⟩

def evR (s : ByteArray) : ByteArray × Int := (bsB (evP s.data.toList).1, (evP s.data.toList).2)
set_option maxHeartbeats 400000 in
set_option maxRecDepth 100000 in
theorem val_parseEvent (n : Int) (s : ByteArray) (w : World) : Calls Tryz.prog 81 #[.int .i64 n, .string s] w fun e w' => e = .returned (.tuple #[.string (evR s).1, .int .i64 (evR s).2]) ∧ Below w.heap.size w w' := by
  by_cases h1 : s.size = 1
  · have HD := Lib.hid (val_digits s w)
    have hb1 : ((s.size : Int) != 1) = false := by rw [bne_eq_false_iff_eq]; omega
    cases hd : digB s with
    | false =>
      rw [hd] at HD
      have HR := Lib.hid (show evR s = (⟨#[]⟩, 3) by
        unfold evR evP
        rw [if_pos]
        · rfl
        · refine .inr ?_
          cases ha : s.data.toList.all digC with
          | false => rfl
          | true => rw [digB_iff.2 ⟨ha, by omega⟩] at hd; cases hd)
      clear hd h1
      go_enter Tryz.func81, Tryz.ntmps81
      go_wp2_with fail
      refine HD.out.mono ?_
      rintro e w1 ⟨rfl, hb⟩
      go_wp2_with fail
      refine bodyPost_ret (v := .tuple #[.string ⟨#[]⟩, .int .i64 3]) (by simp [results, Tryz.results81, go_sem]) rfl ?_
      rw [HR.out]
      exact ⟨rfl, hb⟩
    | true =>
      rw [hd] at HD
      have HR := Lib.hid (show evR s = (⟨#[]⟩, 0) by
        unfold evR evP
        rw [if_neg]
        · rfl
        · rintro (h | h)
          · exact h (by simpa using h1)
          · rw [(digB_iff.1 hd).1] at h; cases h)
      clear hd h1
      go_enter Tryz.func81, Tryz.ntmps81
      go_wp2_with fail
      refine HD.out.mono ?_
      rintro e w1 ⟨rfl, hb⟩
      go_wp2_with fail
      refine bodyPost_ret (v := .tuple #[.string ⟨#[]⟩, .int .i64 0]) (by simp [results, Tryz.results81, go_sem]) rfl ?_
      rw [HR.out]
      exact ⟨rfl, hb⟩
  · have hb1 : ((s.size : Int) != 1) = true := by rw [bne_iff_ne]; omega
    have HR := Lib.hid (show evR s = (⟨#[]⟩, 3) by
      unfold evR evP
      rw [if_pos (.inl (by simpa using h1))]
      rfl)
    clear h1
    go_enter Tryz.func81, Tryz.ntmps81
    go_wp2_with fail
    refine bodyPost_ret (v := .tuple #[.string ⟨#[]⟩, .int .i64 3]) (by simp [results, Tryz.results81, go_sem]) rfl ?_
    rw [HR.out]
    exact ⟨rfl, Below.refl _ _⟩

def decR (s : ByteArray) : ByteArray × Int := (bsB (decP s.data.toList).1, (decP s.data.toList).2)
theorem decR_some {s : ByteArray} {m : Num} (h : scanS s = some m) : decR s = (⟨(numText m).1.toArray⟩, (numText m).2) := by
  unfold decR decP
  rw [bsB_of, h]
  rfl
theorem decR_none {s : ByteArray} (h : scanS s = none) : decR s = (⟨#[]⟩, 3) := by
  unfold decR decP
  rw [bsB_of, h]
  rfl
set_option maxHeartbeats 400000 in
set_option maxRecDepth 100000 in
theorem dec_Parse (s : ByteArray) (w : World) (hg : Glob w) (hs : s.size ≤ maxLen) :
    Calls Tryz.prog 74 #[.string s] w fun e w' => e = .returned (.tuple #[.string (decR s).1, .int .i64 (decR s).2]) ∧ Below w.heap.size w w' := by
  have HG := Lib.hid hg
  clear hg
  go_enter Tryz.func74, Tryz.ntmps74
  go_wp2_with fail
  refine (dec_scan_any s _ hs).mono ?_
  rintro e w1 ⟨m, v, rfl, hv, hm, hl, hlo, hhi, hb⟩
  obtain ⟨a, cap, rfl, hc, hcm⟩ := hv.shape
  cases hsc : scanS s with
  | none =>
    have HR := Lib.hid (decR_none hsc)
    have HB := Lib.hid (hb.alloc hb.size (.cells #[.bool m.1, .slice a m.2.1.length cap, .int .i64 m.2.2] 151))
    simp only [Option.isSome_none]
    clear hm hsc hv hb
    go_wp2_with fail
    refine bodyPost_ret (v := .tuple #[.string ⟨#[]⟩, .int .i64 3]) (by simp [results, Tryz.results74, go_sem]) rfl ?_
    rw [HR.out]
    exact ⟨rfl, HB.out⟩
  | some n =>
    obtain rfl := hm n hsc
    have HR := Lib.hid (decR_some hsc)
    have hbb := hb.alloc hb.size (.cells #[.bool m.1, .slice a m.2.1.length cap, .int .i64 m.2.2] 151)
    have HB := Lib.hid hbb
    have hx := OwnRow.fresh w1 #[.bool m.1, .slice a m.2.1.length cap, .int .i64 m.2.2] 151
    have c0 := hx.cell (j := 0) rfl
    have c1 := hx.cell (j := 1) rfl
    have c2 := hx.cell (j := 2) rfl
    have HT := Lib.hid (dec_text m.1 (.slice a m.2.1.length cap) m.2.1 m.2.2 _ (HG.out.below hbb) (hv.below ((Below.refl w1.heap.size w1).alloc (Nat.le_refl _) _)) hl hlo hhi)
    simp only [Option.isSome_some]
    clear hm hsc hv hb hbb hx
    go_wp2_with fail
    refine HT.out.mono ?_
    rintro e w2 ⟨rfl, hb2⟩
    have HB2 := Lib.hid (ext_trans HB.out hb2)
    clear hb2 c0 c1 c2
    go_wp2_with fail
    refine bodyPost_ret (v := .tuple #[.string ⟨(numText (m.1, m.2.1, m.2.2)).1.toArray⟩, .int .i64 (numText (m.1, m.2.1, m.2.2)).2]) (by simp [results, Tryz.results74, go_sem]) rfl ?_
    rw [HR.out]
    exact ⟨rfl, HB2.out⟩
end Go.Proofs.YtgnkjcdkfcikeaaGreatDoor
