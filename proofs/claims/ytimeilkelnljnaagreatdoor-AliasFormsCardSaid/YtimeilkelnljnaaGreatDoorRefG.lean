import Derived.Test.YtimeilkelnljnaaGreatDoorRefG0
namespace Go.Proofs.YtimeilkelnljnaaGreatDoor
open Go.RowKit

def ReadPost (s : ByteArray) (w : World) (e : Ending) (w' : World) : Prop :=
  ∃ (neg : Bool) (ds : ByteArray) (ex : Int) (ok : Bool), e = .returned (.tuple #[.agg #[.bool neg, .string ds, .int .i64 ex], .bool ok]) ∧ readS s = (if ok = true then some (neg, ds.data.toList, ex) else none) ∧
    (ok = true → ds.size ≤ 1000 ∧ -1000000 ≤ ex ∧ ex ≤ 1000000) ∧ Below w.heap.size w w'
theorem ReadPost.no {s : ByteArray} {w w' : World} (h : readS s = none) (hb : Below w.heap.size w w') : ReadPost s w (.returned (.tuple #[.agg #[.bool false, .string ⟨#[]⟩, .int .i64 0], .bool false])) w' :=
  ⟨_, _, _, _, rfl, by simp [h], (fun h => (by cases h)), hb⟩

theorem below_drewN0 {B : Nat} {a w : World} (h : Below B a w) (n : Nat) : Below B a (w.drewN n) := ⟨h.os, h.tape, h.output, h.size, h.block⟩
/-- the boxes of Read -/
structure RdSt (w wr : World) (neg : Bool) (s : ByteArray) (ex : Int) : Prop where
  p : OwnRow wr (w.heap.size + 1) [.bool neg, .string s, .int .i64 ex]
  r : OwnRow wr w.heap.size [.bool false, .string ⟨#[]⟩, .int .i64 0]
  b : Below w.heap.size w wr
theorem RdSt.set0 {w wr : World} {neg neg' : Bool} {s : ByteArray} {ex : Int} (h : RdSt w wr neg s ex) : RdSt w (wr.setCell ⟨w.heap.size + 1, 0, none⟩ (.bool neg')) neg' s ex :=
  ⟨h.p.set (j := 0) (by simp) _, h.r.setOther (by omega) _ _, h.b.setCell (Nat.le_succ _) _⟩
theorem RdSt.set1 {w wr : World} {neg : Bool} {s s' : ByteArray} {ex : Int} (h : RdSt w wr neg s ex) : RdSt w (wr.setCell ⟨w.heap.size + 1, 1, none⟩ (.string s')) neg s' ex :=
  ⟨h.p.set (j := 1) (by simp) _, h.r.setOther (by omega) _ _, h.b.setCell (Nat.le_succ _) _⟩
theorem RdSt.set2 {w wr : World} {neg : Bool} {s : ByteArray} {ex ex' : Int} (h : RdSt w wr neg s ex) : RdSt w (wr.setCell ⟨w.heap.size + 1, 2, none⟩ (.int .i64 ex')) neg s ex' :=
  ⟨h.p.set (j := 2) (by simp) _, h.r.setOther (by omega) _ _, h.b.setCell (Nat.le_succ _) _⟩
theorem RdSt.drew {w wr : World} {neg : Bool} {s : ByteArray} {ex : Int} (h : RdSt w wr neg s ex) : RdSt w wr.drew neg s ex := ⟨h.p, h.r, h.b.drew⟩
theorem RdSt.drewN {w wr : World} {neg : Bool} {s : ByteArray} {ex : Int} (h : RdSt w wr neg s ex) (n : Nat) : RdSt w (wr.drewN n) neg s ex := ⟨h.p, h.r, below_drewN0 h.b n⟩
theorem RdSt.res {w wr : World} {neg : Bool} {s : ByteArray} {ex : Int} (h : RdSt w wr neg s ex) (a b c : Value) :
    ((((wr.setCell ⟨w.heap.size, 0, none⟩ a).setCell ⟨w.heap.size, 1, none⟩ b).setCell ⟨w.heap.size, 2, none⟩ c).cell? ⟨w.heap.size, 0, none⟩ = some a ∧ (((wr.setCell ⟨w.heap.size, 0, none⟩ a).setCell ⟨w.heap.size, 1, none⟩ b).setCell ⟨w.heap.size, 2, none⟩ c).cell? ⟨w.heap.size, 1, none⟩ = some b ∧ (((wr.setCell ⟨w.heap.size, 0, none⟩ a).setCell ⟨w.heap.size, 1, none⟩ b).setCell ⟨w.heap.size, 2, none⟩ c).cell? ⟨w.heap.size, 2, none⟩ = some c) ∧
      Below w.heap.size w (((wr.setCell ⟨w.heap.size, 0, none⟩ a).setCell ⟨w.heap.size, 1, none⟩ b).setCell ⟨w.heap.size, 2, none⟩ c) :=
  ⟨set3 (h.r.cell (j := 0) rfl) (h.r.cell (j := 1) rfl) (h.r.cell (j := 2) rfl) a b c, below_box3 h.b a b c⟩
/-- what a walk reads of the boxes -/
theorem RdSt.facts {w wr : World} {neg : Bool} {s : ByteArray} {ex : Int} (h : RdSt w wr neg s ex) :
    (wr.cell? ⟨w.heap.size + 1, 0, none⟩ = some (.bool neg) ∧ wr.cell? ⟨w.heap.size + 1, 1, none⟩ = some (.string s) ∧ wr.cell? ⟨w.heap.size + 1, 2, none⟩ = some (.int .i64 ex)) ∧
    (wr.frozen? ⟨w.heap.size + 1, 0, none⟩ = false ∧ wr.frozen? ⟨w.heap.size + 1, 1, none⟩ = false ∧ wr.frozen? ⟨w.heap.size + 1, 2, none⟩ = false) ∧
    (wr.cell? ⟨w.heap.size, 0, none⟩ = some (.bool false) ∧ wr.cell? ⟨w.heap.size, 1, none⟩ = some (.string ⟨#[]⟩) ∧ wr.cell? ⟨w.heap.size, 2, none⟩ = some (.int .i64 0)) ∧
    (wr.frozen? ⟨w.heap.size, 0, none⟩ = false ∧ wr.frozen? ⟨w.heap.size, 1, none⟩ = false ∧ wr.frozen? ⟨w.heap.size, 2, none⟩ = false) :=
  ⟨⟨h.p.cell (j := 0) rfl, h.p.cell (j := 1) rfl, h.p.cell (j := 2) rfl⟩, ⟨h.p.free (j := 0) (by simp), h.p.free (j := 1) (by simp), h.p.free (j := 2) (by simp)⟩,
    ⟨h.r.cell (j := 0) rfl, h.r.cell (j := 1) rfl, h.r.cell (j := 2) rfl⟩, ⟨h.r.free (j := 0) (by simp), h.r.free (j := 1) (by simp), h.r.free (j := 2) (by simp)⟩⟩

/-- is a byte of s one of some -/
theorem hit_at (set : List UInt8) (s : ByteArray) (k : Nat) (h : k < s.size) : oneHit set s k = set.contains s[k] := by
  unfold oneHit
  rw [List.getElem?_eq_getElem (show k < s.data.toList.length by simpa using h)]
  rfl
theorem hit_end (set : List UInt8) (s : ByteArray) (k : Nat) (h : s.size ≤ k) : oneHit set s k = false := by
  unfold oneHit
  rw [List.getElem?_eq_none (show s.data.toList.length ≤ k by simpa using h)]

theorem hit_two (a b : UInt8) (s : ByteArray) (k : Nat) : oneHit [a, b] s k = (oneHit [a] s k || oneHit [b] s k) := by
  unfold oneHit
  cases s.data.toList[k]? with
  | none => rfl
  | some c => simp
theorem signS_no {s : ByteArray} (h : oneHit [43, 45] s 0 = false) : signS s = (false, 0) := by
  rw [hit_two, Bool.or_eq_false_iff] at h
  simp [signS, h.1, h.2]
theorem signS_yes {s : ByteArray} (h : oneHit [43, 45] s 0 = true) : signS s = (oneHit [45] s 0, 1) := by
  rw [hit_two, Bool.or_eq_true] at h
  unfold signS
  cases h1 : oneHit [45] s 0
  · rw [h1] at h
    have h2 : oneHit [43] s 0 = true := by simpa using h
    simp [h2]
  · simp
theorem expAt_eq (s : ByteArray) (k : Nat) : expAt s k = (oneHit [45] s k, if oneHit [43, 45] s k = true then k + 1 else k) := by
  rw [hit_two]
  unfold expAt
  cases h1 : oneHit [45] s k
  · simp
  · simp
theorem hit45 (s : ByteArray) (k : Nat) (h : k < s.size) : ((s[k].toNat : Int) == 45) = oneHit [45] s k := by
  rw [hit_at _ s k h]
  by_cases h1 : s[k] = 45
  · have : ((s[k].toNat : Int) == 45) = true := u8_eq_t (b := 45) h1
    rw [this, h1]; rfl
  · rw [u8_nl (n := 45) rfl h1]; simp [h1]

theorem ref_digitsI (s : ByteArray) (k : Nat) (x : Int) (w : World) (hx : x = (k : Int)) (hk : k ≤ s.size) (hs : s.size ≤ maxLen) :
    Calls Tryz.prog 142 #[.string s, .int .i64 x] w fun e w' => e = .returned (.int .i64 (digRun s k)) ∧ w = w' := by
  subst hx; exact ref_digits s k w hk hs
theorem of_lt {a b : Nat} (h : a < b) : decide (a < b) = true := by simpa using h
theorem of_nlt {a b : Nat} (h : ¬ a < b) : decide (a < b) = false := by simpa using h
theorem refExp_bd (s : ByteArray) (k j : Nat) (hj : j ≤ digRun s k) : 0 ≤ refExp (subL s k j) ∧ refExp (subL s k j) ≤ 100000 := by
  induction j with
  | zero => simp [subL, refExp]
  | succ j ih =>
    obtain ⟨h0, h1⟩ := ih (by omega)
    obtain ⟨x, hx, hp⟩ := takeWhile_at isDig _ j (show j < ((s.data.toList.drop k).takeWhile isDig).length from hj)
    have : subL s k (j + 1) = subL s k j ++ [x] := by
      unfold subL
      rw [List.take_add_one, hx]; rfl
    rw [this, refExp_snoc]
    simp [isDig] at hp
    omega
theorem subL_snoc (s : ByteArray) (k j : Nat) (h : k + j < s.size) : subL s k (j + 1) = subL s k j ++ [s[k + j]] := by
  unfold subL
  rw [List.take_add_one, List.getElem?_drop, List.getElem?_eq_getElem (show k + j < s.data.toList.length by simpa using h)]
  rfl
theorem ReadPost.mk {s : ByteArray} {w w' : World} {neg : Bool} {ds : ByteArray} {ex : Int} {k : Nat} (h : readS s = if k = s.size then some (neg, ds.data.toList, ex) else none) (h1 : ds.size ≤ 1000) (h2 : -1000000 ≤ ex) (h3 : ex ≤ 1000000)
    (hb : Below w.heap.size w w') : ReadPost s w (.returned (.tuple #[.agg #[.bool neg, .string ds, .int .i64 ex], .bool ((k : Int) == (s.size : Int))])) w' := by
  refine ⟨_, _, _, _, rfl, ?_, fun _ => ⟨h1, h2, h3⟩, hb⟩
  rw [h]
  by_cases hk : k = s.size
  · rw [if_pos hk, if_pos (by simp [hk])]
  · rw [if_neg hk, if_neg (by simp; omega)]

set_option maxHeartbeats 3200000 in
set_option maxRecDepth 100000 in
theorem ref_Read (s : ByteArray) (w : World) (hs : s.size ≤ maxLen) : Calls Tryz.prog 128 #[.string s] w (ReadPost s w) := by
  have hst : RdSt w ((w.alloc (.cells #[.bool false, .string ⟨#[]⟩, .int .i64 0] 135)).alloc (.cells #[.bool false, .string ⟨#[]⟩, .int .i64 0] 135)) false ⟨#[]⟩ 0 := by
    refine ⟨?_, ?_, ((Below.refl _ _).alloc (Nat.le_refl _) _).alloc (by simp) _⟩
    · have h := OwnRow.fresh (w.alloc (.cells #[.bool false, .string ⟨#[]⟩, .int .i64 0] 135)) #[.bool false, .string ⟨#[]⟩, .int .i64 0] 135
      simp only [World.size_alloc] at h
      exact h
    · exact (OwnRow.fresh w #[.bool false, .string ⟨#[]⟩, .int .i64 0] _).alloc (by simp) _
  have HST := Lib.hid hst
  have HM := Lib.hid hs
  unfold maxLen at hs
  clear hst
  go_enter Tryz.func128, Tryz.ntmps128
  go_upto_region 3 with fail
  go_cut [23] (fun v wc => v = .bool (oneHit [43, 45] s 0) ∧ RdSt w wc false ⟨#[]⟩ 0)
  case first =>
    by_cases hp : 0 < s.size
    · have hh := hit_at [43, 45] s (0) hp
      have hd := of_lt hp
      by_cases h1 : s[0] = 43
      · have HH := Lib.hid (show oneHit [43, 45] s (0) = true by rw [hh, h1]; rfl)
        have hb1 : ((s[0].toNat : Int) == 43) = true := u8_eq_t (b := 43) h1
        clear hh h1
        go_wp2_with fail
        go_meet
        case rel => exact ⟨by rw [HH.out], HST.out⟩
      · have hb1 : ((s[0].toNat : Int) == 43) = false := u8_nl (n := 43) rfl h1
        by_cases h2 : s[0] = 45
        · have HH := Lib.hid (show oneHit [43, 45] s (0) = true by rw [hh, h2]; rfl)
          have hb2 : ((s[0].toNat : Int) == 45) = true := u8_eq_t (b := 45) h2
          clear hh h1 h2
          go_wp2_with fail
          go_meet
          case rel => exact ⟨by rw [HH.out], HST.out⟩
        · have HH := Lib.hid (show oneHit [43, 45] s (0) = false by rw [hh]; simp [h1, h2])
          have hb2 : ((s[0].toNat : Int) == 45) = false := u8_nl (n := 45) rfl h2
          clear hh h1 h2
          go_wp2_with fail
          go_meet
          case rel => exact ⟨by rw [HH.out], HST.out⟩
    · have HH := Lib.hid (hit_end [43, 45] s (0) (by omega))
      have h0 : s.size ≤ 0 := by omega
      have hd := of_nlt hp
      clear hp
      go_wp2_with fail
      go_meet
      case rel => exact ⟨by rw [HH.out], HST.out⟩
  case rest =>
    obtain ⟨rfl, h1⟩ := hcut
    have H1 := Lib.hid h1
    clear h1 HST
    go_upto_if 23 with fail
    go_cut [5] (fun v wc => ∃ (k : Nat) (neg : Bool), v = .int .i64 k ∧ signS s = (neg, k) ∧ k ≤ s.size ∧ RdSt w wc neg ⟨#[]⟩ 0)
    case first =>
      cases hh : oneHit [43, 45] s 0
      · have HS := Lib.hid (signS_no hh)
        clear hh
        go_wp2_with fail
        go_meet
        case rel => exact ⟨0, false, rfl, HS.out, Nat.zero_le _, H1.out⟩
      · have hp := oneHit_lt hh
        have HS := Lib.hid (signS_yes hh)
        have HB := Lib.hid (hit45 s 0 hp)
        have hd := of_lt hp
        obtain ⟨⟨c0, c1, c2⟩, ⟨f0, f1, f2⟩, ⟨r0, r1, r2⟩, q0, q1, q2⟩ := (H1.out).facts
        clear hh
        go_wp2_with fail
        go_meet
        case rel => exact ⟨1, _, rfl, HS.out, hp, by rw [← HB.out]; exact H1.out.set0⟩
    case rest =>
      obtain ⟨k, neg, rfl, hsg, hk, h2⟩ := hcut
      have H2 := Lib.hid h2
      have HSG := Lib.hid hsg
      clear h2 hsg H1
      go_wp2_with fail
      refine (ref_digits s k _ hk HM.out).mono ?_
      rintro e w1 ⟨rfl, rfl⟩
      by_cases hz : digRun s k = 0
      · have hzb : ((digRun s k : Int) == 0) = true := by simp [hz]
        have HN := Lib.hid (show readS s = none by
          unfold readS
          split
          · rfl
          · simp only [HSG.out]; rw [if_pos hz])
        obtain ⟨⟨c0, c1, c2⟩, ⟨f0, f1, f2⟩, ⟨r0, r1, r2⟩, q0, q1, q2⟩ := (H2.out).facts
        clear hz
        go_wp2_with fail
        obtain ⟨⟨e0, e1, e2⟩, hbb⟩ := RdSt.res H2.out (.bool false) (.string ⟨#[]⟩) (.int .i64 0)
        exact bodyPost_ret (v := .tuple #[.agg #[.bool false, .string ⟨#[]⟩, .int .i64 0], .bool false]) (by simp [results, Tryz.results128, go_sem, e0, e1, e2]) rfl (ReadPost.no HN.out hbb)
      have hzb : ((digRun s k : Int) == 0) = false := by rw [beq_eq_false_iff_ne]; omega
      by_cases hbig : 64 < s.size
      · have HN := Lib.hid (show readS s = none by unfold readS; rw [if_pos hbig])
        obtain ⟨⟨c0, c1, c2⟩, ⟨f0, f1, f2⟩, ⟨r0, r1, r2⟩, q0, q1, q2⟩ := (H2.out).facts
        go_wp2_with fail
        obtain ⟨⟨e0, e1, e2⟩, hbb⟩ := RdSt.res H2.out (.bool false) (.string ⟨#[]⟩) (.int .i64 0)
        exact bodyPost_ret (v := .tuple #[.agg #[.bool false, .string ⟨#[]⟩, .int .i64 0], .bool false]) (by simp [results, Tryz.results128, go_sem, e0, e1, e2]) rfl (ReadPost.no HN.out hbb)
      have hs64 : s.size ≤ 64 := by omega
      have hdl := digRun_le s k hk
      obtain ⟨n, hn⟩ : ∃ n, n = digRun s k := ⟨_, rfl⟩
      rw [← hn] at hz hzb hdl ⊢
      have HD1 := Lib.hid (show (s.extract k (k + n)).data.toList = subL s k n by rw [Lib.extract_data, Nat.add_sub_cancel_left]; rfl)
      have HD2 := Lib.hid (subL_size s k n hdl)
      have HNN := Lib.hid hn
      have HREAD := Lib.hid (show readS s = (match fracS s (k + n) (subL s k n) with
          | none => none
          | some (ds, _, k) =>
            match expS' s k with
            | none => none
            | some (e, k') => if k' = s.size then some (neg, ds, (n : Int) - 1 + e) else none) by
        unfold readS
        rw [if_neg (by omega)]
        simp only [HSG.out]
        rw [if_neg (by omega), ← hn]
        rfl)
      have hnp : 0 < n := by omega
      clear hbig hz hn
      obtain ⟨⟨c0, c1, c2⟩, ⟨f0, f1, f2⟩, ⟨r0, r1, r2⟩, q0, q1, q2⟩ := (H2.out).facts
      go_upto_region 9 with fail
      generalize s.extract k (k + n) = d1 at HD1 HD2 ⊢
      have H3 := Lib.hid (H2.out.set1 (s' := d1) |>.set2 (ex' := (n : Int) - 1))
      clear c0 c1 c2 f0 f1 f2 r0 r1 r2 q0 q1 q2 H2
      have HB9 := Lib.hid (show s.size ≤ 64 from hs64)
      go_cut [61] (fun v wc => v = .bool (oneHit [46] s (k + n)) ∧ RdSt w wc neg d1 ((n : Int) - 1))
      case first =>
        by_cases hp : k + n < s.size
        · have hh := hit_at [46] s (k + n) hp
          have hd := of_lt hp
          by_cases h1 : s[k + n] = 46
          · have HH := Lib.hid (show oneHit [46] s (k + n) = true by rw [hh, h1]; rfl)
            have hb1 : ((s[k + n].toNat : Int) == 46) = true := u8_eq_t (b := 46) h1
            clear hh h1
            go_wp2_with fail
            go_meet
            case rel => exact ⟨by rw [HH.out], H3.out⟩
          · have hb1 : ((s[k + n].toNat : Int) == 46) = false := u8_nl (n := 46) rfl h1
            have HH := Lib.hid (show oneHit [46] s (k + n) = false by rw [hh]; simp [h1])
            clear hh h1
            go_wp2_with fail
            go_meet
            case rel => exact ⟨by rw [HH.out], H3.out⟩
        · have HH := Lib.hid (hit_end [46] s (k + n) (by omega))
          have h0 : s.size ≤ k + n := by omega
          have hd := of_nlt hp
          clear hp
          go_wp2_with fail
          go_meet
          case rel => exact ⟨by rw [HH.out], H3.out⟩
      case rest =>
        obtain ⟨rfl, h4⟩ := hcut
        have H4 := Lib.hid h4
        clear h4 H3
        go_upto_if 61 with fail
        go_cut [5] (fun v wc => ∃ (k1 : Nat) (ds : ByteArray) (ex : Int), v = .int .i64 k1 ∧ k1 ≤ s.size ∧ ds.size ≤ 200 ∧ fracS s (k + n) (subL s k n) = some (ds.data.toList, ex, k1) ∧ RdSt w wc neg ds ((n : Int) - 1))
        case first => as_aux_lemma =>
          cases hh : oneHit [46] s (k + n)
          · have HF := Lib.hid (show fracS s (k + n) (subL s k n) = some (d1.data.toList, 0, k + n) by
              unfold fracS; rw [if_neg (by simp [hh]), HD1.out])
            clear hh
            go_wp2_with fail
            go_meet
            case rel => exact ⟨k + n, d1, 0, by go_num, hdl, by have := HD2.out; omega, HF.out, H4.out⟩
          · have hlt := oneHit_lt hh
            have HH := Lib.hid hh
            have hle2 := digRun_le s (k + n + 1) hlt
            clear hh
            go_wp2_with fail
            refine (ref_digitsI s (k + n + 1) _ _ (by omega) hlt HM.out).mono ?_
            rintro e w1 ⟨rfl, rfl⟩
            obtain ⟨m, hm⟩ : ∃ m, m = digRun s (k + n + 1) := ⟨_, rfl⟩
            rw [← hm] at hle2 ⊢
            have HMM := Lib.hid hm
            clear hm
            obtain ⟨⟨c0, c1, c2⟩, ⟨f0, f1, f2⟩, ⟨r0, r1, r2⟩, q0, q1, q2⟩ := (H4.out).facts
            by_cases hz2 : m = 0
            · have hzb2 : ((m : Int) == 0) = true := by simp [hz2]
              have HN := Lib.hid (show readS s = none by
                rw [HREAD.out, show fracS s (k + n) (subL s k n) = none by unfold fracS; rw [if_pos HH.out, if_pos (by rw [← HMM.out]; exact hz2)]])
              clear hz2
              go_wp2_with fail
              obtain ⟨⟨e0, e1, e2⟩, hbb⟩ := RdSt.res H4.out (.bool false) (.string ⟨#[]⟩) (.int .i64 0)
              exact bodyPost_ret (v := .tuple #[.agg #[.bool false, .string ⟨#[]⟩, .int .i64 0], .bool false]) (by simp [results, Tryz.results128, go_sem, e0, e1, e2]) rfl (ReadPost.no HN.out hbb)
            · have hzb2 : ((m : Int) == 0) = false := by rw [beq_eq_false_iff_ne]; omega
              have HE1 := Lib.hid (subL_extract s (k + n + 1) m)
              have HE2 := Lib.hid (subL_size s (k + n + 1) m hle2)
              have HF := Lib.hid (show fracS s (k + n) (subL s k n) = some ((d1 ++ s.extract (k + n + 1) (k + n + 1 + m)).data.toList, -(m : Int), k + n + 1 + m) by
                unfold fracS; rw [if_pos HH.out, ← HMM.out, if_neg hz2, ba_app, HD1.out, HE1.out])
              have hw1 : IntKind.i64.wrap ((k : Int) + n + 1) = (k : Int) + n + 1 := IntWalk.i64_in _ (by omega)
              have hw2 : IntKind.i64.wrap ((k : Int) + n + 1 + m) = (k : Int) + n + 1 + m := IntWalk.i64_in _ (by omega)
              have ht1 : ((k : Int) + n + 1).toNat = k + n + 1 := by omega
              have ht2 : ((k : Int) + n + 1 + m).toNat = k + n + 1 + m := by omega
              have hp1 : (0 : Int) ≤ (k : Int) + n + 1 := by omega
              have hp2 : (k : Int) + n + 1 ≤ (k : Int) + n + 1 + m := by omega
              have hp3 : (k : Int) + n + 1 + m ≤ s.size := by omega
              have hd1s : d1.size ≤ 64 := by have := HD2.out; omega
              have hm64 : m ≤ 64 := by omega
              clear hz2
              go_wp2_with fail
              go_region
              all_goals
                go_wp2_with fail
                go_meet
                case rel => exact ⟨k + n + 1 + m, d1 ++ s.extract (k + n + 1) (k + n + 1 + m), -(m : Int), by go_num, hle2, by rw [ByteArray.size_append, HE2.out, HD2.out]; omega, HF.out, H4.out.set1.drew⟩
        case rest => as_aux_lemma =>
          obtain ⟨k1, ds, ex, rfl, hk1, hds, hfr, h5⟩ := hcut
          have HREAD2 := Lib.hid (show readS s = (match expS' s k1 with
            | none => none
            | some (e, k') => if k' = s.size then some (neg, ds.data.toList, (n : Int) - 1 + e) else none) by
            rw [HREAD.out, hfr])
          have H5 := Lib.hid h5
          clear h5 hfr H4 HREAD HD1 HD2
          go_upto_region 14 with fail
          go_cut [100] (fun v wc => v = .bool (oneHit [101, 69] s k1) ∧ RdSt w wc neg ds ((n : Int) - 1))
          case first =>
            by_cases hp : k1 < s.size
            · have hh := hit_at [101, 69] s (k1) hp
              have hd := of_lt hp
              by_cases h1 : s[k1] = 101
              · have HH := Lib.hid (show oneHit [101, 69] s (k1) = true by rw [hh, h1]; rfl)
                have hb1 : ((s[k1].toNat : Int) == 101) = true := u8_eq_t (b := 101) h1
                clear hh h1
                go_wp2_with fail
                go_meet
                case rel => exact ⟨by rw [HH.out], H5.out⟩
              · have hb1 : ((s[k1].toNat : Int) == 101) = false := u8_nl (n := 101) rfl h1
                by_cases h2 : s[k1] = 69
                · have HH := Lib.hid (show oneHit [101, 69] s (k1) = true by rw [hh, h2]; rfl)
                  have hb2 : ((s[k1].toNat : Int) == 69) = true := u8_eq_t (b := 69) h2
                  clear hh h1 h2
                  go_wp2_with fail
                  go_meet
                  case rel => exact ⟨by rw [HH.out], H5.out⟩
                · have HH := Lib.hid (show oneHit [101, 69] s (k1) = false by rw [hh]; simp [h1, h2])
                  have hb2 : ((s[k1].toNat : Int) == 69) = false := u8_nl (n := 69) rfl h2
                  clear hh h1 h2
                  go_wp2_with fail
                  go_meet
                  case rel => exact ⟨by rw [HH.out], H5.out⟩
            · have HH := Lib.hid (hit_end [101, 69] s (k1) (by omega))
              have h0 : s.size ≤ k1 := by omega
              have hd := of_nlt hp
              clear hp
              go_wp2_with fail
              go_meet
              case rel => exact ⟨by rw [HH.out], H5.out⟩
          case rest =>
            obtain ⟨rfl, h6⟩ := hcut
            have H6 := Lib.hid h6
            clear h6 H5
            go_upto_if 100 with fail
            go_cut [5] (fun v wc => ∃ (k2 : Nat) (e : Int), v = .int .i64 k2 ∧ -100000 ≤ e ∧ e ≤ 100000 ∧ expS' s k1 = some (e, k2) ∧ RdSt w wc neg ds ((n : Int) - 1 + e))
            case first => as_aux_lemma =>
              cases hh : oneHit [101, 69] s k1
              · have HF := Lib.hid (show expS' s k1 = some (0, k1) by
                  unfold expS'; rw [if_neg (by simp [hh])])
                clear hh
                go_wp2_with fail
                go_meet
                case rel => exact ⟨k1, 0, rfl, by omega, by omega, HF.out, by rw [Int.add_zero]; exact H6.out⟩
              · have hlt := oneHit_lt hh
                have HH := Lib.hid hh
                clear hh
                obtain ⟨k2, hk2⟩ : ∃ k2, k2 = k1 + 1 := ⟨_, rfl⟩
                have hk2l : k2 ≤ s.size := by omega
                have hk2i : (k1 : Int) + 1 = (k2 : Int) := by omega
                have HK2 := Lib.hid hk2
                clear hk2
                have hea := expAt_eq s k2
                rw [hit_two] at hea
                by_cases hp : k2 < s.size
                · have hd := of_lt hp
                  have g1 := hit_at [45] s k2 hp
                  have g2 := hit_at [43] s k2 hp
                  by_cases h1 : s[k2] = 45
                  · have HEA := Lib.hid (show expAt s k2 = (true, k2 + 1) by rw [hea, g1, g2, h1]; rfl)
                    have hb1 : ((s[k2].toNat : Int) == 45) = true := u8_eq_t (b := 45) h1
                    have hb2 : ((s[k2].toNat : Int) == 43) = false := u8_nl (n := 43) rfl (by rw [h1]; exact (by decide : (45 : UInt8) ≠ 43))
                    clear hea g1 g2 h1
                    obtain ⟨k3, hk3e⟩ : ∃ k3, k3 = k2 + 1 := ⟨_, rfl⟩
                    rw [← hk3e] at HEA
                    have hk3 : k3 ≤ s.size := by omega
                    have hk3i : (k2 : Int) + 1 = (k3 : Int) := by omega
                    clear hk3e
                    go_wp2_with fail
                    refine (ref_digitsI s k3 _ _ (by omega) hk3 HM.out).mono ?_
                    rintro e w1 ⟨rfl, rfl⟩
                    clear hk2i
                    have hle3 := digRun_le s k3 hk3
                    obtain ⟨m, hm⟩ : ∃ m, m = digRun s k3 := ⟨_, rfl⟩
                    rw [← hm] at hle3 ⊢
                    have HMM := Lib.hid hm
                    clear hm
                    by_cases hz2 : m = 0
                    · have hzb2 : ((m : Int) == 0) = true := by simp [hz2]
                      have HN := Lib.hid (show readS s = none by
                        rw [HREAD2.out, show expS' s k1 = none by unfold expS'; rw [if_pos HH.out, ← HK2.out, HEA.out]; simp only; rw [if_pos (by rw [← HMM.out]; exact hz2)]])
                      obtain ⟨⟨c0, c1, c2⟩, ⟨f0, f1, f2⟩, ⟨r0, r1, r2⟩, q0, q1, q2⟩ := (H6.out).facts
                      clear hz2
                      go_wp2_with fail
                      obtain ⟨⟨e0, e1, e2⟩, hbb⟩ := RdSt.res H6.out (.bool false) (.string ⟨#[]⟩) (.int .i64 0)
                      exact bodyPost_ret (v := .tuple #[.agg #[.bool false, .string ⟨#[]⟩, .int .i64 0], .bool false]) (by simp [results, Tryz.results128, go_sem, e0, e1, e2]) rfl (ReadPost.no HN.out hbb)
                    have hzb2 : ((m : Int) == 0) = false := by rw [beq_eq_false_iff_ne]; omega
                    have HEX := Lib.hid (show expS' s k1 = some ((if true = true then -(refExp (subL s k3 m)) else refExp (subL s k3 m)), k3 + m) by
                      unfold expS'; rw [if_pos HH.out, ← HK2.out, HEA.out]
                      simp only
                      rw [if_neg (by rw [← HMM.out]; exact hz2), ← HMM.out])
                    clear hz2
                    go_wp2_with fail
                    go_loop [8, 9] (fun e i => ∃ j : Nat, j ≤ m ∧ i = .int .i64 j ∧ e = .int .i64 (refExp (subL s k3 j)) ∧ 0 ≤ refExp (subL s k3 j) ∧ refExp (subL s k3 j) ≤ 100000) (fun _ i => m - (intOf i).toNat)
                    case atStart => exact ⟨0, Nat.zero_le _, rfl, rfl, by simp [subL, refExp], by simp [subL, refExp]⟩
                    case round =>
                      obtain ⟨j, hj, rfl, rfl, he0, he1⟩ := hrel
                      by_cases hjl : j < m
                      · have hkj : k3 + j < s.size := by omega
                        have hdg := digRun_at s k3 j (by rw [← HMM.out]; exact hjl) hkj
                        obtain ⟨hd1, hd2⟩ : 48 ≤ s[k3 + j].toNat ∧ s[k3 + j].toNat ≤ 57 := by simpa [isDig] using hdg
                        have HSN := Lib.hid (show refExp (subL s k3 (j + 1)) = min (10 * refExp (subL s k3 j) + ((s[k3 + j].toNat : Int) - 48)) 100000 by rw [subL_snoc s k3 j hkj, refExp_snoc])
                        clear hdg
                        go_wp2_with fail
                        go_round
                        case rel => exact ⟨j + 1, by omega, by go_num, by rw [HSN.out], by rw [HSN.out]; omega, by rw [HSN.out]; omega⟩
                        case measure => simp [intOf]; omega
                      · obtain rfl : j = m := by omega
                        obtain ⟨⟨c0, c1, c2⟩, ⟨f0, f1, f2⟩, ⟨r0, r1, r2⟩, q0, q1, q2⟩ := (H6.out).facts
                        go_wp2_with fail
                        go_meet
                        case rel => exact ⟨k3 + j, _, by go_num, by simp; omega, by simp; omega, HEX.out, by simpa using H6.out.set2⟩
                  · have hb1 : ((s[k2].toNat : Int) == 45) = false := u8_nl (n := 45) rfl h1
                    by_cases h2 : s[k2] = 43
                    · have HEA := Lib.hid (show expAt s k2 = (false, k2 + 1) by rw [hea, g1, g2, h2]; rfl)
                      have hb2 : ((s[k2].toNat : Int) == 43) = true := u8_eq_t (b := 43) h2
                      clear hea g1 g2 h1 h2
                      obtain ⟨k3, hk3e⟩ : ∃ k3, k3 = k2 + 1 := ⟨_, rfl⟩
                      rw [← hk3e] at HEA
                      have hk3 : k3 ≤ s.size := by omega
                      have hk3i : (k2 : Int) + 1 = (k3 : Int) := by omega
                      clear hk3e
                      go_wp2_with fail
                      refine (ref_digitsI s k3 _ _ (by omega) hk3 HM.out).mono ?_
                      rintro e w1 ⟨rfl, rfl⟩
                      clear hk2i
                      have hle3 := digRun_le s k3 hk3
                      obtain ⟨m, hm⟩ : ∃ m, m = digRun s k3 := ⟨_, rfl⟩
                      rw [← hm] at hle3 ⊢
                      have HMM := Lib.hid hm
                      clear hm
                      by_cases hz2 : m = 0
                      · have hzb2 : ((m : Int) == 0) = true := by simp [hz2]
                        have HN := Lib.hid (show readS s = none by
                          rw [HREAD2.out, show expS' s k1 = none by unfold expS'; rw [if_pos HH.out, ← HK2.out, HEA.out]; simp only; rw [if_pos (by rw [← HMM.out]; exact hz2)]])
                        obtain ⟨⟨c0, c1, c2⟩, ⟨f0, f1, f2⟩, ⟨r0, r1, r2⟩, q0, q1, q2⟩ := (H6.out).facts
                        clear hz2
                        go_wp2_with fail
                        obtain ⟨⟨e0, e1, e2⟩, hbb⟩ := RdSt.res H6.out (.bool false) (.string ⟨#[]⟩) (.int .i64 0)
                        exact bodyPost_ret (v := .tuple #[.agg #[.bool false, .string ⟨#[]⟩, .int .i64 0], .bool false]) (by simp [results, Tryz.results128, go_sem, e0, e1, e2]) rfl (ReadPost.no HN.out hbb)
                      have hzb2 : ((m : Int) == 0) = false := by rw [beq_eq_false_iff_ne]; omega
                      have HEX := Lib.hid (show expS' s k1 = some ((if false = true then -(refExp (subL s k3 m)) else refExp (subL s k3 m)), k3 + m) by
                        unfold expS'; rw [if_pos HH.out, ← HK2.out, HEA.out]
                        simp only
                        rw [if_neg (by rw [← HMM.out]; exact hz2), ← HMM.out])
                      clear hz2
                      go_wp2_with fail
                      go_loop [8, 9] (fun e i => ∃ j : Nat, j ≤ m ∧ i = .int .i64 j ∧ e = .int .i64 (refExp (subL s k3 j)) ∧ 0 ≤ refExp (subL s k3 j) ∧ refExp (subL s k3 j) ≤ 100000) (fun _ i => m - (intOf i).toNat)
                      case atStart => exact ⟨0, Nat.zero_le _, rfl, rfl, by simp [subL, refExp], by simp [subL, refExp]⟩
                      case round =>
                        obtain ⟨j, hj, rfl, rfl, he0, he1⟩ := hrel
                        by_cases hjl : j < m
                        · have hkj : k3 + j < s.size := by omega
                          have hdg := digRun_at s k3 j (by rw [← HMM.out]; exact hjl) hkj
                          obtain ⟨hd1, hd2⟩ : 48 ≤ s[k3 + j].toNat ∧ s[k3 + j].toNat ≤ 57 := by simpa [isDig] using hdg
                          have HSN := Lib.hid (show refExp (subL s k3 (j + 1)) = min (10 * refExp (subL s k3 j) + ((s[k3 + j].toNat : Int) - 48)) 100000 by rw [subL_snoc s k3 j hkj, refExp_snoc])
                          clear hdg
                          go_wp2_with fail
                          go_round
                          case rel => exact ⟨j + 1, by omega, by go_num, by rw [HSN.out], by rw [HSN.out]; omega, by rw [HSN.out]; omega⟩
                          case measure => simp [intOf]; omega
                        · obtain rfl : j = m := by omega
                          obtain ⟨⟨c0, c1, c2⟩, ⟨f0, f1, f2⟩, ⟨r0, r1, r2⟩, q0, q1, q2⟩ := (H6.out).facts
                          go_wp2_with fail
                          go_meet
                          case rel => exact ⟨k3 + j, _, by go_num, by simp; omega, by simp; omega, HEX.out, by simpa using H6.out.set2⟩
                    · have hb2 : ((s[k2].toNat : Int) == 43) = false := u8_nl (n := 43) rfl h2
                      have HEA := Lib.hid (show expAt s k2 = (false, k2) by rw [hea, g1, g2]; simp [h1, h2])
                      clear hea g1 g2 h1 h2
                      go_wp2_with fail
                      refine (ref_digitsI s k2 _ _ (by omega) hk2l HM.out).mono ?_
                      rintro e w1 ⟨rfl, rfl⟩
                      clear hk2i
                      have hle3 := digRun_le s k2 hk2l
                      obtain ⟨m, hm⟩ : ∃ m, m = digRun s k2 := ⟨_, rfl⟩
                      rw [← hm] at hle3 ⊢
                      have HMM := Lib.hid hm
                      clear hm
                      by_cases hz2 : m = 0
                      · have hzb2 : ((m : Int) == 0) = true := by simp [hz2]
                        have HN := Lib.hid (show readS s = none by
                          rw [HREAD2.out, show expS' s k1 = none by unfold expS'; rw [if_pos HH.out, ← HK2.out, HEA.out]; simp only; rw [if_pos (by rw [← HMM.out]; exact hz2)]])
                        obtain ⟨⟨c0, c1, c2⟩, ⟨f0, f1, f2⟩, ⟨r0, r1, r2⟩, q0, q1, q2⟩ := (H6.out).facts
                        clear hz2
                        go_wp2_with fail
                        obtain ⟨⟨e0, e1, e2⟩, hbb⟩ := RdSt.res H6.out (.bool false) (.string ⟨#[]⟩) (.int .i64 0)
                        exact bodyPost_ret (v := .tuple #[.agg #[.bool false, .string ⟨#[]⟩, .int .i64 0], .bool false]) (by simp [results, Tryz.results128, go_sem, e0, e1, e2]) rfl (ReadPost.no HN.out hbb)
                      have hzb2 : ((m : Int) == 0) = false := by rw [beq_eq_false_iff_ne]; omega
                      have HEX := Lib.hid (show expS' s k1 = some ((if false = true then -(refExp (subL s k2 m)) else refExp (subL s k2 m)), k2 + m) by
                        unfold expS'; rw [if_pos HH.out, ← HK2.out, HEA.out]
                        simp only
                        rw [if_neg (by rw [← HMM.out]; exact hz2), ← HMM.out])
                      clear hz2
                      go_wp2_with fail
                      go_loop [8, 9] (fun e i => ∃ j : Nat, j ≤ m ∧ i = .int .i64 j ∧ e = .int .i64 (refExp (subL s k2 j)) ∧ 0 ≤ refExp (subL s k2 j) ∧ refExp (subL s k2 j) ≤ 100000) (fun _ i => m - (intOf i).toNat)
                      case atStart => exact ⟨0, Nat.zero_le _, rfl, rfl, by simp [subL, refExp], by simp [subL, refExp]⟩
                      case round =>
                        obtain ⟨j, hj, rfl, rfl, he0, he1⟩ := hrel
                        by_cases hjl : j < m
                        · have hkj : k2 + j < s.size := by omega
                          have hdg := digRun_at s k2 j (by rw [← HMM.out]; exact hjl) hkj
                          obtain ⟨hd1, hd2⟩ : 48 ≤ s[k2 + j].toNat ∧ s[k2 + j].toNat ≤ 57 := by simpa [isDig] using hdg
                          have HSN := Lib.hid (show refExp (subL s k2 (j + 1)) = min (10 * refExp (subL s k2 j) + ((s[k2 + j].toNat : Int) - 48)) 100000 by rw [subL_snoc s k2 j hkj, refExp_snoc])
                          clear hdg
                          go_wp2_with fail
                          go_round
                          case rel => exact ⟨j + 1, by omega, by go_num, by rw [HSN.out], by rw [HSN.out]; omega, by rw [HSN.out]; omega⟩
                          case measure => simp [intOf]; omega
                        · obtain rfl : j = m := by omega
                          obtain ⟨⟨c0, c1, c2⟩, ⟨f0, f1, f2⟩, ⟨r0, r1, r2⟩, q0, q1, q2⟩ := (H6.out).facts
                          go_wp2_with fail
                          go_meet
                          case rel => exact ⟨k2 + j, _, by go_num, by simp; omega, by simp; omega, HEX.out, by simpa using H6.out.set2⟩
                · have hd := of_nlt hp
                  have hp' : s.size ≤ k2 := by omega
                  have HEA := Lib.hid (show expAt s k2 = (false, k2) by rw [hea, hit_end _ _ _ hp', hit_end _ _ _ hp']; rfl)
                  clear hea hp
                  go_wp2_with fail
                  refine (ref_digitsI s k2 _ _ (by omega) hk2l HM.out).mono ?_
                  rintro e w1 ⟨rfl, rfl⟩
                  clear hk2i
                  have hle3 := digRun_le s k2 hk2l
                  obtain ⟨m, hm⟩ : ∃ m, m = digRun s k2 := ⟨_, rfl⟩
                  rw [← hm] at hle3 ⊢
                  have HMM := Lib.hid hm
                  clear hm
                  have hz2 : m = 0 := by omega
                  have hzb2 : ((m : Int) == 0) = true := by simp [hz2]
                  have HN := Lib.hid (show readS s = none by
                    rw [HREAD2.out, show expS' s k1 = none by unfold expS'; rw [if_pos HH.out, ← HK2.out, HEA.out]; simp only; rw [if_pos (by rw [← HMM.out]; exact hz2)]])
                  obtain ⟨⟨c0, c1, c2⟩, ⟨f0, f1, f2⟩, ⟨r0, r1, r2⟩, q0, q1, q2⟩ := (H6.out).facts
                  clear hz2
                  go_wp2_with fail
                  obtain ⟨⟨e0, e1, e2⟩, hbb⟩ := RdSt.res H6.out (.bool false) (.string ⟨#[]⟩) (.int .i64 0)
                  exact bodyPost_ret (v := .tuple #[.agg #[.bool false, .string ⟨#[]⟩, .int .i64 0], .bool false]) (by simp [results, Tryz.results128, go_sem, e0, e1, e2]) rfl (ReadPost.no HN.out hbb)
            case rest => as_aux_lemma =>
              obtain ⟨k2, e, rfl, he0, he1, hex, h7⟩ := hcut
              have HREAD3 := Lib.hid (show readS s = if k2 = s.size then some (neg, ds.data.toList, (n : Int) - 1 + e) else none by
                rw [HREAD2.out, hex])
              have HB := Lib.hid h7.b
              obtain ⟨⟨c0, c1, c2⟩, ⟨f0, f1, f2⟩, ⟨r0, r1, r2⟩, q0, q1, q2⟩ := (h7).facts
              have H7 := Lib.hid h7
              clear h7 hex H6 HREAD2
              go_wp2_with fail
              obtain ⟨⟨e0, e1, e2⟩, hbb⟩ := RdSt.res H7.out (.bool neg) (.string ds) (.int .i64 ((n : Int) - 1 + e))
              exact bodyPost_ret (v := .tuple #[.agg #[.bool neg, .string ds, .int .i64 ((n : Int) - 1 + e)], .bool ((k2 : Int) == (s.size : Int))]) (by simp [results, Tryz.results128, go_sem, e0, e1, e2]) rfl (ReadPost.mk HREAD3.out (by omega) (by omega) (by omega) hbb)
end Go.Proofs.YtimeilkelnljnaaGreatDoor
