import Derived.Test.YtgnkjcdkfcikeaaGreatDoorFm1
import Derived.Test.YtgnkjcdkfcikeaaGreatDoorPw12
import Derived.Test.YtgnkjcdkfcikeaaGreatDoorCp4
import Derived.Test.YtgnkjcdkfcikeaaGreatDoorLx2
import Derived.Test.YtgnkjcdkfcikeaaGreatDoorRfs
/- Plain: how long valid values, the texts of valid records, and what is read from words are. -/
namespace Go.Proofs.YtgnkjcdkfcikeaaGreatDoor
open Go.RowKit
set_option linter.unusedSimpArgs false

theorem vv_len {k n : Int} {v : Bs} (h : vv k n (bsB v) = true) : v.length ≤ 128 := by
  rcases vt_kind (vv_vt h) with rfl | rfl | rfl | rfl
  · exact (bits_iff.1 h).2.2.1
  · unfold vv at h
    rw [Bool.and_eq_true, if_neg (by decide), if_pos rfl] at h
    have h2 := h.2
    unfold decOk at h2
    split at h2
    · cases h2
    · rename_i m hm
      unfold scanS at hm
      split at hm
      · cases hm
      · rename_i h64
        rw [bsB_size] at h64
        omega
  · unfold vv at h
    rw [Bool.and_eq_true, if_neg (by decide), if_neg (by decide), if_pos rfl, decide_eq_true_iff, bsB_size] at h
    omega
  · unfold vv at h
    rw [Bool.and_eq_true, if_neg (by decide), if_neg (by decide), if_neg (by decide)] at h
    have h2 := h.2
    unfold nilB at h2
    rw [decide_eq_true_iff, bsB_size] at h2
    omega
theorem fmtV_len (k : Int) (v : Bs) : (fmtV k v).length ≤ 4 * v.length + 1 := by
  unfold fmtV
  split
  · have := sho_len v; omega
  · split
    · omega
    · split
      · have := quoL_len v; omega
      · simp
theorem codeOk_len {id : Bs} (h : codeOk id = true) : id.length ≤ 8 := by
  unfold codeOk at h
  simp only [Bool.and_eq_true, decide_eq_true_iff] at h
  exact h.1.1.2
theorem cmdL_len (k n : Int) (v id : Bs) : (cmdL cv k n v id).length ≤ 600 := by
  unfold cmdL
  split
  · rename_i h
    simp only [Bool.and_eq_true] at h
    have h1 := vv_len (show vv k n (bsB v) = true from h.1.2)
    have h2 := codeOk_len h.2
    have h3 : (cv.fmt k n v).length ≤ 4 * v.length + 1 := fmtV_len k v
    split
    · rw [List.length_append]; omega
    · simp only [List.length_append, List.length_cons]; omega
  · simp
theorem linesT_len {n : Nat} : ∀ {L : List Bs}, (∀ x ∈ L, x.length ≤ n) → (linesT L).length ≤ (n + 1) * L.length
  | [], _ => by simp [linesT]
  | x :: L, h => by
    have h1 := h x (by simp)
    have h2 := linesT_len (L := L) fun y hy => h y (by simp [hy])
    rw [linesT_cons, List.length_append, List.length_cons, Nat.mul_add]
    have : (lineT x).length = x.length + 1 := by simp [lineT]
    omega
theorem offLines_facts : ∀ (l : List Dc) (done : List Bs), (offLines cv done l).length ≤ l.length ∧ ∀ x ∈ offLines cv done l, x.length ≤ 600
  | [], _ => ⟨Nat.le_refl _, by simp [offLines]⟩
  | y :: t, done => by
    obtain ⟨a1, a2⟩ := offLines_facts t (y.1 :: done)
    obtain ⟨b1, b2⟩ := offLines_facts t done
    unfold offLines
    split
    · split
      · refine ⟨by simp only [List.length_cons]; omega, fun x hx => ?_⟩
        rcases List.mem_cons.1 hx with rfl | hx
        · exact cmdL_len _ _ _ _
        · exact a2 x hx
      · exact ⟨by simp only [List.length_cons]; omega, a2⟩
    · exact ⟨by simp only [List.length_cons]; omega, b2⟩
theorem recLines_facts (K : Bs → Option Dc) (l : List Dc) {r : Rc} (h : r.1 = 0 → 0 ≤ r.2.1 ∧ r.2.1 ≤ 1099511627776) : (recLines cv K l r).length ≤ l.length + 2 ∧ ∀ x ∈ recLines cv K l r, x.length ≤ 600 := by
  unfold recLines
  split
  · rename_i h0
    obtain ⟨h1, h2⟩ := h h0
    refine ⟨by simp, fun x hx => ?_⟩
    rw [List.mem_singleton] at hx
    subst hx
    obtain ⟨u, hu⟩ : ∃ u : Nat, r.2.1 = (u : Int) := ⟨r.2.1.toNat, by omega⟩
    rw [hu, show Lib.itoa (u : Int) = Lib.decDigits u by rw [Lib.itoa, if_neg (by omega), Int.toNat_natCast], List.length_cons, Lib.decDigits_length]
    have := nDig_le 12 u (by have : (10 : Nat) ^ (12 + 1) = 10000000000000 := by decide
                             omega)
    omega
  · split
    · refine ⟨by simp, fun x hx => ?_⟩
      rw [List.mem_singleton] at hx
      subst hx
      unfold cmdK
      split
      · simp
      · exact cmdL_len _ _ _ _
    · split
      · obtain ⟨a1, a2⟩ := offLines_facts l []
        refine ⟨by simp only [List.length_append, List.length_cons, List.length_nil]; omega, fun x hx => ?_⟩
        rcases List.mem_append.1 hx with hx | hx
        · rcases List.mem_cons.1 hx with rfl | hx
          · decide
          · exact a2 x hx
        · rw [List.mem_singleton] at hx
          subst hx
          decide
      · split
        · refine ⟨by simp, fun x hx => ?_⟩
          rw [List.mem_singleton] at hx
          subst hx
          decide
        · refine ⟨by simp, fun x hx => ?_⟩
          rw [List.mem_singleton] at hx
          subst hx
          decide
theorem fmtLines_facts (K : Bs → Option Dc) (l : List Dc) : ∀ (rs : List Rc) (o : Bool), (∀ r ∈ rs, r.1 = 0 → 0 ≤ r.2.1 ∧ r.2.1 ≤ 1099511627776) →
    (fmtLines cv K l o rs).length ≤ (l.length + 3) * rs.length + 1 ∧ ∀ x ∈ fmtLines cv K l o rs, x.length ≤ 600
  | [], o, _ => by
    unfold fmtLines
    split
    · refine ⟨by simp, fun x hx => ?_⟩
      rw [List.mem_singleton] at hx
      subst hx
      decide
    · exact ⟨by simp, by simp⟩
  | r :: t, o, h => by
    obtain ⟨a1, a2⟩ := fmtLines_facts K l t (opnAfter r o) fun x hx => h x (by simp [hx])
    obtain ⟨b1, b2⟩ := recLines_facts K l (h r (by simp))
    have hc : (if o = true ∧ r.1 ≠ 1 then [sEnd] else []).length ≤ 1 ∧ ∀ x ∈ (if o = true ∧ r.1 ≠ 1 then [sEnd] else []), x.length ≤ 600 := by
      split
      · refine ⟨by simp, fun x hx => ?_⟩
        rw [List.mem_singleton] at hx
        subst hx
        decide
      · exact ⟨by simp, by simp⟩
    obtain ⟨c1, c2⟩ := hc
    unfold fmtLines
    refine ⟨?_, fun x hx => ?_⟩
    · rw [List.length_append, List.length_append, List.length_cons, Nat.mul_add]
      omega
    · rcases List.mem_append.1 hx with hx | hx
      · rcases List.mem_append.1 hx with hx | hx
        · exact c2 x hx
        · exact b2 x hx
      · exact a2 x hx
theorem valid_times {V : Vals} {K : Bs → Option Dc} : ∀ {rs : List Rc} {x : Int} {b : Bool}, validL V K x b rs = true → 0 ≤ x → ∀ r ∈ rs, r.1 = 0 → 0 ≤ r.2.1 ∧ r.2.1 ≤ 1099511627776
  | [], _, _, _, _ => by simp
  | (k, t, c, v) :: tl, x, b, h, hx => by
    intro r hr h0
    rcases List.mem_cons.1 hr with rfl | hr
    · rcases valid_next h hx with ⟨-, h1, h2, -⟩ | ⟨h1, -⟩ | ⟨h1, -⟩ | ⟨h1, -⟩ | ⟨h1, -⟩
      · exact ⟨h1, h2⟩
      all_goals
        dsimp only at h0
        omega
    · rcases valid_next h hx with ⟨-, h1, -, h2⟩ | ⟨-, -, h2⟩ | ⟨-, _, h2⟩ | ⟨-, _, h2⟩ | ⟨-, h2⟩
      · exact valid_times h2 h1 r hr h0
      all_goals exact valid_times h2 hx r hr h0
theorem format_len (l : List Dc) (rs : List Rc) (hl : l.length ≤ 1000) (hr : rs.length ≤ 1000000) : (formatL cv l rs).length ≤ 140737488351232 := by
  unfold formatL
  split
  · rename_i h
    obtain ⟨a1, a2⟩ := fmtLines_facts (knL cv l) l rs false (valid_times h (Int.le_refl _))
    have a3 := linesT_len a2
    have a4 : (l.length + 3) * rs.length ≤ 1003 * 1000000 := Nat.mul_le_mul (by omega) hr
    omega
  · simp
/-- what is valid is short -/
theorem valid_short {l : List Dc} : ∀ {rs : List Rc} {x : Int} {b : Bool}, validL cv (knL cv l) x b rs = true → ∀ r ∈ rs, r.2.2.1.length ≤ 1000 ∧ r.2.2.2.length ≤ 1000
  | [], _, _, _ => by simp
  | r :: t, x, b, h => by
    intro q hq
    unfold validL at h
    have h3 : (∃ x' b', validL cv (knL cv l) x' b' t = true) ∧ (r.2.2.1.length ≤ 1000 ∧ r.2.2.2.length ≤ 1000) := by
      split at h
      · rw [Bool.and_eq_true, Bool.and_eq_true, Bool.and_eq_true] at h
        refine ⟨⟨_, _, h.2⟩, ?_⟩
        rw [of_decide_eq_true h.1.1.1]
        exact ⟨Nat.zero_le _, Nat.zero_le _⟩
      · split at h
        · split at h
          · cases h
          · rename_i y hy
            rw [Bool.and_eq_true, Bool.and_eq_true, Bool.and_eq_true, Bool.not_eq_true', decide_eq_false_iff_not] at h
            refine ⟨⟨_, _, h.2⟩, ?_⟩
            obtain ⟨h1, h2, h4⟩ := cmd_ne h.1.1.2
            have h5 := codeOk_len h4
            have h6 := vv_len (show vv _ _ (bsB _) = true from h2)
            omega
        · split at h
          · rw [Bool.and_eq_true, Bool.and_eq_true] at h
            refine ⟨⟨_, _, h.2⟩, ?_⟩
            rw [of_decide_eq_true h.1.1]
            exact ⟨Nat.zero_le _, Nat.zero_le _⟩
          · split at h
            · rw [Bool.and_eq_true] at h
              refine ⟨⟨_, _, h.2⟩, ?_⟩
              rw [of_decide_eq_true h.1]
              exact ⟨Nat.zero_le _, Nat.zero_le _⟩
            · cases h
    obtain ⟨⟨x', b', h4⟩, h5⟩ := h3
    rcases List.mem_cons.1 hq with rfl | hq
    · exact h5
    · exact valid_short h4 q hq
theorem run_len (V : Vals) (K : Bs → Option Dc) : ∀ (n : Nat) (ws : List Wd) (s : PS), ws.length ≤ n → (pRun V K s ws).out.length ≤ s.out.length + ws.length ∧ (pRun V K s ws).wrong.length ≤ s.wrong.length + ws.length
  | _, [], s, _ => by rw [pRun_nil]; exact ⟨Nat.le_refl _, Nat.le_refl _⟩
  | 0, w :: t, s, hl => by simp at hl
  | n + 1, w :: t, s, hl => by
    rw [pRun_cons]
    have h1 := pStep_len V K s w t
    obtain ⟨h2, h3⟩ := grew_step V K s w t
    obtain ⟨h4, h5⟩ := run_len V K n (pStep V K s w t).2 (pStep V K s w t).1 (by simp at hl; omega)
    rw [List.length_cons]
    omega
theorem parse_len (V : Vals) (l : List Dc) (ws : List Wd) : (parseL V l ws).out.length ≤ ws.length ∧ (parseL V l ws).wrong.length ≤ ws.length := by
  have := run_len V (knL V l) ws.length ws ps0 (Nat.le_refl _)
  have h0 : ps0.out.length = 0 := rfl
  have h1 : ps0.wrong.length = 0 := rfl
  unfold parseL
  omega
/-- records cut short are valid, their codes and values short -/
theorem format_take {V : Vals} {l : List Dc} {rs : List Rc} (hf : formatL V l rs ≠ []) (k : Nat) : validL V (knL V l) 0 false (rs.take k) = true := by
  obtain ⟨hv, -⟩ := format_nil.1 hf
  rw [← List.take_append_drop k rs, valid_app, Bool.and_eq_true] at hv
  exact hv.1
end Go.Proofs.YtgnkjcdkfcikeaaGreatDoor

/- Plain: the example of law26.awake, and how long words are. -/
namespace Go.Proofs.YtgnkjcdkfcikeaaGreatDoor
open Go.RowKit
set_option linter.unusedSimpArgs false

theorem wrd_len : ∀ (s cur : Bs) (x : Bs), x ∈ wrd s cur → x.length ≤ cur.length + s.length
  | [], cur, x, h => by
    unfold wrd at h
    split at h
    · cases h
    · rw [List.mem_singleton] at h; subst h; omega
  | c :: t, cur, x, h => by
    rw [wrd] at h
    rw [List.length_cons]
    split at h
    · split at h
      · have := wrd_len t [] x h
        simp only [List.length_nil] at this
        omega
      · rcases List.mem_cons.1 h with rfl | h
        · omega
        · have := wrd_len t [] x h
          simp only [List.length_nil] at this
          omega
    · have := wrd_len t _ x h
      rw [List.length_append, List.length_singleton] at this
      omega
theorem words_short {s : Bs} {ws : List Wd} (h : ws.map (·.1) = wordsL s) : ∀ x ∈ ws, x.1.length ≤ s.length := fun x hx => by
  have h1 : x.1 ∈ wordsL s := h ▸ List.mem_map_of_mem (f := fun y : Wd => y.1) hx
  have := wrd_len s [] x.1 h1
  simp only [List.length_nil] at this
  omega

def exL : List Dcl := [⟨[], 0, 0, 0, false, 0, 0, [33], 0, 4⟩]
def exR : List Rc := [(0, 5, [], []), (1, 0, [33], [48, 48, 48, 49]), (2, 0, [], []), (0, 7, [], []), (3, 0, [], []), (1, 0, [33], [48, 48, 49, 49])]
def exT : Bs := [35, 53, 32, 98, 49, 32, 33, 32, 36, 100, 117, 109, 112, 111, 102, 102, 32, 98, 120, 32, 33, 32, 36, 101, 110, 100, 32, 35, 55, 32, 36, 100, 117, 109, 112, 111, 110, 32, 98, 49, 49, 32, 33, 32, 36, 101, 110, 100]
def exQ : Bs := [50, 33, 32, 49, 35]
theorem itoa5 : Lib.itoa 5 = [53] := by
  rw [Lib.itoa, if_neg (by decide), Lib.decDigits, dif_pos (by decide)]
  rfl
theorem itoa7 : Lib.itoa 7 = [55] := by
  rw [Lib.itoa, if_neg (by decide), Lib.decDigits, dif_pos (by decide)]
  rfl
theorem ex_valid : validL cv (knL cv (exL.map Dcl.dc)) 0 false exR = true := by kernel_rfl
theorem ex_ne : formatL cv (exL.map Dcl.dc) exR ≠ [] := format_nil.2 ⟨ex_valid, by decide⟩
theorem ex_lines : fmtLines cv (knL cv (exL.map Dcl.dc)) (exL.map Dcl.dc) false exR = [35 :: Lib.itoa 5, [98, 49, 32, 33], sDumpoff, [98, 120, 32, 33], sEnd, 35 :: Lib.itoa 7, sDumpon, [98, 49, 49, 32, 33], sEnd] := by kernel_rfl
theorem ex_words : wordsL exT = wordsL (formatL cv (exL.map Dcl.dc) exR) := by
  rw [words_text cv _ ex_valid, ex_lines, itoa5, itoa7]
  decide +kernel
theorem ex_read {ws : List Wd} (h : ws.map (·.1) = wordsL exT) : (parseL cv (exL.map Dcl.dc) ws).out = exR ∧ (parseL cv (exL.map Dcl.dc) ws).wrong = [] :=
  read_format cv_ok ex_ne (h.trans ex_words)
theorem exQ_words : wordsL exQ = [[50, 33], [49, 35]] := by decide +kernel
theorem ex_wrong {ws : List Wd} (h : ws.map (·.1) = wordsL exQ) : ∃ a b, (parseL cv (exL.map Dcl.dc) ws).wrong = [(3, a), (4, b)] := by
  rw [exQ_words] at h
  obtain ⟨w, v, rfl, h1, h2⟩ := map_two h
  have hk : knL cv (exL.map Dcl.dc) [35] = none := by kernel_rfl
  have s1 : pStep cv (knL cv (exL.map Dcl.dc)) ps0 w [v] = (ps0.prob 3 w, [v]) := by
    unfold pStep
    rw [h1]
    dsimp only
    rw [if_neg (by decide), if_neg (by decide), if_neg (by decide), show vecK 50 = none by decide]
  have s2 : pStep cv (knL cv (exL.map Dcl.dc)) (ps0.prob 3 w) v [] = ((ps0.prob 3 w).prob 4 v, []) := by
    unfold pStep
    rw [h2]
    dsimp only
    rw [if_neg (by decide), if_neg (by decide), if_pos (by decide), if_neg (by decide)]
    unfold changeP
    rw [if_neg (show ¬((ps0.prob 3 w).skip = true) from fun h => by cases h), hk]
  refine ⟨w.2, v.2, ?_⟩
  unfold parseL
  rw [pRun_cons, s1]
  dsimp only
  rw [pRun_cons, s2]
  dsimp only
  rw [pRun_nil]
  rfl
end Go.Proofs.YtgnkjcdkfcikeaaGreatDoor

/- law26.read and law26.awake. -/
namespace Go.Proofs.YtgnkjcdkfcikeaaGreatDoor
open Go.RowKit
set_option linter.unusedSimpArgs false

def ReadPost (s : Bs) (L : List Dcl) (w : World) (e : Ending) (w' : World) : Prop :=
  ∃ (vo vr : Value) (ws : List Wd), e = .returned (.tuple #[vo, vr]) ∧ ws.map (·.1) = wordsL s ∧ SlR w' vo (parseL cv (L.map Dcl.dc) ws).out.length (recs (parseL cv (L.map Dcl.dc) ws).out) ∧ SlR w' vr (parseL cv (L.map Dcl.dc) ws).wrong.length (prbs (parseL cv (L.map Dcl.dc) ws).wrong) ∧ Below w.heap.size w w'
set_option maxHeartbeats 800000 in
set_option maxRecDepth 100000 in
theorem law_read (s : Bs) (v : Value) (L : List Dcl) (w : World) (hd : SlR w v L.length (dcls L)) (hg : Glob w) (he : GlobE w) (hc : ∀ d ∈ L, d.code.length ≤ 1000) (hl : L.length ≤ 1000) (hs : s.length ≤ 16384) :
    Calls Tryz.prog 12 #[.string (bsB s), v] w (ReadPost s L w) := by
  obtain ⟨a, cap, rfl, hcap, hmax⟩ := hd.shape
  have HD := Lib.hid hd
  have HG := Lib.hid hg
  have HE := Lib.hid he
  have HC := Lib.hid hc
  clear hd hg he hc
  go_enter Tryz.func12, Tryz.ntmps12
  go_wp2_with fail
  refine (lex_Scan s _ hs).mono ?_
  rintro e w1 ⟨v1, ws, rfl, ho, hw, hwl, hb⟩
  have hs1 := SlR.of_own ho
  obtain ⟨a1, c1, rfl, -, -⟩ := hs1.shape
  have HW := Lib.hid hw
  have HS1 := Lib.hid hs1
  have HB := Lib.hid hb
  have HWL := Lib.hid hwl
  have HSH := Lib.hid (words_short hw)
  clear ho hw hwl hb hs1
  go_wp2_with fail
  refine (ch_Parse _ _ ws L w1 HS1.out (HD.out.below HB.out) (HG.out.below HB.out) (HE.out.below HB.out) HC.out hl (by have := HWL.out; omega) (fun x hx => by have := HSH.out x hx; omega)).mono ?_
  rintro e w2 ⟨vo, vr, rfl, ho, hr, hb2⟩
  have hso := SlR.of_own ho
  have hsr := SlR.of_own hr
  obtain ⟨a2, c2, rfl, -, -⟩ := hso.shape
  obtain ⟨a3, c3, rfl, -, -⟩ := hsr.shape
  have HO := Lib.hid hso
  have HR := Lib.hid hsr
  have HB2 := Lib.hid (ext_trans HB.out hb2)
  clear ho hr hb2 hso hsr
  go_wp2_with fail
  refine bodyPost_ret (v := .tuple #[.slice a2 (parseL cv (L.map Dcl.dc) ws).out.length c2, .slice a3 (parseL cv (L.map Dcl.dc) ws).wrong.length c3]) (by simp [results, Tryz.results12, go_sem]) rfl ?_
  exact ⟨_, _, ws, rfl, HW.out, HO.out, HR.out, HB2.out⟩

theorem own_slx {w : World} {b n cap : Nat} {C : Array Value} {xs : List Value} (h : OwnRow w b C.toList) (hx : xs = C.toList) (hn : n ≤ cap) (hm : cap ≤ maxLen) : SlR w (.slice (some ⟨b, 0, none⟩) n cap) n xs := by
  subst hx
  exact ⟨_, cap, rfl, hn, hm, fun h => by simp at h, fun _ => ⟨b, 0, rfl, fun j u hj => by rw [Nat.zero_add]; exact h.cell hj⟩⟩
theorem exL_code : ∀ d ∈ exL, d.code.length ≤ 1000 := by
  intro d hd
  rw [exL, List.mem_singleton] at hd
  subst hd
  decide
theorem exR_short : ∀ r ∈ exR, r.2.2.1.length ≤ 1000 ∧ r.2.2.2.length ≤ 1000 := valid_short ex_valid
set_option maxHeartbeats 1600000 in
set_option maxRecDepth 100000 in
theorem law_awake26 (w : World) (hg : Glob w) (he : GlobE w) :
    Calls Tryz.prog 8 #[] w fun e w' => e = .returned (.bool true) ∧ Below w.heap.size w w' := by
  have hb0 : Below w.heap.size w (w.alloc (.cells #[.string ⟨#[]⟩, .int .i64 0, .int .i64 0, .int .i64 0, .bool false, .int .i64 0, .int .i64 0, .string ⟨#[33]⟩, .int .i64 0, .int .i64 4] 55)) := (Below.refl _ _).alloc (Nat.le_refl _) _
  have HX := Lib.hid (own_slx (xs := dcls exL) (n := 1) (cap := 1) (OwnRow.fresh w #[.string ⟨#[]⟩, .int .i64 0, .int .i64 0, .int .i64 0, .bool false, .int .i64 0, .int .i64 0, .string ⟨#[33]⟩, .int .i64 0, .int .i64 4] 55) rfl (Nat.le_refl _) (by decide))
  have HB0 := Lib.hid hb0
  have HG := Lib.hid hg
  have HE := Lib.hid he
  clear hb0 hg he
  have HR1 := Lib.hid (show Calls Tryz.prog 12 #[.string ⟨#[35, 53, 32, 98, 49, 32, 33, 32, 36, 100, 117, 109, 112, 111, 102, 102, 32, 98, 120, 32, 33, 32, 36, 101, 110, 100, 32, 35, 55, 32, 36, 100, 117, 109, 112, 111, 110, 32, 98, 49, 49, 32, 33, 32, 36, 101, 110, 100]⟩, .slice (some ⟨w.heap.size, 0, none⟩) 1 1] _ _ from law_read exT (.slice (some ⟨w.heap.size, 0, none⟩) 1 1) exL _ HX.out (HG.out.below HB0.out) (HE.out.below HB0.out) exL_code (by decide) (by decide))
  go_enter Tryz.func8, Tryz.ntmps8
  go_wp2_with fail
  refine HR1.out.mono ?_
  rintro e w1 ⟨vo, vr, ws, rfl, hw, hso, hsr, hb1⟩
  obtain ⟨h1, h2⟩ := ex_read hw
  rw [h1] at hso
  rw [h2] at hsr
  have HB1 := Lib.hid (ext_trans HB0.out hb1)
  have HX1 := Lib.hid (HX.out.below hb1)
  have hso6 : SlR w1 vo 6 (recs exR) := hso
  have hsr0 : SlR w1 vr 0 [] := hsr
  obtain ⟨a2, c2, rfl, -, -⟩ := hso6.shape
  obtain ⟨a3, c3, rfl, -, -⟩ := hsr0.shape
  have HO := Lib.hid hso6
  have HR2 := Lib.hid (show Calls Tryz.prog 12 #[.string ⟨#[50, 33, 32, 49, 35]⟩, .slice (some ⟨w.heap.size, 0, none⟩) 1 1] _ _ from law_read exQ (.slice (some ⟨w.heap.size, 0, none⟩) 1 1) exL w1 HX1.out (HG.out.below HB1.out) (HE.out.below HB1.out) exL_code (by decide) (by decide))
  clear hw hso hsr hb1 h1 h2 hso6 hsr0 HR1
  go_wp2_with fail
  refine HR2.out.mono ?_
  rintro e w2 ⟨vo2, vr2, ws2, rfl, hw, hso, hsr, hb2⟩
  obtain ⟨qa, qb, h1⟩ := ex_wrong hw
  rw [h1] at hsr
  have hsr2 : SlR w2 vr2 2 (prbs [(3, qa), (4, qb)]) := hsr
  obtain ⟨b4, o4, c4, rfl, -, -, hcl⟩ := hsr2.at (by decide)
  have k0 : w2.cell? ⟨b4, o4, none⟩ = some (.int .i64 3) := hcl 0 _ rfl
  have k4 : w2.cell? ⟨b4, o4 + 4, none⟩ = some (.int .i64 4) := hcl 4 _ rfl
  obtain ⟨a5, c5, rfl, -, -⟩ := hso.shape
  have HB2 := Lib.hid (ext_trans HB1.out hb2)
  have HX2 := Lib.hid (HX1.out.below hb2)
  have HO2 := Lib.hid (HO.out.below hb2)
  have HP2 := Lib.hid hsr2
  generalize (parseL cv (exL.map Dcl.dc) ws2).out = out2 at *
  clear hw hso hsr hb2 h1 hsr2 hcl HR2
  have hbx := (Below.refl w2.heap.size w2).alloc (Nat.le_refl _) (.cells #[.int .i64 0, .int .i64 5, .string ⟨#[]⟩, .string ⟨#[]⟩, .int .i64 1, .int .i64 0, .string ⟨#[33]⟩, .string ⟨#[48, 48, 48, 49]⟩, .int .i64 2, .int .i64 0, .string ⟨#[]⟩, .string ⟨#[]⟩, .int .i64 0, .int .i64 7, .string ⟨#[]⟩, .string ⟨#[]⟩, .int .i64 3, .int .i64 0, .string ⟨#[]⟩, .string ⟨#[]⟩, .int .i64 1, .int .i64 0, .string ⟨#[33]⟩, .string ⟨#[48, 48, 49, 49]⟩] 45)
  have HE2 := Lib.hid (own_slx (xs := recs exR) (n := 6) (cap := 6) (OwnRow.fresh w2 #[.int .i64 0, .int .i64 5, .string ⟨#[]⟩, .string ⟨#[]⟩, .int .i64 1, .int .i64 0, .string ⟨#[33]⟩, .string ⟨#[48, 48, 48, 49]⟩, .int .i64 2, .int .i64 0, .string ⟨#[]⟩, .string ⟨#[]⟩, .int .i64 0, .int .i64 7, .string ⟨#[]⟩, .string ⟨#[]⟩, .int .i64 3, .int .i64 0, .string ⟨#[]⟩, .string ⟨#[]⟩, .int .i64 1, .int .i64 0, .string ⟨#[33]⟩, .string ⟨#[48, 48, 49, 49]⟩] 45) rfl (Nat.le_refl _) (by decide))
  have HBX := Lib.hid hbx
  clear hbx
  go_wp2_with fail
  refine (ref_Same26 _ _ exR exR _ (HO2.out.below HBX.out) HE2.out).mono ?_
  rw [decide_eq_true (show exR = exR from rfl)]
  rintro e w3 ⟨rfl, hb3⟩
  have HB3 := Lib.hid (ext_trans HBX.out hb3)
  have HB03 := Lib.hid (ext_trans HB2.out HB3.out)
  have m0 := (HB3.out.cell (p := ⟨b4, o4, none⟩) (cell_lt k0)).trans k0
  have m4 := (HB3.out.cell (p := ⟨b4, o4 + 4, none⟩) (cell_lt k4)).trans k4
  have HF := Lib.hid (ch_Format _ _ exR exL w3 (HO2.out.below HB3.out) (HX2.out.below HB3.out) (HG.out.below HB03.out) exR_short (by decide) exL_code (by decide) (format_len _ _ (by decide) (by decide)))
  have hne : (bsB (formatL cv (exL.map Dcl.dc) exR)).toList.isEmpty = false := by rw [bsB_isEmpty, decide_eq_false ex_ne]
  generalize formatL cv (exL.map Dcl.dc) exR = F at HF hne
  clear hb3 k0 k4
  go_wp2_with fail
  refine HF.out.mono ?_
  rintro e w4 ⟨rfl, hb4⟩
  have HB4 := Lib.hid (ext_trans HB03.out hb4)
  clear hb4
  go_wp2_with fail
  go_ret
  exact ⟨rfl, HB4.out⟩
end Go.Proofs.YtgnkjcdkfcikeaaGreatDoor
