import Derived.Test.YtfppgpamkdkckaaGreatDoorZ00
import Derived.Laws.AppendOwnNone
import Derived.Lib.AppendZeros
import Derived.Lib.IndexBytes
import Derived.Lib.Join
import Derived.Lib.SplitLaws
import Derived.Test.YtfppgpamkdkckaaGreatDoorZ14
set_option maxRecDepth 100000
set_option maxHeartbeats 16000000
namespace Go.Proofs.YtfppgpamkdkckaaGreatDoor
open Go.RowKit
set_option linter.unusedSimpArgs false
def PS.secP (s:PS) (w:Wd) (ok:Bool):PS:=if ok=true∧w.1=[36,99,111,109,109,101,110,116]then s else s.prob 3 w
open Go.RowKit Go.Shelf
attribute [local go_sem] Oper.semAt_some
theorem zrM (S:List Sc):∀(f:Nat) (i:Int),(upL S f i).length≤f
 |0,_=>Nat.zero_le _
 |f+1,i=>by
  unfold upL;split
  ·simp
  ·split
   ·simp
   ·have:=zrM S f;simp only[List.length_cons];have:=this (by assumption:Sc).2.2;omega
theorem zgK (a:Option Addr) (m cap:Nat) (i:Int) (w:World):
 Calls Tryz.prog 301 #[.slice a m cap,.int .i64 i] w fun e w'=>e=.returned (.func (.func 332) #[] #[.pointer (some ⟨w.heap.size+1,0,none⟩),.pointer (some ⟨w.heap.size,0,none⟩)])∧w'=(w.alloc (.cells #[.slice a m cap] 27)).alloc (.cells #[.int .i64 i] 3):=by
 go_enter Tryz.func301,Tryz.ntmps301;go_wp2_with fail;go_ret;exact⟨rfl,rfl⟩
theorem PtI.old {w W W':World} {v vo:Value} {nms:List Bs} (h:PtI w v nms vo W) (hg:W.grownBy W' vo.ownBlock):Same0 w W':=
 Same0.of_below (h.b.grown hg (h.b.size) (fun _ hk=>(h.o.lt _ hk).1))
theorem PtI.rev {w W:World} {v vo:Value} {nms:List Bs} (h:PtI w v nms vo W) (hn:nms≠ []):
 ∃g cap,vo=.slice (some ⟨g,0,none⟩) nms.length cap∧Sort.Holds Proofs.encStr W g 0 nms.toArray∧∀q,PtI w v nms.reverse vo (Sort.putRow Proofs.encStr (Sort.ahead W q) g 0 nms.reverse.toArray)∧
  (∀(D:Nat) (o:Obj),W.heap[D]? =some o→o.isCells=false→(Sort.putRow Proofs.encStr (Sort.ahead W q) g 0 nms.reverse.toArray).heap[D]? =some o):=by
 have hnil:vo≠ .slice none 0 0:=by
  rintro rfl;have h1:=h.o.1;rcases h.o.2 with⟨-,h2⟩|⟨g,cap,cur,e0,-⟩
  ·exact hn (List.length_eq_zero_iff.1 h2)
  ·cases e0
 have ho:W.ownsRow w.heap.size 9 1 vo nms.length (nms.map Proofs.encStr):=h.o;obtain⟨g,cap,rfl,hg,hgl,hc1,hc2,-,hH⟩:=Lib.holds_of_ownsRow ho hnil
 have hgb:∃cur,W.heap[g]? =some (.cells cur 9 (0,0)):=by
  rcases ho.2 with⟨e0,-⟩|⟨g',cap',cur,e0,-,hb,-⟩
  ·cases e0
  ·injection e0 with e0 _ _;injection e0 with e0;injection e0 with e0 _ _;subst e0;exact⟨cur,hb⟩
 obtain⟨cur,hgb⟩:=hgb;refine⟨g,cap,rfl,hH,fun q=>?_⟩
 have hfar:∀D,D≠g→(Sort.putRow Proofs.encStr (Sort.ahead W q) g 0 nms.reverse.toArray).heap[D]? =W.heap[D]? :=by
  intro D hD;simp[Sort.putRow,Go.Sort.mapBlock,Sort.ahead,Array.getElem?_modify,show g≠D from fun e=>hD e.symm]
 have hne:∀(i:Nat) (D:Array Value) (T:TypeId) (fr:Nat×Nat),W.heap[i]? =some (.cells D T fr)→T≠9→i≠g:=by
  rintro i D T fr hi hT rfl;rw[hgb]at hi;injection hi with hi;injection hi with _ h5 _;exact hT h5.symm
 refine⟨⟨(hfar _ (hne _ _ _ _ h.bs (by decide))).trans h.bs,(hfar _ (hne _ _ _ _ h.bo (by decide))).trans h.bo,?_,Lib.below_putRow h.b hg⟩,fun D o hD ho'=>(hfar D ?_).trans hD⟩
 ·have:=Lib.ownsRow_putRow (q:=q) (ys:=nms.reverse) ho (by simp) (Nat.le_refl _);rw[List.take_of_length_le (by simp)]at this;rw[List.length_reverse];exact this
 ·rintro rfl;rw[hgb]at hD;injection hD with hD;subst hD;cases ho'
theorem zgE (v:Value) (S:List Sc) (i:Nat) (w:World) (hs:SlR w v S.length (scs S)) (hF:Fst (parS S) S.length) (hi:i<S.length) (hl:S.length≤1000):
 Calls Tryz.prog 259 #[v,.int .i64 i] w fun e w'=>∃v',e=.returned v'∧w'.ownsRow w.heap.size 9 1 v' (upL S (i+1) i).length (strs ((upL S (i+1) i).map (nmS S)).reverse)∧Below w.heap.size w w':=by
 obtain⟨i0,hi0,iz0,iz1,iz2⟩:=info_parts (P:=Tryz.prog) zpS;obtain⟨a,cap,rfl,-,-⟩:=hs.shape;obtain⟨L,hL⟩:∃L,upL S (i+1) i=L:=⟨_,rfl⟩;have HSP:=lhd (zrP hF (i+1) (i:Int) (by omega) (by omega) (by omega));rw[hL]at HSP⊢;have HL:=lhd hL;have HLE:=lhd (show L.length≤i+1 by rw[←hL];exact zrM _ _ _);clear hL;refine(callsIn_wide (n:=6)).1 ?_;refine callsIn_of_wp_marks Tryz.func259 rfl trivial ?_ rfl;refine wpIn_wide.2 ?_;simp only[Tryz.ntmps259,List.size_toArray,List.length_cons,List.length_nil,Nat.reduceAdd,Nat.reduceSub,Array.replicate_succ,Array.replicate_zero,List.push_toArray,List.append_toArray,List.nil_append,List.cons_append];go_wp2_with fail;refine(zgK _ _ _ _ _).mono ?_;rintro e w1 ⟨rfl,rfl⟩;go_wp2_with fail;obtain⟨v,hv⟩:∃v,Value.slice a S.length cap=v:=⟨_,rfl⟩;rw[hv]at hs⊢;obtain⟨W0,hW0⟩:∃X,(((w.alloc (.cells #[v] 27)).alloc (.cells #[.slice none 0 0] 107)).alloc (.cells #[v] 27)).alloc (.cells #[.int .i64 i] 3)=X:=⟨_,rfl⟩;have hs0:W0.heap.size=w.heap.size+4:=by rw[←hW0];simp
 have h1:=heap_alloc_new w (.cells #[v] 27);have b1:Below w.heap.size w (w.alloc (.cells #[v] 27)):=(Below.refl _ _).alloc (Nat.le_refl _) _;have e1:(w.alloc (.cells #[v] 27)).heap.size=w.heap.size+1:=by simp
 rw[hW0];generalize w.alloc (.cells #[v] 27)=x1 at*;have h2:=heap_alloc_new x1 (.cells #[.slice none 0 0] 107);have b2:Below x1.heap.size x1 (x1.alloc (.cells #[.slice none 0 0] 107)):=(Below.refl _ _).alloc (Nat.le_refl _) _;have e2:(x1.alloc (.cells #[.slice none 0 0] 107)).heap.size=w.heap.size+2:=by simp[e1]
 generalize x1.alloc (.cells #[.slice none 0 0] 107)=x2 at*;have h3:=heap_alloc_new x2 (.cells #[v] 27);have b3:Below x2.heap.size x2 (x2.alloc (.cells #[v] 27)):=(Below.refl _ _).alloc (Nat.le_refl _) _;have e3:(x2.alloc (.cells #[v] 27)).heap.size=w.heap.size+3:=by simp[e2]
 generalize x2.alloc (.cells #[v] 27)=x3 at*;have h4:=heap_alloc_new x3 (.cells #[.int .i64 i] 3);have b4:Below x3.heap.size x3 (x3.alloc (.cells #[.int .i64 i] 3)):=(Below.refl _ _).alloc (Nat.le_refl _) _;rw[hW0]at h4 b4;rw[e1]at h2;rw[e2]at h3;rw[e3]at h4;have q1:=(Same0.of_below b4).cells _ _ _ _ ((Same0.of_below b3).cells _ _ _ _ ((Same0.of_below b2).cells _ _ _ _ h1));have q2:=(Same0.of_below b4).cells _ _ _ _ ((Same0.of_below b3).cells _ _ _ _ h2);have q3:=(Same0.of_below b4).cells _ _ _ _ h3;have bb:Below w.heap.size w W0:=zfj (zfj (zfj b1 b2) b3) b4;have hI0:PtI w v [] (.slice none 0 0) W0:=⟨q1,q2,World.ownsRow_nil _ _ _ _,bb⟩;have HS:=lhd hs;have HF:=lhd hF;clear hs hF q1 q2 h1 h2 h3 b1 b2 b3 b4 e1 e2 e3 hW0;refine(wpIn_wide (n:=6)).1 ?_
 refine zmR (B0:=w.heap.size) (hB0:=by omega) rfl (by decide) (gf:=332) (lb:=#[.pointer (some ⟨w.heap.size+3,0,none⟩),.pointer (some ⟨w.heap.size+2,0,none⟩)]) rfl trivial (enters_of Tryz.func332 (by kernel_rfl) rfl)
  (encs:=upE L) (Kp:=fun W V=>KpU w.heap.size 9 107 W V∧W.heap.size≤V.heap.size) (N:=L.length) (T:=3)
  (fun l J W hW hJ hY h0=>?iter)
  (fun h k=>⟨h.1.trans k.1,Nat.le_trans h.2 k.2⟩) (fun _ _ h=>⟨KpU.same0 h,h.size⟩) (fun _=>rfl)
  (zao w v S L) (fun k W V ⟨vo,h⟩ ht=>⟨vo,h.turn ht⟩) ⟨_,hI0⟩ ?round ?done
 case iter=>
  have:=zrC (6-1) (by decide) l (w.heap.size+3) (w.heap.size+2) w.heap.size w.heap.size 9 107 (by decide) (by decide) S (i:Int) v w W J HF.out (by omega) (by omega) rfl (Nat.le_refl _) (by omega) (by omega) HS.out (Same0.trans (Same0.of_below bb) (Same0.of_below hW)) hJ
   (by rw[Int.toNat_natCast,HL.out];exact hY) ((Same0.of_below hW).cells _ _ _ _ h4) ((Same0.of_below hW).cells _ _ _ _ q3) h0
  rw[Int.toNat_natCast,HL.out]at this;exact this
 case done=>
  intro D W hD hI hDd;obtain⟨vo,h⟩:=hI
  have HLP:=lhd (show L≠ []by
   intro e;have h2:=HSP.out.2;rw[e]at h2;have h2:(i:Int)= -1:=h2;omega)
  rw[List.take_of_length_le (Nat.le_refl _)]at h
  obtain⟨g,cp,rfl,hH,hr⟩:=h.rev (by
   intro e;exact HLP.out (List.map_eq_nil_iff.1 e))
  obtain⟨co,fo⟩:=zkV h.bo;have HR:=lhd hr;have HD:=lhd (And.intro hD hDd);have HRV:=lhd (Tryz.slices_Reverse_string g 0 cp (L.map (nmS S)) W hH (by have:=HLE.out;simp;omega));clear hr hD hDd hH h;generalize hnn:L.map (nmS S)=nms at*;have HNL:=lhd (show nms.length=L.length by rw[←hnn];simp);have HNN:=lhd hnn;clear hnn;go_wp2_with fail;refine HRV.out.mono ?_;rintro e w3 ⟨rfl,q,rfl⟩;obtain⟨h3,h4⟩:=HR.out q;have HD3:=lhd (h4 D _ HD.out.2 rfl);have H3:=lhd h3;clear co fo h4 HR HRV;obtain⟨co,fo⟩:=zkV h3.bo;clear h3;generalize Sort.putRow Proofs.encStr (Sort.ahead W q) g 0 nms.reverse.toArray=W3 at*;go_wp2_with fail;refine⟨by simp,.inl ⟨_,_,rfl,run_takeDeferred HD3.out,?_⟩⟩;have ho:=ownsRow_putObj H3.out.o (.deferred none) HD3.out rfl;rw[List.length_reverse]at ho;refine⟨.slice (some ⟨g,0,none⟩) nms.length cp,by simp[results,Tryz.results259,go_sem],_,rfl,?_,?_⟩
  ·rw[HNN.out,←HNL.out];exact ho
  ·exact H3.out.b.trans (belowK_b (w:=W0) (by omega) _ D _ _ HD.out.1 HD3.out rfl rfl)
 case round=>
  intro l k W hlW ⟨vo,h⟩ hk;obtain⟨q0,q1',q2⟩:=HSP.out.1 k hk;obtain⟨m,hm2⟩:=Int.eq_ofNat_of_zero_le q0;rw[hm2]at q1' q2;rw[Int.toNat_natCast]at q2;have hmS:m<S.length:=by omega
  have HLD:=lhd (show(L.getD k 0:Nat)=m by rw[List.getD,q2];rfl);unfold upE;rw[HLD.out]
  have HTK:=lhd (show(L.take (k+1)).map (nmS S)=(L.take k).map (nmS S)++ [nmS S m]by
   rw[List.take_add_one,q2];simp)
  have HNL:=lhd (show((L.take k).map (nmS S)).length=k by simp;omega);clear q0 q1' q2 hm2;generalize (L.take k).map (nmS S)=nms at*;subst hv;have HI:=lhd h;clear h;gi_wp2
  refine⟨KeepsFrom.refl _ _,⟨KpU.below (Below.refl _ _),Nat.le_refl _⟩,?_⟩;intro W1 hs1 ht1;have H2:=lhd (HI.out.turn ht1);obtain⟨ct,ft⟩:=zkV H2.out.bs;obtain⟨co,fo⟩:=zkV H2.out.bo;obtain⟨bS,oS,rfl,hcell⟩:=(HS.out.same0 (Same0.of_below H2.out.b)).scs hmS;have hnm:nmS S m=(S[m]).1:=by simp[nmS,List.getD,hmS]
  have HSX:=HS;obtain⟨nm,hnx⟩:∃nm,(S[m]).1=nm:=⟨_,rfl⟩;have d0:W1.cell? ⟨bS,oS+m*3,none⟩=some (.string (bsB nm)):=hcell 0 _ (by rw[←hnx];rfl);rw[hnm,hnx]at HTK
  have HSC:=lhd (fun(X:World) (hX:Same0 w X)=>(show X.cell? ⟨bS,oS+m*3,none⟩=some (.string (bsB nm))by
   obtain⟨b',o',e',hc'⟩:=(HSX.out.same0 hX).scs hmS;injection e' with e';injection e' with e1 e2 _;subst e1 e2;exact hc' 0 _ (by rw[←hnx];rfl)))
  clear hcell hs1 ht1 HI hnm hnx;obtain⟨ao,capo,rfl,-,-⟩:=(SlR.of_own H2.out.o).shape;have hal:Below W1.heap.size W1 (W1.drew.alloc (.cells #[.string (bsB nm)] 9)):=((Below.refl _ _).drew).alloc (Nat.le_refl _) _;have HA:=lhd (H2.out.same hal);have HKA:=lhd (KpU.below (N:=w.heap.size) (T1:=9) (T2:=107) hal);have HZA:=lhd hal.size;have HOA:=lhd ((KeepsOthers.drew W1).trans (KeepsOthers.alloc _ (.cells #[.string (bsB nm)] 9)));have y1:=(zkV HA.out.bs).1;have y2:=HSC.out _ (Same0.of_below HA.out.b);have hbz:=H2.out.b.size;have hnl:nms.length≤1000:=by have:=HNL.out;have:=HLE.out;omega
  clear hal;gi_wp2
  refine wpIn_mono (Q:=fun e _ W'=>e=.normal∧∃vo,PtI w (.slice (some ⟨bS,oS,none⟩) S.length cap) (nms++ [nm]) vo W'∧KpU w.heap.size 9 107 W1 W'∧W1.heap.size≤W'.heap.size∧KeepsOthers W1 W') ?_ ?_;rotate_left
  ·rintro e a' W' ⟨rfl,vo,hp,hk1,hk2,hk3⟩;gi_wp2
   refine⟨hk3.from _,?_⟩;unfold zao;rw[HTK.out];exact⟨vo,hp⟩
  refine wpIn_region_any (by kernel_rfl) ?_;refine zaP (zjF (by kernel_rfl)) ?_ _ _ _ _ ?_
  ·rintro⟨a0,w0,h0,-⟩;cases h0
  refine wpAny_of_held (S:=fun w'=>w'.cell? ⟨w.heap.size,0,none⟩=some (.slice (some ⟨bS,oS,none⟩) S.length cap)∧w'.cell? ⟨bS,oS+m*3,none⟩=some (.string (bsB nm))) _ _ _ _ ?_
  ·have hHeld:W1.drew.cell? ⟨w.heap.size,0,none⟩=some (.slice (some ⟨bS,oS,none⟩) S.length cap)∧W1.drew.cell? ⟨bS,oS+m*3,none⟩=some (.string (bsB nm)):=⟨ct,d0⟩;refine tkH 1 hHeld (v:=?_) ?_;simp only[tkS];refine tkH 2 hHeld (v:=?_) ?_;simp only[tkS];refine tkH 3 hHeld (v:=?_) ?_;simp only[tkS];refine tkH 4 hHeld (v:=?_) ?_;simp only[tkS];refine tkH 5 hHeld (v:=?_) ?_;simp only[tkS];refine wpAnyH_ready (rs:=[0,6]) (by kernel_rfl) (by simp) ?_;refine AllReadyH.cons (o:=_) rfl (fun K hK=>?_) (AllReadyH.cons (o:=_) rfl (fun K hK=>?_) AllReadyH.nil)
   ·go_simp;refine hK.out _ _ ⟨ct,d0⟩ (fun hHeld=>?_);clear hK;try simp only[tkS]
    refine oneH 6 (fun K hK=>?_);go_simp;refine hK.out _ _ ⟨y1,y2⟩ (fun hHeld=>?_);clear hK;try simp only[tkS]
    refine oneH 7 (fun K hK=>?_);refine step_append_lies _ (by rfl) _ _ _ (by rfl) w.heap.size 9 i0 _ 1 16 Tryz.underlying107 hi0 iz0 iz1 iz2 rfl (by omega) (.slice ao nms.length capo) nms.length (strs nms) (by rfl) (by exact HA.out.o) ⟨W1.heap.size,0,none⟩ 1 1 [.string (bsB nm)] (by rfl) (by rfl) (World.news_of_block (cs:=#[.string (bsB nm)]) (t:=9) (fr:=(0,0)) (by exact heap_alloc_new _ _)) (by simp[Value.oneCell']) (by omega) (by unfold maxLen;omega) (by omega) (by simp;omega) (W1.heap.size+1) (by simp) ?_;intro gg cap9 w9 ho9 hg9 hat hlt9;obtain⟨P1,P2,P3,P4,P5,P6,P10⟩:=HA.out.add ho9 hg9;have P7:=HSC.out w9 (HA.out.old hg9);have HP9:=lhd P1;have HK9:=lhd (And.intro P5 P6);have HO9:=lhd P10;clear ho9 hg9 hat hlt9 P1 P5 P6 P10;refine hK.out _ _ ⟨P2,P7⟩ (fun hHeld=>?_);clear hK;try simp only[tkS]
    refine oneH 8 (fun K hK=>?_);go_simp;have P8:=And.intro (zkV HP9.out.bs).1 (HSC.out _ (Same0.of_below HP9.out.b));refine hK.out _ _ P8 (fun hHeld=>?_);clear hK;try simp only[tkS]
    refine wpAnyH_done (by kernel_rfl) ?_ _;exact⟨rfl,_,HP9.out,HKA.out.trans HK9.out.1,Nat.le_trans HZA.out HK9.out.2,HOA.out.trans HO9.out⟩
   ·go_simp;refine hK.out _ _ ⟨y1,y2⟩ (fun hHeld=>?_);clear hK;try simp only[tkS]
    have a8:=zbT co (.cells #[.string (bsB nm)] 9);refine oneH 0 (fun K hK=>?_);go_simp;refine hK.out _ _ ⟨y1,y2⟩ (fun hHeld=>?_);clear hK;try simp only[tkS]
    clear a8;refine oneH 7 (fun K hK=>?_);refine step_append_lies _ (by rfl) _ _ _ (by rfl) w.heap.size 9 i0 _ 1 16 Tryz.underlying107 hi0 iz0 iz1 iz2 rfl (by omega) (.slice ao nms.length capo) nms.length (strs nms) (by rfl) (by exact HA.out.o) ⟨W1.heap.size,0,none⟩ 1 1 [.string (bsB nm)] (by rfl) (by rfl) (World.news_of_block (cs:=#[.string (bsB nm)]) (t:=9) (fr:=(0,0)) (by exact heap_alloc_new _ _)) (by simp[Value.oneCell']) (by omega) (by unfold maxLen;omega) (by omega) (by simp;omega) (W1.heap.size+1) (by simp) ?_;intro gg cap9 w9 ho9 hg9 hat hlt9;obtain⟨P1,P2,P3,P4,P5,P6,P10⟩:=HA.out.add ho9 hg9;have P7:=HSC.out w9 (HA.out.old hg9);have HP9:=lhd P1;have HK9:=lhd (And.intro P5 P6);have HO9:=lhd P10;clear ho9 hg9 hat hlt9 P1 P5 P6 P10;refine hK.out _ _ ⟨P2,P7⟩ (fun hHeld=>?_);clear hK;try simp only[tkS]
    refine oneH 8 (fun K hK=>?_);go_simp;have P8:=And.intro (zkV HP9.out.bs).1 (HSC.out _ (Same0.of_below HP9.out.b));refine hK.out _ _ P8 (fun hHeld=>?_);clear hK;try simp only[tkS]
    refine wpAnyH_done (by kernel_rfl) ?_ _;exact⟨rfl,_,HP9.out,HKA.out.trans HK9.out.1,Nat.le_trans HZA.out HK9.out.2,HOA.out.trans HO9.out⟩
attribute [local go_sem] Oper.semAt_some
def zl8 (par:Nat→Int) (n f:Nat) (p:Int) (i:Nat):List Nat:=((List.range n).drop i).flatMap fun j=>if par j=p then j::pre par n f j else []
theorem zmc (par:Nat→Int) (n f:Nat) (p:Int):zl8 par n f p 0=pre par n (f+1) p:=by rw[zmv];rfl
theorem zmb {par:Nat→Int} {n f:Nat} {p:Int} {i:Nat} (h:i<n):zl8 par n f p i=(if par i=p then i::pre par n f i else [])++zl8 par n f p (i+1):=by
 unfold zl8;rw[List.drop_eq_getElem_cons (by simpa using h),List.flatMap_cons];simp
theorem zl9 {par:Nat→Int} {n f:Nat} {p:Int} {i:Nat} (h:n≤i):zl8 par n f p i=[]:=by
 unfold zl8;rw[List.drop_of_length_le (by simpa using h)];rfl
theorem zma {par:Nat→Int} {n f:Nat} {p:Int} (hF:Fst par n):∀i:Nat,(i:Int)≤max p 0→zl8 par n f p i=pre par n (f+1) p
 |0,_=>zmc par n f p
 |i+1,h=>by
  rw[←zma hF i (by omega)];by_cases hi:i<n
  ·rw[zmb hi,if_neg,List.nil_append];have:=(hF i hi).2;omega
  ·rw[zl9 (by omega),zl9 (by omega)]
theorem zrr {b:Bool} (h:some undef=some (Value.bool b)):False:=by
 unfold undef at h;cases h
def ordE (L:List Nat) (k:Nat):Array Value:=#[.int .i64 ((L.getD k 0:Nat):Int)]
def KpO (N:Nat) (W V:World):Prop:=W.heap.size≤V.heap.size∧∀(b:Nat) (C:Array Value) (T:TypeId) (fr:Nat×Nat),b<N→W.heap[b]? =some (.cells C T fr)→V.heap[b]? =some (.cells C T fr)
theorem KpO.trans {N:Nat} {A B C:World} (h:KpO N A B) (k:KpO N B C):KpO N A C:=⟨Nat.le_trans h.1 k.1,fun b D T fr hb h1=>k.2 b D T fr hb (h.2 b D T fr hb h1)⟩
theorem KpO.same0 {N:Nat} {W V:World} (h:Same0 W V):KpO N W V:=⟨h.size,fun b C T fr _ hb=>h.cells b C T fr hb⟩
theorem KpO.old {w0 W V:World} (h:Same0 w0 W) (k:KpO w0.heap.size W V):Same0 w0 V:=
 ⟨Nat.le_trans h.size k.1,fun b C T fr hb=>k.2 b C T fr (Array.getElem?_eq_some_iff.1 hb).1 (h.cells _ _ _ _ hb)⟩
def WkP (n:Nat) (lp:Nat) (v:Value) (w0:World) (J:Nat→World→Prop) (p:Int) (k m:Nat) (W:World):Prop:=
 CallsIn Fence.wide n Tryz.prog 274 #[v,.int .i64 p,.func (.yield lp) #[] #[]] W fun e W'=>e=.returned (.bool true)∧J (k+m) W'∧Same0 w0 W'
theorem ztr (n:Nat) (hn:2≤n) (lp:Nat) (S:List Sc) (v:Value) (w0:World) (J:Nat→World→Prop) (ord:List Nat)
 (hF:Fst (parS S) S.length) (hl:S.length≤1000) (hs:SlR w0 v S.length (scs S))
 (hY:∀k W1,J k W1→k<ord.length→YieldAt Fence.wide (n-1) Tryz.prog lp (ordE ord k) W1 fun e W'=>e=.returned (.bool true)∧J (k+1) W'∧KpO w0.heap.size W1 W')
 (f:Nat) (p:Int) (A B:List Nat) (W:World) (hp: -1≤p) (hp2:p≤1000) (ho:ord=A++pre (parS S) S.length (f+1) p++B) (h0:J A.length W) (h00:Same0 w0 W)
 (ih:∀(i:Nat) (A' B':List Nat) (W':World),p<(i:Int)→i<S.length→ord=A'++pre (parS S) S.length f i++B'→J A'.length W'→Same0 w0 W'→WkP n lp v w0 J i A'.length (pre (parS S) S.length f i).length W'):
 WkP n lp v w0 J p A.length (pre (parS S) S.length (f+1) p).length W:=by
 have hro:Fence.wide.round=none:=rfl;obtain⟨a,cap,rfl,hcp,hm⟩:=hs.shape;unfold WkP;obtain⟨i0,hi0⟩:∃i0:Nat,(i0:Int)=max p 0:=⟨(max p 0).toNat,by omega⟩;have HST:=lhd (zma (n:=S.length) (f:=f) (p:=p) hF i0 (by omega));have HS:=lhd hs;have HF:=lhd hF;have HY:=lhd hY;have HO:=lhd ho;have HI:=lhd ih;have H00:=lhd h00;generalize hpl:pre (parS S) S.length (f+1) p=PL at*;clear hs hF hY ho ih hm hcp h00;refine callsIn_of_wp Tryz.func274 rfl trivial ?_ hro;simp only[Tryz.ntmps274,List.size_toArray,List.length_cons,List.length_nil,Nat.reduceAdd,Nat.reduceSub,Array.replicate_succ,Array.replicate_zero,List.push_toArray,List.append_toArray,List.nil_append,List.cons_append];have HI0:=lhd hi0;have HPL:=lhd hpl;clear hpl;have HB0:=lhd (show p≤(i0:Int)∧i0≤1000 by omega);clear hi0;gi_wp2
 gi_loopw [7] (fun i wr=>∃(j:Nat) (A':List Nat),i=.int .i64 j∧p≤(j:Int)∧j≤1000∧A'++zl8 (parS S) S.length f p j=A++PL∧J A'.length wr∧Same0 w0 wr) (fun i _=>S.length-(intOf i).toNat)
 case atStart=>exact⟨i0,A,by rw[HI0.out],HB0.out.1,HB0.out.2,by rw[HST.out],h0,H00.out⟩
 case round=>
  obtain⟨j,A',rfl,hpj,hj,hA,hjk,hsa⟩:=hrel;have HA:=lhd hA;have HJK:=lhd hjk;have HSA:=lhd hsa;clear hA hjk hsa h0;by_cases hlt:j<S.length
  ·obtain⟨b,o,rfl,hcell⟩:=(HS.out.same0 HSA.out).scs hlt;have hps:parS S j=S[j].2.2:=by simp[parS,List.getD,hlt]
   have HPF:=lhd (zmb (par:=parS S) (f:=f) (p:=p) hlt);have HFJ:=lhd (HF.out j hlt);rw[hps]at HPF HFJ;generalize S[j]=x at hcell HPF HFJ;obtain⟨nm,ty,pa⟩:=x;have d2:wr.cell? ⟨b,o+j*3+2,none⟩=some (.int .i64 pa):=hcell 2 _ rfl;clear hcell hps;dsimp only at HPF HFJ;have h1n:1≤n:=by omega
   by_cases hpa:pa=p
   ·subst hpa;rw[if_pos rfl]at HPF
    have HA2:=lhd (show ord=A'++j::(pre (parS S) S.length f j++(zl8 (parS S) S.length f pa (j+1)++B))by
     rw[HO.out,←HA.out,HPF.out];simp)
    have HEN:=lhd (show ordE ord A'.length=#[.int .i64 (j:Int)]by
     unfold ordE;rw[HA2.out,List.getD,List.getElem?_append_right (Nat.le_refl _),Nat.sub_self];rfl)
    obtain⟨fn,tmps,assign,body,hy,hR⟩:=HY.out A'.length wr HJK.out (by rw[HA2.out];simp);have HR:=lhd hR;rw[HEN.out]at hy;have HIH:=lhd (fun W' h1 h2=>HI.out j (A'++ [j]) (zl8 (parS S) S.length f pa (j+1)++B) W' (by have:=HFJ.out.2;omega) hlt (by rw[HA2.out];simp) h1 h2)
    have HNX:=lhd (show(A'++j::pre (parS S) S.length f j)++zl8 (parS S) S.length f pa (j+1)=A++PL by
     rw[←HA.out,HPF.out];simp)
    clear hR;gi_wp2
    refine HR.out.mono ?_;rintro e W3 ⟨rfl,hj3,hk3⟩;have HJ3:=lhd hj3;have HS3:=lhd (KpO.old HSA.out hk3);clear hj3 hk3 hy d2;gi_wp2
    refine⟨trivial,?_⟩;have HW:=lhd (HIH.out W3 (by rw[List.length_append];exact HJ3.out) HS3.out);unfold WkP at HW;refine(callsIn_wide.2 (callsIn_wide.1 HW.out)).mono ?_;rintro e W4 ⟨rfl,hj4,hs4⟩
    have HJ4:=lhd (show J (A'++j::pre (parS S) S.length f j).length W4 by
     rw[List.length_append,List.length_singleton]at hj4;rw[List.length_append,List.length_cons,show A'.length+((pre (parS S) S.length f j).length+1)=A'.length+1+(pre (parS S) S.length f j).length by omega];exact hj4)
    have HS4:=lhd hs4;clear hj4 hs4;gi_wp2
    go_roundw;case rel=>exact⟨j+1,_,by go_num,by omega,by omega,HNX.out,HJ4.out,HS4.out⟩
    case measure=>simp[intOf];omega
   ·have hne:(pa==p)=false:=by simpa using hpa
    rw[if_neg hpa,List.nil_append]at HPF;have HNX:=lhd (show A'++zl8 (parS S) S.length f p (j+1)=A++PL by rw[←HPF.out];exact HA.out);clear hpa;gi_wp2
    refine⟨fun _ _=>trivial,?_⟩;gi_wp2
    all_goals (try exact(zrr (by assumption)).elim)
    refine⟨trivial,?_⟩;gi_wp2
    go_roundw;case rel=>exact⟨j+1,A',by go_num,by omega,by omega,HNX.out,HJK.out,HSA.out⟩
    case measure=>simp[intOf];omega
  ·have HE:=lhd (show A'.length=A.length+PL.length by
    have:=HA.out;rw[zl9 (by omega),List.append_nil]at this;rw[this,List.length_append])
   gi_wp2
   go_ret;exact⟨rfl,HE.out▸HJK.out,HSA.out⟩
attribute [local go_sem] Oper.semAt_some
theorem ztq (n:Nat) (hn:2≤n) (lp:Nat) (S:List Sc) (v:Value) (w0:World) (J:Nat→World→Prop) (ord:List Nat)
 (hF:Fst (parS S) S.length) (hl:S.length≤1000) (hs:SlR w0 v S.length (scs S))
 (hY:∀k W1,J k W1→k<ord.length→YieldAt Fence.wide (n-1) Tryz.prog lp (ordE ord k) W1 fun e W'=>e=.returned (.bool true)∧J (k+1) W'∧KpO w0.heap.size W1 W'):
 ∀(f:Nat) (p:Int) (A B:List Nat) (W:World),-1≤p→p≤1000→(S.length:Int)≤(f:Int)+p+1→ord=A++pre (parS S) S.length (f+1) p++B→J A.length W→Same0 w0 W→
  WkP n lp v w0 J p A.length (pre (parS S) S.length (f+1) p).length W
 |0,p,A,B,W,h1,h2,h3,ho,h0,h00=>ztr n hn lp S v w0 J ord hF hl hs hY 0 p A B W h1 h2 ho h0 h00 (fun i _ _ _ hi hi2 _ _ _=>by omega)
 |f+1,p,A,B,W,h1,h2,h3,ho,h0,h00=>ztr n hn lp S v w0 J ord hF hl hs hY (f+1) p A B W h1 h2 ho h0 h00 (fun i A' B' W' hi hi2 ho' hj hs'=>
   ztq n hn lp S v w0 J ord hF hl hs hY f (i:Int) A' B' W' (by omega) (by omega) (by omega) ho' hj hs')
theorem zl7 (n:Nat) (hn:2≤n) (lp bs bp:Nat) (S:List Sc) (v:Value) (w0 W:World) (J:Nat→World→Prop)
 (hF:Fst (parS S) S.length) (hl:S.length≤999) (hs:SlR w0 v S.length (scs S)) (h0w:Same0 w0 W)
 (hY:∀k W1,J k W1→k<(preS S).length→YieldAt Fence.wide (n-1) Tryz.prog lp (ordE (preS S) k) W1 fun e W'=>e=.returned (.bool true)∧J (k+1) W'∧KpO w0.heap.size W1 W')
 (hcs:W.heap[bs]? =some (.cells #[v] 27 (0,0))) (hcp:W.heap[bp]? =some (.cells #[.int .i64 (-1)] 3 (0,0))) (h0:J 0 W):
 CallsIn Fence.wide n Tryz.prog 273 #[.func (.yield lp) #[] #[],.pointer (some ⟨bs,0,none⟩),.pointer (some ⟨bp,0,none⟩)] W fun e W'=>(∃v,e=.returned v)∧J (preS S).length W':=by
 have hro:Fence.wide.round=none:=rfl;obtain⟨a,cap,rfl,-,-⟩:=hs.shape;have HW:=lhd (ztq n hn lp S _ w0 J (preS S) hF (by omega) hs hY S.length (-1) [] [] W (by omega) (by omega) (by omega) (by simp[preS]) h0 h0w);obtain⟨cs,-⟩:=zkV hcs;obtain⟨cp,-⟩:=zkV hcp;unfold WkP at HW;clear hs hY h0 h0w hcs hcp hF;refine callsIn_of_wp Tryz.func273 rfl trivial ?_ hro;simp only[Tryz.ntmps273,List.size_toArray,List.length_cons,List.length_nil,Nat.reduceAdd,Nat.reduceSub,Array.replicate_succ,Array.replicate_zero,List.push_toArray,List.append_toArray,List.nil_append,List.cons_append];have h1n:1≤n:=by omega
 gi_wp2
 refine⟨trivial,?_⟩;refine(callsIn_wide.2 (callsIn_wide.1 HW.out)).mono ?_;rintro e W4 ⟨rfl,hj4,-⟩
 have HJ:=lhd (show J (preS S).length W4 by
  have:J (0+(preS S).length) W4:=hj4;rwa [Nat.zero_add]at this)
 clear hj4;gi_wp2
 go_end0
 exact⟨⟨_,rfl⟩,HJ.out⟩
theorem zgF (a:Option Addr) (m cap:Nat) (i:Int) (w:World):
 Calls Tryz.prog 205 #[.slice a m cap,.int .i64 i] w fun e w'=>e=.returned (.func (.func 273) #[] #[.pointer (some ⟨w.heap.size,0,none⟩),.pointer (some ⟨w.heap.size+1,0,none⟩)])∧w'=(w.alloc (.cells #[.slice a m cap] 27)).alloc (.cells #[.int .i64 i] 3):=by
 go_enter Tryz.func205,Tryz.ntmps205;go_wp2_with fail;go_ret;exact⟨rfl,rfl⟩
open Go.RowKit Go.WideMaps
theorem zgt (s:Bs) (w:World) (hm:s.length≤100000):Calls Tryz.prog 260 #[.string (bsB s)] w fun e w'=>e=.returned (.bool (!zjh s))∧Below w.heap.size w w':=by
 have HP:=lhd (zjz (bsB s) w (by rw[zbt];omega));rw[zbq]at HP;generalize zjh s=r at HP⊢;go_enter Tryz.func260,Tryz.ntmps260;go_wp2_with fail;refine HP.out.mono ?_;rintro e w1 ⟨rfl,hb⟩;go_wp2_with fail;go_ret;exact⟨rfl,hb⟩
def outB (n m:Int):Bool:=decide (n<0)||decide (m<n)
theorem zgu (n m:Int) (w:World):Calls Tryz.prog 261 #[.int .i64 n,.int .i64 m] w fun e w'=>e=.returned (.bool (outB n m))∧Below w.heap.size w w':=by
 have HR:=lhd (show(decide (n<0)||decide (m<n))=outB n m from rfl);by_cases h1:n<0
 ·have b1:decide (n<0)=true:=by simpa using h1
  rw[b1]at HR;clear h1;go_enter Tryz.func261,Tryz.ntmps261;go_wp2_with fail;go_ret;exact⟨znc HR.out,Below.refl _ _⟩
 ·have b1:decide (n<0)=false:=by simpa using h1
  by_cases h2:m<n
  ·have b2:decide (m<n)=true:=by simpa using h2
   rw[b1,b2]at HR;clear h1 h2;go_enter Tryz.func261,Tryz.ntmps261;go_wp2_with fail;go_ret;exact⟨znc HR.out,Below.refl _ _⟩
  ·have b2:decide (m<n)=false:=by simpa using h2
   rw[b1,b2]at HR;clear h1 h2;go_enter Tryz.func261,Tryz.ntmps261;go_wp2_with fail;go_ret;exact⟨znc HR.out,Below.refl _ _⟩
def zae (w:World) (pt:Nat) (f:Nat):Prop:=w.cell? ⟨pt,0,none⟩=some (.func (.func f) #[] #[])
theorem zgv (pt:Nat) (x:Sc) (w:World) (hc:zae w pt 260) (hm:(x.1).length≤100000):
 Calls Tryz.prog 264 #[scV x,.pointer (some ⟨pt,0,none⟩)] w fun e w'=>e=.returned (.bool (!zjh x.1))∧Below w.heap.size w w':=by
 have hlt:=zbU hc;have hne:pt≠w.heap.size:=Nat.ne_of_lt hlt;unfold zae at hc;obtain⟨nm,ty,pa⟩:=x;have HP:=lhd (fun W=>zgt nm W hm);generalize zjh nm=r at HP⊢;go_enter Tryz.func264,Tryz.ntmps264;go_wp2_with fail;refine(HP.out _).mono ?_;rintro e w1 ⟨rfl,hb⟩;have HB:=lhd (zfg hb);clear hb;go_wp2_with fail;go_ret;exact⟨rfl,HB.out⟩
theorem zgx (pt:Nat) (x:Vr) (w:World) (hc:zae w pt 260) (hm:(x.nm).length≤100000):
 Calls Tryz.prog 266 #[vrV x,.pointer (some ⟨pt,0,none⟩)] w fun e w'=>e=.returned (.bool (!zjh x.nm))∧Below w.heap.size w w':=by
 have hlt:=zbU hc;have hne:pt≠w.heap.size:=Nat.ne_of_lt hlt;unfold zae at hc;obtain⟨nm,ty,sc,sg,rg,mb,lb⟩:=x;have HP:=lhd (fun W=>zgt nm W hm);generalize zjh nm=r at HP⊢;go_enter Tryz.func266,Tryz.ntmps266;go_wp2_with fail;refine(HP.out _).mono ?_;rintro e w1 ⟨rfl,hb⟩;have HB:=lhd (zfg hb);clear hb;go_wp2_with fail;go_ret;exact⟨rfl,HB.out⟩
theorem zgw (pt:Nat) (x:Sc) (w:World) (hc:zae w pt 261):
 Calls Tryz.prog 267 #[scV x,.pointer (some ⟨pt,0,none⟩)] w fun e w'=>e=.returned (.bool (outB x.2.1 4))∧Below w.heap.size w w':=by
 have hlt:=zbU hc;have hne:pt≠w.heap.size:=Nat.ne_of_lt hlt;unfold zae at hc;obtain⟨nm,ty,pa⟩:=x;have HP:=lhd (fun W=>zgu ty 4 W);dsimp only at HP⊢;generalize outB ty 4=r at HP⊢;go_enter Tryz.func267,Tryz.ntmps267;go_wp2_with fail;refine(HP.out _).mono ?_;rintro e w1 ⟨rfl,hb⟩;have HB:=lhd (zfg hb);clear hb;go_wp2_with fail;go_ret;exact⟨rfl,HB.out⟩
theorem zgz (pt:Nat) (x:Vr) (w:World) (hc:zae w pt 261):
 Calls Tryz.prog 268 #[vrV x,.pointer (some ⟨pt,0,none⟩)] w fun e w'=>e=.returned (.bool (outB x.ty 18))∧Below w.heap.size w w':=by
 have hlt:=zbU hc;have hne:pt≠w.heap.size:=Nat.ne_of_lt hlt;unfold zae at hc;obtain⟨nm,ty,sc,sg,rg,mb,lb⟩:=x;have HP:=lhd (fun W=>zgu ty 18 W);dsimp only at HP⊢;generalize outB ty 18=r at HP⊢;go_enter Tryz.func268,Tryz.ntmps268;go_wp2_with fail;refine(HP.out _).mono ?_;rintro e w1 ⟨rfl,hb⟩;have HB:=lhd (zfg hb);clear hb;go_wp2_with fail;go_ret;exact⟨rfl,HB.out⟩
theorem zgy (x:Vr) (w:World):Calls Tryz.prog 262 #[vrV x] w fun e w'=>e=.returned (.bool (zmS x))∧Below w.heap.size w w':=by
 obtain⟨nm,ty,sc,sg,rg,mb,lb⟩:=x;have HP:=lhd (fun W=>zjA mb lb W);obtain⟨R,hR⟩:∃R,R=zmS ⟨nm,ty,sc,sg,rg,mb,lb⟩:=⟨_,rfl⟩;rw[←hR];unfold zmS at hR;dsimp only at hR;have hal:Below w.heap.size w (w.alloc (.cells #[.string (bsB nm),.int .i64 ty,.int .i64 sc,.int .i64 sg,.bool rg,.int .i64 mb,.int .i64 lb] 55)):=(Below.refl _ _).alloc (Nat.le_refl _) _;cases rg
 ·rw[if_neg (by decide)]at hR;by_cases h1:mb=0
  ·by_cases h2:lb=0
   ·have HR:=lhd (show R=false by rw[hR];simp[h1,h2]);have b1:(mb==0)=true:=by simp[h1]
    have b2:(lb==0)=true:=by simp[h2]
    subst h1 h2;clear hR HP;go_enter Tryz.func262,Tryz.ntmps262;go_wp2_with fail;go_ret;exact⟨znc HR.out.symm,hal⟩
   ·have HR:=lhd (show R=true by rw[hR];simp[h2]);have b2:(lb==0)=false:=by simpa using h2
    have b3:(lb !=0)=true:=by simpa using h2
    subst h1;clear hR HP h2;go_enter Tryz.func262,Tryz.ntmps262;go_wp2_with fail;go_ret;exact⟨znc HR.out.symm,hal⟩
  ·have HR:=lhd (show R=true by rw[hR];simp[h1]);have b2:(mb==0)=false:=by simpa using h1
   have b3:(mb !=0)=true:=by simpa using h1
   clear hR HP h1;go_enter Tryz.func262,Tryz.ntmps262;go_wp2_with fail;go_ret;exact⟨znc HR.out.symm,hal⟩
 ·rw[if_pos rfl]at hR;have HR:=lhd (show R=(ztw mb lb==0)by rw[hR];rfl);generalize ztw mb lb=q at HP HR;clear hR;go_enter Tryz.func262,Tryz.ntmps262;go_wp2_with fail;refine(HP.out _).mono ?_;rintro e w1 ⟨rfl,rfl⟩;go_wp2_with fail;go_ret;exact⟨znc HR.out.symm,hal⟩
theorem zae.below {w W:World} {pt f:Nat} (h:zae w pt f) (hb:Below w.heap.size w W):zae W pt f:=(hb.cell (p:=⟨pt,0,none⟩) (zbU h)).trans h
def ziI (S:List Sc) (i:Nat):Bool:=decide (8<(upL S (i+1) i).length)
def chk2 (p1 p2 q1 q2 r1 u1 u2:Bool):Int:=if(p1||p2)=true then 4 else if(q1||q2)=true then 7 else if r1=true then 2 else if(!u1||!u2)=true then 5 else 0
theorem zb7 (S:List Sc) (V:List Vr) (h1:¬32<S.length) (h2:¬128<V.length) (hd:zdX S V=true):zb6 S V=if(List.range S.length).any (ziI S)=true then 9 else
 chk2 (S.any fun s=>!zjh s.1) (V.any fun v=>!zjh v.nm) (S.any fun s=>outB s.2.1 4) (V.any fun v=>outB v.ty 18) (V.any zmS) (uniq znK S) (uniq zs1 V):=by
 unfold zb6;rw[if_neg (by omega),if_neg (by rw[hd];decide)];rfl
theorem ztv {n:Int} (h1: -1000000≤n) (h2:n≤1000000):(Lit.int .i64 n).wf=true:=by
 have e1:IntKind.i64.min= -9223372036854775808:=by decide
 have e2:IntKind.i64.max=9223372036854775807:=by decide
 unfold Lit.wf;rw[Bool.and_eq_true,decide_eq_true_iff,decide_eq_true_iff,e1,e2];omega
theorem zgA (v v2:Value) (S:List Sc) (V:List Vr) (w:World) (hs:SlR w v S.length (scs S)) (hv:SlR w v2 V.length (vrs V)) (hl:S.length≤1000∧V.length≤1000) (hn:(∀s∈S,s.1.length≤100000)∧∀x∈V,x.nm.length≤100000):
 Calls Tryz.prog 204 #[v,v2] w fun e w'=>e=.returned (.int .i64 (zb6 S V))∧Below w.heap.size w w':=by
 obtain⟨a,cap,rfl,-,-⟩:=hs.shape;obtain⟨a2,cap2,rfl,-,-⟩:=hv.shape;obtain⟨R,hR⟩:∃R,R=zb6 S V:=⟨_,rfl⟩;rw[←hR];by_cases h32:32<S.length
 ·have HR:=lhd (show 9=R by rw[hR];unfold zb6;rw[if_pos (.inl h32)]);have b1:decide ((32:Int)<(S.length:Int))=true:=by rw[decide_eq_true_iff];omega
  clear hR h32 hs hv hn;go_enter Tryz.func204,Tryz.ntmps204;go_wp2_with fail;go_ret;exact⟨zne HR.out,Below.refl _ _⟩
 have b1:decide ((32:Int)<(S.length:Int))=false:=by rw[decide_eq_false_iff_not];omega
 by_cases h128:128<V.length
 ·have HR:=lhd (show 9=R by rw[hR];unfold zb6;rw[if_pos (.inr h128)]);have b2:decide ((128:Int)<(V.length:Int))=true:=by rw[decide_eq_true_iff];omega
  clear hR h32 hs hv hn h128;go_enter Tryz.func204,Tryz.ntmps204;go_wp2_with fail;go_ret;exact⟨zne HR.out,Below.refl _ _⟩
 have b2:decide ((128:Int)<(V.length:Int))=false:=by rw[decide_eq_false_iff_not];omega
 have HD:=lhd (zgB _ _ S V w hs hv (by omega));cases hd:zdX S V
 ·have HR:=lhd (show 1=R by rw[hR];unfold zb6;rw[if_neg (by omega),if_pos hd]);rw[hd]at HD;clear hR h32 hs hv hn h128 hd;go_enter Tryz.func204,Tryz.ntmps204;go_wp2_with fail;refine HD.out.mono ?_;rintro e w1 ⟨rfl,hb⟩;go_wp2_with fail;go_ret;exact⟨zne HR.out,hb⟩
 rw[hd]at HD;have HQ:=lhd (hR.trans (zb7 S V h32 h128 hd));have HF:=lhd (zd0 hd);have HV2:=lhd (zd2 hd);have HS:=lhd hs;have HV:=lhd hv;have HN:=lhd hn;have HL:=lhd (show S.length≤32∧V.length≤128 by omega);clear hR hs hv hn h32 h128 hd hl;go_enter Tryz.func204,Tryz.ntmps204;go_wp2_with fail;refine HD.out.mono ?_;rintro e w1 ⟨rfl,hb⟩;have HB:=lhd hb;clear hb HD;go_wp2_with fail;go_loopw [23] (fun i wr=>∃k:Nat,k≤S.length∧i=.int .i64 k∧(∀j,j<k→ziI S j=false)∧Below w.heap.size w wr) (fun i _=>S.length-(intOf i).toNat)
 case atStart=>exact⟨0,Nat.zero_le _,rfl,fun j hj=>absurd hj (Nat.not_lt_zero _),HB.out⟩
 case round=>
  obtain⟨k,hk,rfl,hsh,hbw⟩:=hrel;have HSH:=lhd hsh;have HBW:=lhd hbw;have hl:=HL.out;clear hsh hbw;by_cases hlt:k<S.length
  ·have HP:=lhd (zgE _ S k wr (HS.out.below HBW.out) HF.out hlt (by omega));cases hlo:ziI S k
   ·have HLO:=lhd (of_decide_eq_false hlo)
    have HSH2:=lhd (show ∀j,j<k+1→ziI S j=false by
     intro j hj;by_cases h:j<k
     ·exact HSH.out j h
     ·rw[show j=k by omega];exact hlo)
    clear hlo;go_wp2_with fail;refine HP.out.mono ?_;rintro e w2 ⟨v',rfl,ho,hb2⟩;obtain⟨pa,pc,rfl,-,-⟩:=(SlR.of_own ho).shape;have hb3:decide ((8:Int)<((upL S (k+1) k).length:Int))=false:=by rw[decide_eq_false_iff_not];have:=HLO.out;omega
    have HB2:=lhd (HBW.out.trans (hb2.mono HBW.out.size));generalize (upL S (k+1) k).length=pn at*;clear ho hb2;go_wp2_with fail;go_roundw;case rel=>exact⟨k+1,by omega,by go_num,HSH2.out,HB2.out⟩
    case measure=>simp[intOf];omega
   ·have HLO:=lhd (of_decide_eq_true hlo)
    have HR:=lhd (show 9=R by
     rw[HQ.out,if_pos];rw[List.any_eq_true];exact⟨k,List.mem_range.2 hlt,hlo⟩)
    clear hlo;go_wp2_with fail;refine HP.out.mono ?_;rintro e w2 ⟨v',rfl,ho,hb2⟩;obtain⟨pa,pc,rfl,-,-⟩:=(SlR.of_own ho).shape;have hb3:decide ((8:Int)<((upL S (k+1) k).length:Int))=true:=by rw[decide_eq_true_iff];have:=HLO.out;omega
    have HB2:=lhd (HBW.out.trans (hb2.mono HBW.out.size));generalize (upL S (k+1) k).length=pn at*;clear ho hb2;go_wp2_with fail;go_ret;exact⟨zne HR.out,HB2.out⟩
  ·obtain rfl:k=S.length:=by omega
   have HQ2:=lhd (show R=chk2 (S.any fun s=>!zjh s.1) (V.any fun v=>!zjh v.nm) (S.any fun s=>outB s.2.1 4) (V.any fun v=>outB v.ty 18) (V.any zmS) (uniq znK S) (uniq zs1 V)by
    have h7:(List.range S.length).any (ziI S)=false:=zaS.2 fun j hj=>HSH.out j (List.mem_range.1 hj);rw[HQ.out,h7];rfl)
   clear hlt HQ;have HB2:=lhd ((HBW.out.alloc HBW.out.size (.cells #[(.func (.func 260) #[] #[])] 151)).alloc (by have:=HBW.out.size;simp;omega) (.cells #[(.func (.func 261) #[] #[])] 48));have hx1:=(zan.fresh wr #[(.func (.func 260) #[] #[])] 151).cell (j:=0) rfl;have hx2:=(zan.fresh (wr.alloc (.cells #[(.func (.func 260) #[] #[])] 151)) #[(.func (.func 261) #[] #[])] 48).cell (j:=0) rfl;have hx3:=zbT hx1 (.cells #[(.func (.func 261) #[] #[])] 48);rw[World.size_alloc]at hx2;have HF1:=lhd (show zae ((wr.alloc (.cells #[(.func (.func 260) #[] #[])] 151)).alloc (.cells #[(.func (.func 261) #[] #[])] 48)) wr.heap.size 260 from hx3);have HF2:=lhd (show zae ((wr.alloc (.cells #[(.func (.func 260) #[] #[])] 151)).alloc (.cells #[(.func (.func 261) #[] #[])] 48)) (wr.heap.size+1) 261 from hx2);clear hx1 hx2 hx3;generalize hw2:(wr.alloc (.cells #[(.func (.func 260) #[] #[])] 151)).alloc (.cells #[(.func (.func 261) #[] #[])] 48)=w2 at*;have HSL:=lhd (fun(W:World) (hW:Below w2.heap.size w2 W)=>HS.out.below (HB2.out.trans (hW.mono HB2.out.size)));have HVL:=lhd (fun(W:World) (hW:Below w2.heap.size w2 W)=>HV.out.below (HB2.out.trans (hW.mono HB2.out.size)));have HC1:=lhd (fun(W:World) (hW:Below w2.heap.size w2 W)=>zdh wr.heap.size (fun s=>!zjh s.1) _ S W (HSL.out W hW) (fun x hx U hU=>zgv _ x U ((HF1.out.below hW).below hU) (HN.out.1 x hx)));have HC2:=lhd (fun(W:World) (hW:Below w2.heap.size w2 W)=>zdj wr.heap.size (fun x=>!zjh x.nm) _ V W (HVL.out W hW) (fun x hx U hU=>zgx _ x U ((HF1.out.below hW).below hU) (HN.out.2 x hx)));have HC3:=lhd (fun(W:World) (hW:Below w2.heap.size w2 W)=>zdi (wr.heap.size+1) (fun s=>outB s.2.1 4) _ S W (HSL.out W hW) (fun x hx U hU=>zgw _ x U ((HF2.out.below hW).below hU)));have HC4:=lhd (fun(W:World) (hW:Below w2.heap.size w2 W)=>zdl (wr.heap.size+1) (fun x=>outB x.ty 18) _ V W (HVL.out W hW) (fun x hx U hU=>zgz _ x U ((HF2.out.below hW).below hU)));have HC5:=lhd (fun(W:World) (hW:Below w2.heap.size w2 W)=>zdk 0 zmS _ V W (HVL.out W hW) (fun x hx U hU=>zgy x U))
   have HC6:=lhd (fun(W:World) (hW:Below w2.heap.size w2 W)=>zgI _ S W (HSL.out W hW) (by omega) (fun x hx=>⟨by
    obtain⟨j,hj,rfl⟩:=List.mem_iff_getElem.1 hx;have:=HF.out j hj;have e:parS S j=S[j].2.2:=by simp[parS,List.getD,hj]
    rw[e]at this;exact ztv (by omega) (by omega),by have:=HN.out.1 x hx;unfold maxLen;omega⟩))
   have HC7:=lhd (fun(W:World) (hW:Below w2.heap.size w2 W) (hr:V.any zmS=false)=>zgJ _ V W (HVL.out W hW) (by omega) (fun x hx=>by
    have h1:=HV2.out x hx;have h2:=HN.out.2 x hx;have h3:=zaS.1 hr x hx
    have h4:(-32768≤x.mb∧x.mb≤32768)∧(-32768≤x.lb∧x.lb≤32768):=by
     unfold zmS at h3;split at h3
     ·have h3:=of_decide_eq_false h3;unfold ztw at h3;split at h3
      ·rename_i hb
       unfold zbj at hb;simp only[Bool.and_eq_true,decide_eq_true_iff]at hb;exact hb
      ·exact absurd rfl h3
     ·rw[Bool.or_eq_false_iff]at h3;have h5:=of_decide_eq_false h3.1;have h6:=of_decide_eq_false h3.2;omega
    exact⟨⟨ztv (by omega) (by omega),by unfold maxLen;omega⟩,ztv (by omega) (by omega),ztv (by omega) (by omega)⟩))
   generalize (S.any fun s=>!zjh s.1)=p1 at*;generalize (V.any fun v=>!zjh v.nm)=p2 at*;generalize (S.any fun s=>outB s.2.1 4)=q1 at*;generalize (V.any fun v=>outB v.ty 18)=q2 at*;generalize V.any zmS=r1 at*;generalize uniq znK S=u1 at*;generalize uniq zs1 V=u2 at*;have HB0:=lhd (Below.refl w2.heap.size w2);have HQ3:=HQ2;have HW2:=lhd hw2;clear HSL HVL HS HV HN HF HV2 HSH HQ2 HF1 HF2 hw2 HL hl;go_wp2_with fail;rw[HW2.out];refine(HC1.out _ HB0.out).mono ?_;rintro e w8 ⟨rfl,hb8⟩;have HB3:=lhd (zfj HB0.out hb8);clear hb8 HC1;cases p1
   rotate_left
   ·go_wp2_with fail;go_ret;exact⟨zne (by rw[HQ3.out];rfl),HB2.out.trans (HB3.out.mono HB2.out.size)⟩
   go_wp2_with fail;refine(HC2.out _ HB3.out).mono ?_;rintro e w8 ⟨rfl,hb8⟩;have HB4:=lhd (zfj HB3.out hb8);clear hb8 HC2;cases p2
   rotate_left
   ·go_wp2_with fail;go_ret;exact⟨zne (by rw[HQ3.out];rfl),HB2.out.trans (HB4.out.mono HB2.out.size)⟩
   go_wp2_with fail;refine(HC3.out _ HB4.out).mono ?_;rintro e w8 ⟨rfl,hb8⟩;have HB5:=lhd (zfj HB4.out hb8);clear hb8 HC3;cases q1
   rotate_left
   ·go_wp2_with fail;go_ret;exact⟨zne (by rw[HQ3.out];rfl),HB2.out.trans (HB5.out.mono HB2.out.size)⟩
   go_wp2_with fail;refine(HC4.out _ HB5.out).mono ?_;rintro e w8 ⟨rfl,hb8⟩;have HB6:=lhd (zfj HB5.out hb8);clear hb8 HC4;cases q2
   rotate_left
   ·go_wp2_with fail;go_ret;exact⟨zne (by rw[HQ3.out];rfl),HB2.out.trans (HB6.out.mono HB2.out.size)⟩
   go_wp2_with fail;refine(HC5.out _ HB6.out).mono ?_;rintro e w8 ⟨rfl,hb8⟩;have HB7:=lhd (zfj HB6.out hb8);clear hb8 HC5;cases r1
   rotate_left
   ·go_wp2_with fail;go_ret;exact⟨zne (by rw[HQ3.out];rfl),HB2.out.trans (HB7.out.mono HB2.out.size)⟩
   have HC8:=lhd (fun W hW=>HC7.out W hW rfl);clear HC7;go_wp2_with fail;refine(HC6.out _ HB7.out).mono ?_;rintro e w8 ⟨rfl,hb8⟩;have HB8:=lhd (zfj HB7.out hb8);clear hb8 HC6;cases u1
   ·go_wp2_with fail;go_ret;exact⟨zne (by rw[HQ3.out];rfl),HB2.out.trans (HB8.out.mono HB2.out.size)⟩
   go_wp2_with fail;refine(HC8.out _ HB8.out).mono ?_;rintro e w8 ⟨rfl,hb8⟩;have HB9:=lhd (zfj HB8.out hb8);clear hb8 HC8;cases u2
   ·go_wp2_with fail;go_ret;exact⟨zne (by rw[HQ3.out];rfl),HB2.out.trans (HB9.out.mono HB2.out.size)⟩
   go_wp2_with fail;go_ret;exact⟨zne (by rw[HQ3.out];rfl),HB2.out.trans (HB9.out.mono HB2.out.size)⟩
open Go.RowKit Go.WideMaps Go.Shelf
attribute [local go_sem] Oper.semAt_some
theorem ztP {P:Program} {K:TypeId} {κ:Type} [DecidableEq κ] {E:KeyEnc P K κ} (w:World) {ops:Array Oper} {rest:List Oper} {o:Oper} {a:Act} {Q:Exit→Act→World→Prop}
 (hg:o.guard=none) (m x v:Operand) (t:TypeId) (hop:o.op=Op.insert t m x v) (e:TypeId) (ht:P.underlying t=some (.map K e)) (b n:Nat) (f:κ→Option Value)
 (hm:a.eval m=.map (some b)) (hown:KMap E w b n f) (hn:n<maxLen) (k:κ) (val:Value) (hx:a.eval x=E.vK k) (hv:a.eval v=val) (hk:E.dom k)
 (hC:∀w',KMap E w' b (n+1) (fun y=>if y=k then some val else f y)→w.grownBy w' (some b)→wpList P ops Q rest (a.put o.dst undef) w'):
 wpList P ops Q (o::rest) a w:=by
 refine wpList_plain hg fun K' hK'=>?_;obtain⟨w',hrun,r1,r2⟩:=hown.put ht hn k hk val;unfold Oper.wp;simp[execOp,hop,hm,hx,hv,hrun,Result.andThen];exact hK' _ _ (hC w' r1 r2)
theorem ztO {F:Fence} {nF:Nat} {P:Program} {K:TypeId} {κ:Type} [DecidableEq κ] {E:KeyEnc P K κ} (w:World) {ops:Array Oper} {rest:List Oper} {o:Oper} {a:Act} {Q:Exit→Act→World→Prop}
 (hg:o.guard=none) (m x v:Operand) (t:TypeId) (hop:o.op=Op.mapUpdate t m x v) (e:TypeId) (ht:P.underlying t=some (.map K e)) (b n:Nat) (f:κ→Option Value)
 (hm:a.eval m=.map (some b)) (hown:KMap E w b n f) (hn:n<maxLen) (k:κ) (val:Value) (hx:a.eval x=E.vK k) (hv:a.eval v=val) (hk:E.dom k)
 (hC:∀w',KMap E w' b (n+1) (fun y=>if y=k then some val else f y)→w.grownBy w' (some b)→wpListIn F nF P ops Q rest (a.put o.dst undef) w'):
 wpListIn F nF P ops Q (o::rest) a w:=by
 refine wpListIn_plain hg fun K' hK'=>?_;obtain⟨w',hrun,r1,r2⟩:=hown.put ht hn k hk val;unfold Oper.wpIn;refine⟨by simp[Oper.about,hop],?_⟩;rw[Oper.semAt_plain F _ _ (by rw[hop];intro c hc';cases hc')];simp[execOp,hop,hm,hx,hv,hrun,Result.andThen];exact hK' _ _ (hC w' r1 r2)
def nowF (ord:List Nat) (k:Nat) (x:Int):Option Value:=if x= -1∨(0≤x∧x.toNat∈ord.take k)then some (.int .i64 (pos ord x))else none
theorem zjU {ord:List Nat} (hn:ord.Nodup) {k:Nat} (hk:k<ord.length) (y:Int):(if y=(ord[k]:Int)then some (Value.int .i64 (k:Int))else nowF ord k y)=nowF ord (k+1) y:=by
 have hix:ord.idxOf ord[k]=k:=hn.idxOf_getElem k hk;by_cases hy:y=(ord[k]:Int)
 ·subst hy;rw[if_pos rfl];unfold nowF;rw[if_pos (.inr ⟨by omega,by rw[Int.toNat_natCast,List.take_succ_eq_append_getElem hk];exact List.mem_append_right _ (List.mem_singleton.2 rfl)⟩)];unfold pos;rw[if_neg (by omega),Int.toNat_natCast,hix]
 ·rw[if_neg hy];unfold nowF
  have e:(y= -1∨(0≤y∧y.toNat∈ord.take (k+1)))↔(y= -1∨(0≤y∧y.toNat∈ord.take k)):=by
   rw[List.take_succ_eq_append_getElem hk];simp only[List.mem_append,List.mem_singleton];constructor
   ·rintro(h|⟨h1,h2|h2⟩)
    ·exact .inl h
    ·exact .inr ⟨h1,h2⟩
    ·exact absurd (show y=(ord[k]:Int)by omega) hy
   ·rintro(h|⟨h1,h2⟩)
    ·exact .inl h
    ·exact .inr ⟨h1,.inl h2⟩
  by_cases h:y= -1∨(0≤y∧y.toNat∈ord.take k)
  ·rw[if_pos h,if_pos (e.2 h)]
  ·rw[if_neg h,if_neg (fun h'=>h (e.1 h'))]
theorem zjV (ord:List Nat) (y:Int):(if y= -1 then some (Value.int .i64 (-1))else none)=nowF ord 0 y:=by
 unfold nowF;by_cases hy:y= -1
 ·subst hy;rw[if_pos rfl,if_pos (.inl rfl)];rfl
 ·rw[if_neg hy,if_neg];rintro(h|⟨-,h⟩)
  ·exact hy h
  ·simp at h
structure OrI (w:World) (v:Value) (b9 bq:Nat) (S:List Sc) (k km:Nat) (vo:Value) (W:World):Prop where
 bs:W.heap[w.heap.size]? =some (.cells #[v] 27 (0,0))
 bo:W.heap[b9]? =some (.cells #[vo] 27 (0,0))
 bn:W.heap[bq]? =some (.cells #[.map (some (b9+1))] 219 (0,0))
 m:KMap (zhd (P:=Tryz.prog) (K:=3) Tryz.underlying3) W (b9+1) (km+1) (nowF (preS S) km)
 o:W.ownsRow w.heap.size 66 3 vo k (scs ((scF S).take k))
 b:Below w.heap.size w W
 z:w.heap.size<b9∧b9+1<bq
theorem OrI.turn {w W V:World} {v vo:Value} {b9 bq k km B:Nat} {S:List Sc} (h:OrI w v b9 bq S k km vo W) (hB:bq<B) (ht:TurnI B 5 W V):OrI w v b9 bq S k km vo V:=by
 have hz:=h.z
 exact⟨(ht.low _ (by omega)).trans h.bs,(ht.low _ (by omega)).trans h.bo,(ht.low _ (by omega)).trans h.bn,h.m.same (ht.low _ (by omega)),zlH h.o ht (by decide),
  ⟨ht.os.trans h.b.os,ht.tape.trans h.b.tape,ht.output.trans h.b.output,Nat.le_trans h.b.size ht.size,fun b hb=>(ht.low b (by omega)).trans (h.b.block b hb)⟩,h.z⟩
theorem OrI.below {w W V:World} {v vo:Value} {b9 bq k km:Nat} {S:List Sc} (h:OrI w v b9 bq S k km vo W) (hb:Below W.heap.size W V):OrI w v b9 bq S k km vo V:=by
 have hs:=Same0.of_below hb;exact⟨hs.cells _ _ _ _ h.bs,hs.cells _ _ _ _ h.bo,hs.cells _ _ _ _ h.bn,h.m.below hb h.m.lt,zlD h.o hs,h.b.trans (hb.mono h.b.size),h.z⟩
theorem OrI.setM {w W W1:World} {v vo:Value} {b9 bq k:Nat} {S:List Sc} (h:OrI w v b9 bq S k k vo W) (hn:(preS S).Nodup) (hk:k<(preS S).length)
 (hm:KMap (zhd (P:=Tryz.prog) (K:=3) Tryz.underlying3) W1 (b9+1) (k+1+1) (fun y=>if y=((preS S)[k]:Int)then some (.int .i64 (k:Int))else nowF (preS S) k y)) (hg:W.grownBy W1 (some (b9+1))):OrI w v b9 bq S k (k+1) vo W1:=by
 have hz:=h.z
 have hne:∀(i:Nat) (D:Array Value) (T:TypeId) (fr:Nat×Nat),W.heap[i]? =some (.cells D T fr)→W1.heap[i]? =some (.cells D T fr):=by
  intro i D T fr hi
  rw[hg.block i (Array.getElem?_eq_some_iff.1 hi).1 (fun q=>by
   injection q with q;subst q;exact h.m.no_cells hi)]
  exact hi
 exact⟨hne _ _ _ _ h.bs,hne _ _ _ _ h.bo,hne _ _ _ _ h.bn,hm.ext (fun y=>zjU hn hk y),h.o.kept hg (.inr fun e=>h.m.ne_row h.o e.symm),h.b.grown hg h.b.size (fun j hj=>by injection hj with hj;omega),hz⟩
theorem OrI.add {w W W1:World} {v vo vo':Value} {b9 bq k km:Nat} {S:List Sc} {x:Sc} (h:OrI w v b9 bq S k km vo W) (hx:(scF S)[k]? =some x) (ho:W1.ownsRow w.heap.size 66 3 vo' (k+1) (scs ((scF S).take k)++scC x)) (hg:W.grownBy W1 vo.ownBlock):
 OrI w v b9 bq S (k+1) km vo' (W1.setCell ⟨b9,0,none⟩ vo'):=by
 have hz:=h.z
 have hne:∀(i:Nat) (D:Array Value) (T:TypeId) (fr:Nat×Nat),W.heap[i]? =some (.cells D T fr)→T≠66→W1.heap[i]? =some (.cells D T fr):=by
  intro i D T fr hi hT
  rw[hg.block i (Array.getElem?_eq_some_iff.1 hi).1 (fun q=>by
   rcases h.o.2 with⟨rfl,-⟩|⟨g',cap',cur,rfl,-,hgb,-⟩
   ·cases q
   ·injection q with q;subst q;rw[hgb]at hi;injection hi with hi;injection hi with _ h5 _;exact hT h5.symm)]
  exact hi
 have h1:=hne _ _ _ _ h.bs (by decide);have h2:=hne _ _ _ _ h.bo (by decide);have h3:=hne _ _ _ _ h.bn (by decide);have hm:=(h.m.kept hg (h.m.ne_row h.o)).setCell (a:=⟨b9,0,none⟩) (by show b9+1≠b9;omega) vo';refine⟨zgl (by omega) h1,zgm h2,zgl (by omega) h3,hm,?_,(h.b.grown hg h.b.size (fun k hk=>(h.o.lt _ hk).1)).setCell (p:=⟨b9,0,none⟩) (by show w.heap.size≤b9;omega) _,hz⟩;rw[List.take_add_one,hx,zoa];show World.ownsRow _ _ _ _ _ _ (scs ((scF S).take k)++scs [x]);have e:scs [x]=scC x:=by simp[scs]
 rw[e];refine ownsRow_setCell_other (a:=⟨b9,0,none⟩) ho (fun q=>?_) _;rcases ho.2 with⟨rfl,-⟩|⟨g',cap',cur,rfl,-,hgb,-⟩
 ·cases q
 ·injection q with q;subst q;rw[hgb]at h2;injection h2 with h2;injection h2 with _ h5 _;exact absurd h5 (by decide)
theorem OrI.keepBo {w W W1:World} {v vo:Value} {b9 bq k km:Nat} {S:List Sc} (h:OrI w v b9 bq S k km vo W) (hg:W.grownBy W1 vo.ownBlock):W1.heap[b9]? =some (.cells #[vo] 27 (0,0)):=by
 rw[hg.block b9 (Array.getElem?_eq_some_iff.1 h.bo).1 (fun q=>by
  rcases h.o.2 with⟨rfl,-⟩|⟨g',cap',cur,rfl,-,hgb,-⟩
  ·cases q
  ·injection q with q;subst q;have hi:=h.bo;rw[hgb]at hi;injection hi with hi;injection hi with _ h5 _;exact absurd h5 (by decide))]
 exact h.bo
theorem OrI.others {w W W1:World} {v vo vo':Value} {b9 bq k km:Nat} {S:List Sc} (h:OrI w v b9 bq S k km vo W) (hg:W.grownBy W1 vo.ownBlock):KeepsOthers W (W1.setCell ⟨b9,0,none⟩ vo'):=by
 refine(KeepsOthers.of_grownBy hg fun j o ej hj=>?_).trans (KeepsOthers.setCell _ _ _);rcases h.o.2 with⟨rfl,_⟩|⟨g,cap,cur,rfl,_,hgb,_⟩
 ·simp[Value.ownBlock]at ej
 ·obtain rfl:g=j:=by simpa[Value.ownBlock] using ej
  rw[hgb]at hj;cases hj;rfl
theorem OrI.kp {w W W1:World} {v vo vo':Value} {b9 bq k km:Nat} {S:List Sc} (h:OrI w v b9 bq S k km vo W) (hg:W.grownBy W1 vo.ownBlock):KpO w.heap.size W (W1.setCell ⟨b9,0,none⟩ vo'):=by
 refine⟨by have:=hg.size;simpa using this,fun b C T fr hb hc=>?_⟩;have hz:=h.z;rw[Below.heap_setCell _ _ _ _ (by show b≠b9;omega),hg.block b (Array.getElem?_eq_some_iff.1 hc).1 (fun q=>by have:=(h.o.lt _ q.symm).1;omega)];exact hc
theorem zlY {S:List Sc} {k:Nat} (hk:k<(preS S).length):parS S (preS S)[k]= -1∨(0≤parS S (preS S)[k]∧(parS S (preS S)[k]).toNat∈(preS S).take (k+1)):=by
 have hsp:preS S=(preS S).take k++(preS S)[k]::(preS S).drop (k+1):=by rw[←List.drop_eq_getElem_cons hk,List.take_append_drop]
 rcases zmk _ _ _ _ _ hsp with h|⟨y,hy,h⟩
 ·exact .inl h
 ·rw[h];refine .inr ⟨by omega,?_⟩;rw[Int.toNat_natCast,List.take_succ_eq_append_getElem hk];exact List.mem_append_left _ hy
def fewH (S:List Sc) (V:List Vr):Bool:=S.all (fun s=>decide (s.1.length≤60))&&V.all (fun v=>decide (v.nm.length≤60))&&(decide (S.length≤40)&&decide (V.length≤140))
theorem zni (v v2:Value) (S:List Sc) (V:List Vr) (w:World) (hs:SlR w v S.length (scs S)) (hv:SlR w v2 V.length (vrs V)):
 Calls Tryz.prog 28 #[v,v2] w fun e w'=>e=.returned (.bool (fewH S V))∧w'=w:=by
 obtain⟨a,cap,rfl,hc,hm⟩:=hs.shape;obtain⟨a2,cap2,rfl,hc2,hm2⟩:=hv.shape;unfold maxLen at hm hm2;have HS:=lhd hs;have HV:=lhd hv;clear hs hv;go_enter Tryz.func28,Tryz.ntmps28;go_wp2_with fail;go_loopw [5] (fun i wr=>∃k:Nat,k≤S.length∧i=.int .i64 k∧(S.take k).all (fun s=>decide (s.1.length≤60))=true∧wr=w) (fun i _=>S.length-(intOf i).toNat)
 case atStart=>exact⟨0,Nat.zero_le _,rfl,rfl,rfl⟩
 case round=>
  obtain⟨k,hk,rfl,hal,rfl⟩:=hrel;have HA:=lhd hal;clear hal;by_cases hlt:k<S.length
  ·obtain⟨b,o,rfl,hcell⟩:=HS.out.scs hlt
   have HTK:=lhd (show(S.take (k+1)).all (fun s=>decide (s.1.length≤60))=((S.take k).all (fun s=>decide (s.1.length≤60))&&decide (S[k].1.length≤60))by
    rw[List.take_succ_eq_append_getElem hlt,List.all_append];simp)
   have HMM:=lhd (List.getElem_mem hlt);generalize S[k]=x at*;obtain⟨nm,ty,pa⟩:=x;have d0:wr.cell? ⟨b,o+k*3,none⟩=some (.string (bsB nm)):=hcell 0 _ rfl;have hsz:(bsB nm).size=nm.length:=rfl;clear hcell;dsimp only at HTK;by_cases hx:nm.length≤60
   ·have bx:¬(60:Int)<((bsB nm).size:Int):=by rw[hsz];omega
    have HA2:=lhd (show(S.take (k+1)).all (fun s=>decide (s.1.length≤60))=true by rw[HTK.out,HA.out,decide_eq_true hx];rfl);clear hx hsz;go_wp2_with fail;go_roundw;case rel=>exact⟨k+1,hlt,by go_num,HA2.out,by trivial⟩
    case measure=>simp[intOf];omega
   ·have bx:(60:Int)<((bsB nm).size:Int):=by rw[hsz];omega
    have HR:=lhd (show false=fewH S V by
     unfold fewH
     have:S.all (fun s=>decide (s.1.length≤60))=false:=by
      rw[List.all_eq_false];exact⟨_,HMM.out,by simpa using hx⟩
     rw[this];rfl)
    clear hx hsz;go_wp2_with fail;go_ret;exact⟨znc HR.out,rfl⟩
  ·obtain rfl:k=S.length:=by omega
   have hal:=HA.out;rw[List.take_length]at hal;have HA1:=lhd hal;clear hal hlt;go_wp2_with fail;go_loopw [6] (fun i wq=>∃k:Nat,k≤V.length∧i=.int .i64 k∧(V.take k).all (fun v=>decide (v.nm.length≤60))=true∧wq=wr) (fun i _=>V.length-(intOf i).toNat)
   case atStart=>exact⟨0,Nat.zero_le _,rfl,rfl,rfl⟩
   case round=>
    obtain⟨k,hk,rfl,hal,rfl⟩:=hrel;have HA:=lhd hal;clear hal;by_cases hlt:k<V.length
    ·obtain⟨b,o,rfl,hcell⟩:=HV.out.vrs hlt
     have HTK:=lhd (show(V.take (k+1)).all (fun v=>decide (v.nm.length≤60))=((V.take k).all (fun v=>decide (v.nm.length≤60))&&decide (V[k].nm.length≤60))by
      rw[List.take_succ_eq_append_getElem hlt,List.all_append];simp)
     have HMM:=lhd (List.getElem_mem hlt);generalize V[k]=x at*;obtain⟨nm,ty,sc,sg,rg,mb,lb⟩:=x;have d0:wr.cell? ⟨b,o+k*7,none⟩=some (.string (bsB nm)):=hcell 0 _ rfl;have hsz:(bsB nm).size=nm.length:=rfl;clear hcell;dsimp only at HTK;by_cases hx:nm.length≤60
     ·have bx:¬(60:Int)<((bsB nm).size:Int):=by rw[hsz];omega
      have HA2:=lhd (show(V.take (k+1)).all (fun v=>decide (v.nm.length≤60))=true by rw[HTK.out,HA.out,decide_eq_true hx];rfl);clear hx hsz;go_wp2_with fail;go_roundw;case rel=>exact⟨k+1,hlt,by go_num,HA2.out,by trivial⟩
      case measure=>simp[intOf];omega
     ·have bx:(60:Int)<((bsB nm).size:Int):=by rw[hsz];omega
      have HR:=lhd (show false=fewH S V by
       unfold fewH
       have:V.all (fun v=>decide (v.nm.length≤60))=false:=by
        rw[List.all_eq_false];exact⟨_,HMM.out,by simpa using hx⟩
       rw[this,Bool.and_false];rfl)
      clear hx hsz;go_wp2_with fail;go_ret;exact⟨znc HR.out,rfl⟩
    ·obtain rfl:k=V.length:=by omega
     have hal:=HA.out;rw[List.take_length]at hal;have HR:=lhd (show(decide (S.length≤40)&&decide (V.length≤140))=fewH S V by unfold fewH;rw[HA1.out,hal];rfl);clear hal hlt;by_cases h1:S.length≤40
     ·have b1:(S.length:Int)≤40:=by omega
      by_cases h2:V.length≤140
      ·have b2:(V.length:Int)≤140:=by omega
       have HR2:=lhd (show true=fewH S V by rw[←HR.out,decide_eq_true h1,decide_eq_true h2];rfl);clear h1 h2;go_wp2_with fail;go_ret;exact⟨znc HR2.out,rfl⟩
      ·have b2:¬(V.length:Int)≤140:=by omega
       have HR2:=lhd (show false=fewH S V by rw[←HR.out,decide_eq_false h2,Bool.and_false]);clear h1 h2;go_wp2_with fail;go_ret;exact⟨znc HR2.out,rfl⟩
     ·have b1:¬(S.length:Int)≤40:=by omega
      have HR2:=lhd (show false=fewH S V by rw[←HR.out,decide_eq_false h1];rfl);clear h1;go_wp2_with fail;go_ret;exact⟨znc HR2.out,rfl⟩
def seqN:Nat→List Vr→Option Nat
 |n,[]=>some n
 |n,v::l=>if(n:Int)<v.sg then none else if v.sg=(n:Int)then seqN (n+1) l else seqN n l
theorem zow:∀(l:List Vr) (n m:Nat),(∀v∈l,0≤v.sg)→seqN n l=some m→numF (rgI n) l=(l,rgI m)
 | [],n,m,_,h=>by
   unfold seqN at h;obtain rfl:=Option.some.inj h;rfl
 |v::l,n,m,h0,h=>by
  have hv:=h0 v (by simp);have hl:∀x∈l,0≤x.sg:=fun x hx=>h0 x (by simp[hx]);unfold seqN at h;split at h
  ·cases h
  split at h
  ·rename_i h1 h2
   have e:=zow l (n+1) m hl h;rw[zjX (by rw[List.contains_eq_mem,decide_eq_true_iff,znn];omega),h2,←znp,e,znm];exact Prod.ext (by rw[←h2]) rfl
  ·rename_i h1 h2
   have e:=zow l n m hl h;obtain⟨k,hk⟩:∃k:Nat,v.sg=(k:Int):=⟨v.sg.toNat,by omega⟩;rw[zjW (by rw[List.contains_eq_mem,decide_eq_true_iff,znn];omega),e];refine Prod.ext ?_ rfl;show({v with sg:=((rgI n).idxOf v.sg:Int)}:Vr)::l=v::l;rw[hk,znl (by omega),←hk]
theorem zkd:∀(l:List Vr) (n:Nat) (r:List Int),(∀v∈l,0≤v.sg)→numF (rgI n) l=(l,r)→∃m,seqN n l=some m
 | [],n,r,_,_=>⟨n,rfl⟩
 |v::l,n,r,h0,h=>by
  have hv:=h0 v (by simp);have hl:∀x∈l,0≤x.sg:=fun x hx=>h0 x (by simp[hx]);unfold seqN;by_cases hc:(rgI n).contains v.sg=true
  ·rw[zjW hc]at h;injection h with h1 h2;injection h1 with h1 h3;obtain⟨m,hm⟩:=zkd l n r hl (Prod.ext h3 h2);rw[List.contains_eq_mem,decide_eq_true_iff,znn]at hc;exact⟨m,by rw[if_neg (by omega),if_neg (by omega)];exact hm⟩
  ·rw[zjX hc]at h;injection h with h1 h2;injection h1 with h1 h3;have e:v.sg=(n:Int):=by have:=congrArg Vr.sg h1;dsimp only at this;rw[znm]at this;exact this.symm
   rw[e,←znp]at h3 h2;obtain⟨m,hm⟩:=zkd l (n+1) r hl (Prod.ext h3 h2);exact⟨m,by rw[if_neg (by omega),if_pos e];exact hm⟩
structure HierR (S:List Sc) (V:List Vr) (m:Nat):Prop where
 c:zb6 S V=0
 n:∀i,i+1<S.length→0≤parS S (i+1)→insF (parS S) S.length (parS S (i+1)) (i:Nat)=true
 s:Srt (fun v:Vr=>v.sc) V
 q:seqN 0 V=some m
theorem znH {S:List Sc} (hF:Fst (parS S) S.length) (h:preS S=List.range S.length):scF S=S:=by
 unfold scF;rw[h];refine(List.map_congr_left (g:=fun i=>S.getD i ([],0,0)) fun i hi=>?_).trans ((getD_map S id).trans (List.map_id _));rw[zl3 (by have:=hF i (List.mem_range.1 hi);have:=List.mem_range.1 hi;omega)];rfl
theorem zsZ {S:List Sc} {V:List Vr} (hV:∀v∈V,v.sc<(S.length:Int)) (h:preS S=List.range S.length):vr1 S V=V:=by
 unfold vr1;rw[h];refine(List.map_congr_left (g:=id) fun v hv=>?_).trans (List.map_id _);rw[zl3 (hV v hv)];rfl
theorem zgM {S:List Sc} {V:List Vr} {m:Nat}:HierR S V m↔zll S V=(S,V,rgI m,0):=by
 constructor
 ·intro h;have hc:=zce.1 h.c;have hF:=zd0 hc.d;have hV:=zd2 hc.d
  have hN:Nxt (parS S) S.length:=fun i hi h0=>by
   obtain⟨q,hq⟩:∃q:Nat,parS S (i+1)=(q:Int):=⟨(parS S (i+1)).toNat,by omega⟩;have:=h.n i hi h0;rw[hq,zg5 hF i S.length (by omega) (by omega)]at this;rw[hq];rcases this with h|h
   ·exact .inl (by omega)
   ·exact .inr h
  have hp:preS S=List.range S.length:=(zmt hF).1 hN;have e1:=znH hF hp;have e2:=zsZ (fun v hv=>(hV v hv).2.1) hp;have e3:=zow V 0 m (fun v hv=>(hV v hv).2.2) h.q;unfold zll vrF vr2;rw[if_neg (by rw[h.c];simp),e1,e2,zhm h.s];rw[show rgI 0=[]from rfl]at e3;rw[e3]
 ·intro h;unfold zll at h;by_cases h0:zb6 S V≠0
  ·rw[if_pos h0]at h;injection h with _ h;injection h with _ h;injection h with _ h;exact absurd h h0
  ·rw[if_neg h0]at h;injection h with h1 h;injection h with h2 h;injection h with h3 _;have h0:zb6 S V=0:=by omega
   have hc:=zce.1 h0;have hF:=zd0 hc.d;have hV:=zd2 hc.d;have hp:preS S=List.range S.length:=by have:=zmd hF;rwa [h1]at this
   have e2:=zsZ (fun v hv=>(hV v hv).2.1) hp;have hs:Srt (fun v:Vr=>v.sc) V:=by have:=zs6 (S:=S) (V:=V);rwa [h2]at this
   have h4:vrF S V=(V,rgI m):=Prod.ext h2 h3;have h5:=h4;unfold vrF vr2 at h5;rw[e2,zhm hs]at h5;obtain⟨m',hm⟩:=zkd V 0 (rgI m) (fun v hv=>(hV v hv).2.2) h5;have h6:=zow V 0 m' (fun v hv=>(hV v hv).2.2) hm;rw[show rgI 0=[]from rfl,h5]at h6;have h7:=congrArg (fun x=>x.2.length) h6;dsimp only at h7;rw[znm,znm]at h7;subst h7;refine⟨h0,fun i hi hq0=>?_,hs,hm⟩;obtain⟨q,hq⟩:∃q:Nat,parS S (i+1)=(q:Int):=⟨(parS S (i+1)).toNat,by omega⟩;have:=(zmt hF).2 hp i hi hq0;rw[hq]at this⊢;rw[zg5 hF i S.length (by omega) (by omega)];rcases this with h|h
   ·exact .inl (by omega)
   ·exact .inr h
end Go.Proofs.YtfppgpamkdkckaaGreatDoor
