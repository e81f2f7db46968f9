import Derived.Test.YtcdekelomkcahaaGreatDoorZ00
import Derived.Test.YtcdekelomkcahaaGreatDoorZ01
import Derived.Test.YtcdekelomkcahaaGreatDoorZ05
set_option maxRecDepth 100000
set_option maxHeartbeats 16000000
namespace Go.Proofs.YtcdekelomkcahaaGreatDoor
open Go.RowKit Go.Shelf
attribute [local go_sem] Oper.semAt_some
set_option linter.unusedSimpArgs false
theorem zoj (S:List Sc):∀(f:Nat) (i:Int),(upL S f i).length≤f
 |0,_=>Nat.zero_le _
 |f+1,i=>by
  unfold upL;split
  ·simp
  ·split
   ·simp
   ·have:=zoj S f;simp only[List.length_cons];have:=this (by assumption:Sc).2.2;omega
theorem ze3 (a:Option Addr) (m cap:Nat) (i:Int) (w:World):
 Calls Tryz.prog 144 #[.slice a m cap,.int .i64 i] w fun e w'=>e=.returned (.func (.func 177) #[] #[.pointer (some ⟨w.heap.size+1,0,none⟩),.pointer (some ⟨w.heap.size,0,none⟩)])∧w'=(w.alloc (.cells #[.slice a m cap] 22)).alloc (.cells #[.int .i64 i] 3):=by
 go_enter Tryz.func144,Tryz.ntmps144;go_wp2_with fail;go_ret;exact⟨rfl,rfl⟩
theorem PtI.old {w W W':World} {v vo:Value} {nms:List Bs} (h:PtI w v nms vo W) (hg:W.grownBy W' vo.ownBlock):Same0 w W':=
 Same0.of_below (h.b.grown hg (h.b.size) (fun _ hk=>(h.o.lt _ hk).1))
theorem PtI.rev {w W:World} {v vo:Value} {nms:List Bs} (h:PtI w v nms vo W) (hn:nms≠ []):
 ∃g cap,vo=.slice (some ⟨g,0,none⟩) nms.length cap∧Sort.Holds Proofs.encStr W g 0 nms.toArray∧∀q,PtI w v nms.reverse vo (Sort.putRow Proofs.encStr (Sort.ahead W q) g 0 nms.reverse.toArray)∧
  (∀(D:Nat) (o:Obj),W.heap[D]? =some o→o.isCells=false→(Sort.putRow Proofs.encStr (Sort.ahead W q) g 0 nms.reverse.toArray).heap[D]? =some o):=by
 have hnil:vo≠ .slice none 0 0:=by
  rintro rfl;have h1:=h.o.1;rcases h.o.2 with⟨-,h2⟩|⟨g,cap,cur,e0,-⟩
  ·exact hn (List.length_eq_zero_iff.1 h2)
  ·cases e0
 have ho:W.ownsRow w.heap.size 9 1 vo nms.length (nms.map Proofs.encStr):=h.o;obtain⟨g,cap,rfl,hg,hgl,hc1,hc2,-,hH⟩:=Lib.holds_of_ownsRow ho hnil
 have hgb:∃cur,W.heap[g]? =some (.cells cur 9 (0,0)):=by
  rcases ho.2 with⟨e0,-⟩|⟨g',cap',cur,e0,-,hb,-⟩
  ·cases e0
  ·injection e0 with e0 _ _;injection e0 with e0;injection e0 with e0 _ _;subst e0;exact⟨cur,hb⟩
 obtain⟨cur,hgb⟩:=hgb;refine⟨g,cap,rfl,hH,fun q=>?_⟩
 have hfar:∀D,D≠g→(Sort.putRow Proofs.encStr (Sort.ahead W q) g 0 nms.reverse.toArray).heap[D]? =W.heap[D]? :=by
  intro D hD;simp[Sort.putRow,Go.Sort.mapBlock,Sort.ahead,Array.getElem?_modify,show g≠D from fun e=>hD e.symm]
 have hne:∀(i:Nat) (D:Array Value) (T:TypeId) (fr:Nat×Nat),W.heap[i]? =some (.cells D T fr)→T≠9→i≠g:=by
  rintro i D T fr hi hT rfl;rw[hgb]at hi;injection hi with hi;injection hi with _ h5 _;exact hT h5.symm
 refine⟨⟨(hfar _ (hne _ _ _ _ h.bs (by decide))).trans h.bs,(hfar _ (hne _ _ _ _ h.bo (by decide))).trans h.bo,?_,Lib.below_putRow h.b hg⟩,fun D o hD ho'=>(hfar D ?_).trans hD⟩
 ·have:=Lib.ownsRow_putRow (q:=q) (ys:=nms.reverse) ho (by simp) (Nat.le_refl _);rw[List.take_of_length_le (by simp)]at this;rw[List.length_reverse];exact this
 ·rintro rfl;rw[hgb]at hD;injection hD with hD;subst hD;cases ho'
theorem zeX (v:Value) (S:List Sc) (i:Nat) (w:World) (hs:SlR w v S.length (scs S)) (hF:Fst (parS S) S.length) (hi:i<S.length) (hl:S.length≤1000):
 Calls Tryz.prog 96 #[v,.int .i64 i] w fun e w'=>∃v',e=.returned v'∧w'.ownsRow w.heap.size 9 1 v' (upL S (i+1) i).length (strs ((upL S (i+1) i).map (nmS S)).reverse)∧Below w.heap.size w w':=by
 obtain⟨i0,hi0,iz0,iz1,iz2⟩:=info_parts (P:=Tryz.prog) zno;obtain⟨a,cap,rfl,-,-⟩:=hs.shape;obtain⟨L,hL⟩:∃L,upL S (i+1) i=L:=⟨_,rfl⟩;have HSP:=lhd (zom hF (i+1) (i:Int) (by omega) (by omega) (by omega));rw[hL]at HSP⊢;have HL:=lhd hL;have HLE:=lhd (show L.length≤i+1 by rw[←hL];exact zoj _ _ _);clear hL;refine(callsIn_wide (n:=6)).1 ?_;refine callsIn_of_wp_marks Tryz.func96 rfl trivial ?_ rfl;refine wpIn_wide.2 ?_;simp only[Tryz.ntmps96,List.size_toArray,List.length_cons,List.length_nil,Nat.reduceAdd,Nat.reduceSub,Array.replicate_succ,Array.replicate_zero,List.push_toArray,List.append_toArray,List.nil_append,List.cons_append];go_wp2_with fail;refine(ze3 _ _ _ _ _).mono ?_;rintro e w1 ⟨rfl,rfl⟩;go_wp2_with fail;obtain⟨v,hv⟩:∃v,Value.slice a S.length cap=v:=⟨_,rfl⟩;rw[hv]at hs⊢;obtain⟨W0,hW0⟩:∃X,(((w.alloc (.cells #[v] 22)).alloc (.cells #[.slice none 0 0] 65)).alloc (.cells #[v] 22)).alloc (.cells #[.int .i64 i] 3)=X:=⟨_,rfl⟩;have hs0:W0.heap.size=w.heap.size+4:=by rw[←hW0];simp
 have h1:=heap_alloc_new w (.cells #[v] 22);have b1:Below w.heap.size w (w.alloc (.cells #[v] 22)):=(Below.refl _ _).alloc (Nat.le_refl _) _;have e1:(w.alloc (.cells #[v] 22)).heap.size=w.heap.size+1:=by simp
 rw[hW0];generalize w.alloc (.cells #[v] 22)=x1 at*;have h2:=heap_alloc_new x1 (.cells #[.slice none 0 0] 65);have b2:Below x1.heap.size x1 (x1.alloc (.cells #[.slice none 0 0] 65)):=(Below.refl _ _).alloc (Nat.le_refl _) _;have e2:(x1.alloc (.cells #[.slice none 0 0] 65)).heap.size=w.heap.size+2:=by simp[e1]
 generalize x1.alloc (.cells #[.slice none 0 0] 65)=x2 at*;have h3:=heap_alloc_new x2 (.cells #[v] 22);have b3:Below x2.heap.size x2 (x2.alloc (.cells #[v] 22)):=(Below.refl _ _).alloc (Nat.le_refl _) _;have e3:(x2.alloc (.cells #[v] 22)).heap.size=w.heap.size+3:=by simp[e2]
 generalize x2.alloc (.cells #[v] 22)=x3 at*;have h4:=heap_alloc_new x3 (.cells #[.int .i64 i] 3);have b4:Below x3.heap.size x3 (x3.alloc (.cells #[.int .i64 i] 3)):=(Below.refl _ _).alloc (Nat.le_refl _) _;rw[hW0]at h4 b4;rw[e1]at h2;rw[e2]at h3;rw[e3]at h4;have q1:=(Same0.of_below b4).cells _ _ _ _ ((Same0.of_below b3).cells _ _ _ _ ((Same0.of_below b2).cells _ _ _ _ h1));have q2:=(Same0.of_below b4).cells _ _ _ _ ((Same0.of_below b3).cells _ _ _ _ h2);have q3:=(Same0.of_below b4).cells _ _ _ _ h3;have bb:Below w.heap.size w W0:=zd5 (zd5 (zd5 b1 b2) b3) b4;have hI0:PtI w v [] (.slice none 0 0) W0:=⟨q1,q2,World.ownsRow_nil _ _ _ _,bb⟩;have HS:=lhd hs;have HF:=lhd hF;clear hs hF q1 q2 h1 h2 h3 b1 b2 b3 b4 e1 e2 e3 hW0;refine(wpIn_wide (n:=6)).1 ?_
 refine zkI (B0:=w.heap.size) (hB0:=by omega) rfl (by decide) (gf:=177) (lb:=#[.pointer (some ⟨w.heap.size+3,0,none⟩),.pointer (some ⟨w.heap.size+2,0,none⟩)]) rfl trivial (enters_of Tryz.func177 (by kernel_rfl) rfl)
  (encs:=upE L) (Kp:=fun W V=>KpU w.heap.size 9 65 W V∧W.heap.size≤V.heap.size) (N:=L.length) (T:=3)
  (fun l J W hW hJ hY h0=>?iter)
  (fun h k=>⟨h.1.trans k.1,Nat.le_trans h.2 k.2⟩) (fun _ _ h=>⟨KpU.same0 h,h.size⟩) (fun _=>rfl)
  (zas w v S L) (fun k W V ⟨vo,h⟩ ht=>⟨vo,h.turn ht⟩) ⟨_,hI0⟩ ?round ?done
 case iter=>
  have:=zog (6-1) (by decide) l (w.heap.size+3) (w.heap.size+2) w.heap.size w.heap.size 9 65 (by decide) (by decide) S (i:Int) v w W J HF.out (by omega) (by omega) rfl (Nat.le_refl _) (by omega) (by omega) HS.out (Same0.trans (Same0.of_below bb) (Same0.of_below hW)) hJ
   (by rw[Int.toNat_natCast,HL.out];exact hY) ((Same0.of_below hW).cells _ _ _ _ h4) ((Same0.of_below hW).cells _ _ _ _ q3) h0
  rw[Int.toNat_natCast,HL.out]at this;exact this
 case done=>
  intro D W hD hI hDd;obtain⟨vo,h⟩:=hI
  have HLP:=lhd (show L≠ []by
   intro e;have h2:=HSP.out.2;rw[e]at h2;have h2:(i:Int)= -1:=h2;omega)
  rw[List.take_of_length_le (Nat.le_refl _)]at h
  obtain⟨g,cp,rfl,hH,hr⟩:=h.rev (by
   intro e;exact HLP.out (List.map_eq_nil_iff.1 e))
  obtain⟨co,fo⟩:=ziF h.bo;have HR:=lhd hr;have HD:=lhd (And.intro hD hDd);have HRV:=lhd (Tryz.slices_Reverse_string g 0 cp (L.map (nmS S)) W hH (by have:=HLE.out;simp;omega));clear hr hD hDd hH h;generalize hnn:L.map (nmS S)=nms at*;have HNL:=lhd (show nms.length=L.length by rw[←hnn];simp);have HNN:=lhd hnn;clear hnn;go_wp2_with fail;refine HRV.out.mono ?_;rintro e w3 ⟨rfl,q,rfl⟩;obtain⟨h3,h4⟩:=HR.out q;have HD3:=lhd (h4 D _ HD.out.2 rfl);have H3:=lhd h3;clear co fo h4 HR HRV;obtain⟨co,fo⟩:=ziF h3.bo;clear h3;generalize Sort.putRow Proofs.encStr (Sort.ahead W q) g 0 nms.reverse.toArray=W3 at*;go_wp2_with fail;refine⟨by simp,.inl ⟨_,_,rfl,run_takeDeferred HD3.out,?_⟩⟩;have ho:=ownsRow_putObj H3.out.o (.deferred none) HD3.out rfl;rw[List.length_reverse]at ho;refine⟨.slice (some ⟨g,0,none⟩) nms.length cp,by simp[results,Tryz.results96,go_sem],_,rfl,?_,?_⟩
  ·rw[HNN.out,←HNL.out];exact ho
  ·exact H3.out.b.trans (belowK_b (w:=W0) (by omega) _ D _ _ HD.out.1 HD3.out rfl rfl)
 case round=>
  intro l k W hlW ⟨vo,h⟩ hk;obtain⟨q0,q1',q2⟩:=HSP.out.1 k hk;obtain⟨m,hm2⟩:=Int.eq_ofNat_of_zero_le q0;rw[hm2]at q1' q2;rw[Int.toNat_natCast]at q2;have hmS:m<S.length:=by omega
  have HLD:=lhd (show(L.getD k 0:Nat)=m by rw[List.getD,q2];rfl);unfold upE;rw[HLD.out]
  have HTK:=lhd (show(L.take (k+1)).map (nmS S)=(L.take k).map (nmS S)++ [nmS S m]by
   rw[List.take_add_one,q2];simp)
  have HNL:=lhd (show((L.take k).map (nmS S)).length=k by simp;omega);clear q0 q1' q2 hm2;generalize (L.take k).map (nmS S)=nms at*;subst hv;have HI:=lhd h;clear h;gi_wp2
  refine⟨KeepsFrom.refl _ _,⟨KpU.below (Below.refl _ _),Nat.le_refl _⟩,?_⟩;intro W1 hs1 ht1;have H2:=lhd (HI.out.turn ht1);obtain⟨ct,ft⟩:=ziF H2.out.bs;obtain⟨co,fo⟩:=ziF H2.out.bo;obtain⟨bS,oS,rfl,hcell⟩:=(HS.out.same0 (Same0.of_below H2.out.b)).scs hmS;have hnm:nmS S m=(S[m]).1:=by simp[nmS,List.getD,hmS]
  have HSX:=HS;obtain⟨nm,hnx⟩:∃nm,(S[m]).1=nm:=⟨_,rfl⟩;have d0:W1.cell? ⟨bS,oS+m*3,none⟩=some (.string (bsB nm)):=hcell 0 _ (by rw[←hnx];rfl);rw[hnm,hnx]at HTK
  have HSC:=lhd (fun(X:World) (hX:Same0 w X)=>(show X.cell? ⟨bS,oS+m*3,none⟩=some (.string (bsB nm))by
   obtain⟨b',o',e',hc'⟩:=(HSX.out.same0 hX).scs hmS;injection e' with e';injection e' with e1 e2 _;subst e1 e2;exact hc' 0 _ (by rw[←hnx];rfl)))
  clear hcell hs1 ht1 HI hnm hnx;obtain⟨ao,capo,rfl,-,-⟩:=(SlR.of_own H2.out.o).shape;have hal:Below W1.heap.size W1 (W1.drew.alloc (.cells #[.string (bsB nm)] 9)):=((Below.refl _ _).drew).alloc (Nat.le_refl _) _;have HA:=lhd (H2.out.same hal);have HKA:=lhd (KpU.below (N:=w.heap.size) (T1:=9) (T2:=65) hal);have HZA:=lhd hal.size;have HOA:=lhd ((KeepsOthers.drew W1).trans (KeepsOthers.alloc _ (.cells #[.string (bsB nm)] 9)));have y1:=(ziF HA.out.bs).1;have y2:=HSC.out _ (Same0.of_below HA.out.b);have hbz:=H2.out.b.size;have hnl:nms.length≤1000:=by have:=HNL.out;have:=HLE.out;omega
  clear hal;gi_wp2
  refine wpIn_mono (Q:=fun e _ W'=>e=.normal∧∃vo,PtI w (.slice (some ⟨bS,oS,none⟩) S.length cap) (nms++ [nm]) vo W'∧KpU w.heap.size 9 65 W1 W'∧W1.heap.size≤W'.heap.size∧KeepsOthers W1 W') ?_ ?_;rotate_left
  ·rintro e a' W' ⟨rfl,vo,hp,hk1,hk2,hk3⟩;gi_wp2
   refine⟨hk3.from _,?_⟩;unfold zas;rw[HTK.out];exact⟨vo,hp⟩
  refine wpIn_region_any (by kernel_rfl) ?_;refine zaH (zh3 (by kernel_rfl)) ?_ _ _ _ _ ?_
  ·rintro⟨a0,w0,h0,-⟩;cases h0
  refine wpAny_of_held (S:=fun w'=>w'.cell? ⟨w.heap.size,0,none⟩=some (.slice (some ⟨bS,oS,none⟩) S.length cap)∧w'.cell? ⟨bS,oS+m*3,none⟩=some (.string (bsB nm))) _ _ _ _ ?_
  ·have hHeld:W1.drew.cell? ⟨w.heap.size,0,none⟩=some (.slice (some ⟨bS,oS,none⟩) S.length cap)∧W1.drew.cell? ⟨bS,oS+m*3,none⟩=some (.string (bsB nm)):=⟨ct,d0⟩;refine tkH 1 hHeld (v:=?_) ?_;simp only[tkS];refine tkH 2 hHeld (v:=?_) ?_;simp only[tkS];refine tkH 3 hHeld (v:=?_) ?_;simp only[tkS];refine tkH 4 hHeld (v:=?_) ?_;simp only[tkS];refine tkH 5 hHeld (v:=?_) ?_;simp only[tkS];refine wpAnyH_ready (rs:=[0,6]) (by kernel_rfl) (by simp) ?_;refine AllReadyH.cons (o:=_) rfl (fun K hK=>?_) (AllReadyH.cons (o:=_) rfl (fun K hK=>?_) AllReadyH.nil)
   ·go_simp;refine hK.out _ _ ⟨ct,d0⟩ (fun hHeld=>?_);clear hK;try simp only[tkS]
    refine oneH 6 (fun K hK=>?_);go_simp;refine hK.out _ _ ⟨y1,y2⟩ (fun hHeld=>?_);clear hK;try simp only[tkS]
    refine oneH 7 (fun K hK=>?_);refine step_append_lies _ (by rfl) _ _ _ (by rfl) w.heap.size 9 i0 _ 1 16 Tryz.underlying65 hi0 iz0 iz1 iz2 rfl (by omega) (.slice ao nms.length capo) nms.length (strs nms) (by rfl) (by exact HA.out.o) ⟨W1.heap.size,0,none⟩ 1 1 [.string (bsB nm)] (by rfl) (by rfl) (World.news_of_block (cs:=#[.string (bsB nm)]) (t:=9) (fr:=(0,0)) (by exact heap_alloc_new _ _)) (by simp[Value.oneCell']) (by omega) (by unfold maxLen;omega) (by omega) (by simp;omega) (W1.heap.size+1) (by simp) ?_;intro gg cap9 w9 ho9 hg9 hat hlt9;obtain⟨P1,P2,P3,P4,P5,P6,P10⟩:=HA.out.add ho9 hg9;have P7:=HSC.out w9 (HA.out.old hg9);have HP9:=lhd P1;have HK9:=lhd (And.intro P5 P6);have HO9:=lhd P10;clear ho9 hg9 hat hlt9 P1 P5 P6 P10;refine hK.out _ _ ⟨P2,P7⟩ (fun hHeld=>?_);clear hK;try simp only[tkS]
    refine oneH 8 (fun K hK=>?_);go_simp;have P8:=And.intro (ziF HP9.out.bs).1 (HSC.out _ (Same0.of_below HP9.out.b));refine hK.out _ _ P8 (fun hHeld=>?_);clear hK;try simp only[tkS]
    refine wpAnyH_done (by kernel_rfl) ?_ _;exact⟨rfl,_,HP9.out,HKA.out.trans HK9.out.1,Nat.le_trans HZA.out HK9.out.2,HOA.out.trans HO9.out⟩
   ·go_simp;refine hK.out _ _ ⟨y1,y2⟩ (fun hHeld=>?_);clear hK;try simp only[tkS]
    have a8:=zbz co (.cells #[.string (bsB nm)] 9);refine oneH 0 (fun K hK=>?_);go_simp;refine hK.out _ _ ⟨y1,y2⟩ (fun hHeld=>?_);clear hK;try simp only[tkS]
    clear a8;refine oneH 7 (fun K hK=>?_);refine step_append_lies _ (by rfl) _ _ _ (by rfl) w.heap.size 9 i0 _ 1 16 Tryz.underlying65 hi0 iz0 iz1 iz2 rfl (by omega) (.slice ao nms.length capo) nms.length (strs nms) (by rfl) (by exact HA.out.o) ⟨W1.heap.size,0,none⟩ 1 1 [.string (bsB nm)] (by rfl) (by rfl) (World.news_of_block (cs:=#[.string (bsB nm)]) (t:=9) (fr:=(0,0)) (by exact heap_alloc_new _ _)) (by simp[Value.oneCell']) (by omega) (by unfold maxLen;omega) (by omega) (by simp;omega) (W1.heap.size+1) (by simp) ?_;intro gg cap9 w9 ho9 hg9 hat hlt9;obtain⟨P1,P2,P3,P4,P5,P6,P10⟩:=HA.out.add ho9 hg9;have P7:=HSC.out w9 (HA.out.old hg9);have HP9:=lhd P1;have HK9:=lhd (And.intro P5 P6);have HO9:=lhd P10;clear ho9 hg9 hat hlt9 P1 P5 P6 P10;refine hK.out _ _ ⟨P2,P7⟩ (fun hHeld=>?_);clear hK;try simp only[tkS]
    refine oneH 8 (fun K hK=>?_);go_simp;have P8:=And.intro (ziF HP9.out.bs).1 (HSC.out _ (Same0.of_below HP9.out.b));refine hK.out _ _ P8 (fun hHeld=>?_);clear hK;try simp only[tkS]
    refine wpAnyH_done (by kernel_rfl) ?_ _;exact⟨rfl,_,HP9.out,HKA.out.trans HK9.out.1,Nat.le_trans HZA.out HK9.out.2,HOA.out.trans HO9.out⟩
end Go.Proofs.YtcdekelomkcahaaGreatDoor
