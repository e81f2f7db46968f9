import Derived.Test.YtbiadennhnokhaaGreatDoorZ00
import Derived.Test.YtbiadennhnokhaaGreatDoorZ29
import Derived.Test.YtbiadennhnokhaaGreatDoorZ30
set_option maxRecDepth 100000
set_option maxHeartbeats 16000000
namespace Go.Proofs.YtbiadennhnokhaaGreatDoor
open Go.RowKit
set_option linter.unusedSimpArgs false
theorem zfd (A:List Gp) (x:Gp) (y:Int):(gps (A++ [x])).set (A.length*2+1) (.int .i64 y)=gps (A++ [(x.1,y)]):=by
 rw[ze9,ze9,List.set_append,if_neg (by rw[zfe];omega),zfe,show A.length*2+1-2*A.length=1 by omega];rfl
theorem zfc (A:List Gp) (x:Gp):(gps (A++ [x]))[A.length*2+1]? =some (.int .i64 x.2):=by
 rw[ze9,List.getElem?_append_right (by rw[zfe];omega),zfe,show A.length*2+1-2*A.length=1 by omega];rfl
def JnP (B:Nat) (J:Option (List Gp)) (b:Bool) (v:Value) (w:World):Prop:=match J with
 |none=>b=false
 |some A=>b=true∧∃a c,v=.slice a A.length c∧w.ownsRow B 57 2 v A.length (gps A)
def JnI (P:List Gp) (k:Nat) (b:Int) (A:List Gp):Prop:=zgE 0 [] P=zgE b A (P.drop k)
theorem JnI.start (P:List Gp):JnI P 0 0 []:=rfl
theorem JnI.bad {P:List Gp} {k:Nat} {b:Int} {A:List Gp} (h:JnI P k b A) (hk:k<P.length) (hb:P[k].1<b∨P[k].1<0∨P[k].2≤P[k].1∨1099511627777<P[k].2):zgE 0 [] P=none:=by
 unfold JnI at h;rw[h,List.drop_eq_getElem_cons hk,zgF,if_pos hb]
theorem JnI.good {P:List Gp} {k:Nat} {b:Int} {A:List Gp} (h:JnI P k b A) (hk:k<P.length) (hb:¬(P[k].1<b∨P[k].1<0∨P[k].2≤P[k].1∨1099511627777<P[k].2)):JnI P (k+1) P[k].1 (zay A P[k]):=by
 unfold JnI at h⊢;rw[h,List.drop_eq_getElem_cons hk,zgF,if_neg hb]
theorem JnI.done {P:List Gp} {b:Int} {A:List Gp} (h:JnI P P.length b A):zgE 0 [] P=some A:=by
 unfold JnI at h;rw[h,List.drop_length];rfl
theorem zlM (v:Value) (P:List Gp) (w:World) (hs:SlR w v P.length (gps P)) (hl:P.length≤1000):
 Calls Tryz.prog 64 #[v] w fun e w'=>(∃v' b,e=.returned (.tuple #[v',.bool b])∧JnP w.heap.size (zgE 0 [] P) b v' w')∧Below w.heap.size w w':=by
 obtain⟨a,cap,rfl,hc,hm⟩:=hs.shape;unfold maxLen at hm;obtain⟨ii,hii,iz0,iz1,iz2⟩:=info_parts (P:=Tryz.prog) ze8;have HS:=lhd hs;clear hs;go_enter Tryz.func64,Tryz.ntmps64;go_wp2_with fail;go_loopw [4,5] (fun v i wr=>∃(k:Nat) (A:List Gp) (b:Int),k≤P.length∧i=.int .i64 k∧(∃a c,v=.slice a A.length c)∧(k=0→b=0)∧JnI P k b A∧(∀j,(hj:j+1=k)→∃h:j<P.length,b=P[j].1)∧A.length≤k∧wr.ownsRow w.heap.size 57 2 v A.length (gps A)∧Below w.heap.size w wr) (fun _ i _=>P.length-(intOf i).toNat)
 case atStart=>exact⟨0,[],0,Nat.zero_le _,rfl,⟨_,_,rfl⟩,fun _=>rfl,JnI.start P,fun j hj=>by omega,Nat.le_refl _,World.ownsRow_made w #[] 0 (Nat.le_refl _) (Nat.zero_le _) rfl,(Below.refl _ _).alloc (Nat.le_refl _) _⟩
 case round=>
  obtain⟨k,A,b,hk,rfl,⟨ao,co,rfl⟩,hb0,hji,hbj,hAk,ho,hb⟩:=hrel;have HJ:=lhd hji;have HBJ:=lhd hbj;by_cases hlt:k<P.length
  ·obtain⟨gb0,go0,rfl,hcell⟩:=(HS.out.below hb).gps hlt;have d0:wr.cell? ⟨gb0,go0+k*2,none⟩=some (.int .i64 P[k].1):=hcell 0 _ rfl;have d1:wr.cell? ⟨gb0,go0+k*2+1,none⟩=some (.int .i64 P[k].2):=hcell 1 _ rfl;have hw1:=zhO k (by omega);have HBAD:=lhd (fun h=>HJ.out.bad hlt h);have HGOO:=lhd (fun h=>HJ.out.good hlt h)
   have HBK:=lhd (show ∀j,(hj:j+1=k+1)→∃h:j<P.length,P[k].1=P[j].1 from fun j hj=>by
    obtain rfl:j=k:=by omega
    exact⟨hlt,rfl⟩)
   have HPV:=lhd (fun j (hj:j+1=k) W (hW:Below w.heap.size w W)=>(show ∃pb,b=pb∧W.cell? ⟨gb0,go0+j*2,none⟩=some (.int .i64 pb)from by
    obtain⟨h1,h2⟩:=HBJ.out j hj;obtain⟨b',o',e',hc'⟩:=(HS.out.below hW).gps h1;injection e' with e';injection e' with e1 e2 _;subst e1 e2;exact⟨P[j].1,h2,hc' 0 _ rfl⟩))
   have hb1:=hb.alloc hb.size (.cells #[.int .i64 P[k].1,.int .i64 P[k].2] 57);have X1:=lhd (zal.fresh wr #[.int .i64 P[k].1,.int .i64 P[k].2] 57);have HO:=lhd (ho.alloc (.cells #[.int .i64 P[k].1,.int .i64 P[k].2] 57));have HZ:=lhd (show wr.heap.size<(wr.alloc (.cells #[.int .i64 P[k].1,.int .i64 P[k].2] 57)).heap.size by simp);have HNB:=lhd (show(Value.slice ao A.length co).ownBlock≠some wr.heap.size from fun h=>by have:=(ho.lt _ h).2;omega);have HB:=lhd hb1;have HWG:=lhd hb.size;clear hcell hji hbj ho hb hb1 HJ HBJ;generalize P[k]=pk at*;obtain⟨ga,gb⟩:=pk;dsimp only at d0 d1 X1 HO HZ HB HBAD HGOO HBK;go_upto_region 6 with fail;generalize wr.heap.size=g at*;generalize wr.alloc (.cells #[.int .i64 ga,.int .i64 gb] 57)=w1 at*;clear d0 d1;have y0:=X1.out.cell (j:=0) rfl;have y1:=X1.out.cell (j:=1) rfl;have HOKK:=lhd True.intro;by_cases e1:ga<0
   ·have e1b:=decide_eq_true e1;have HNO:=lhd (HBAD.out (.inr (.inl e1)));clear HBAD HOKK;go_wp2_with fail;go_quiet (fail);have HB:=lhd (za5 HB.out nq);have HO:=lhd (show(w1.drewN nq).ownsRow w.heap.size 57 2 (.slice ao A.length co) A.length (gps A)from HO.out);have X1:=lhd (show zal (w1.drewN nq) g [.int .i64 ga,.int .i64 gb]from X1.out);have HZ:=lhd (show g<(w1.drewN nq).heap.size from HZ.out);generalize w1.drewN nq=w2 at*;clear y0 y1;go_wp2_with fail;refine bodyPost_ret (v:=.tuple #[.slice none 0 0,.bool false]) (by simp[results,Tryz.results64,go_sem]) rfl ?_;exact⟨⟨_,_,rfl,by rw[HNO.out];rfl⟩,HB.out⟩
   have e1b:=decide_eq_false e1;by_cases e2:gb≤ga
   ·have e2b:=decide_eq_true e2;have HNO:=lhd (HBAD.out (.inr (.inr (.inl e2))));clear HBAD HOKK;go_wp2_with fail;go_quiet (fail);have HB:=lhd (za5 HB.out nq);have HO:=lhd (show(w1.drewN nq).ownsRow w.heap.size 57 2 (.slice ao A.length co) A.length (gps A)from HO.out);have X1:=lhd (show zal (w1.drewN nq) g [.int .i64 ga,.int .i64 gb]from X1.out);have HZ:=lhd (show g<(w1.drewN nq).heap.size from HZ.out);generalize w1.drewN nq=w2 at*;clear y0 y1;go_wp2_with fail;refine bodyPost_ret (v:=.tuple #[.slice none 0 0,.bool false]) (by simp[results,Tryz.results64,go_sem]) rfl ?_;exact⟨⟨_,_,rfl,by rw[HNO.out];rfl⟩,HB.out⟩
   have e2b:=decide_eq_false e2;by_cases e3:1099511627777<gb
   ·have e3b:=decide_eq_true e3;have HNO:=lhd (HBAD.out (.inr (.inr (.inr e3))));clear HBAD HOKK;go_wp2_with fail;go_quiet (fail);have HB:=lhd (za5 HB.out nq);have HO:=lhd (show(w1.drewN nq).ownsRow w.heap.size 57 2 (.slice ao A.length co) A.length (gps A)from HO.out);have X1:=lhd (show zal (w1.drewN nq) g [.int .i64 ga,.int .i64 gb]from X1.out);have HZ:=lhd (show g<(w1.drewN nq).heap.size from HZ.out);generalize w1.drewN nq=w2 at*;clear y0 y1;go_wp2_with fail;refine bodyPost_ret (v:=.tuple #[.slice none 0 0,.bool false]) (by simp[results,Tryz.results64,go_sem]) rfl ?_;exact⟨⟨_,_,rfl,by rw[HNO.out];rfl⟩,HB.out⟩
   have e3b:=decide_eq_false e3;by_cases hk0:k=0
   ·have HGOOD:=lhd (HGOO.out (by have:=hb0 hk0;omega));have hk9:decide ((0:Int)<(k:Int))=false:=by rw[decide_eq_false_iff_not];omega
    have hk8:decide (0<k)=false:=by rw[decide_eq_false_iff_not];omega
    clear hk0 hb0 HBAD HGOO HPV HOKK e1 e2 e3;go_wp2_with fail;go_quiet (fail);have HB:=lhd (za5 HB.out nq);have HO:=lhd (show(w1.drewN nq).ownsRow w.heap.size 57 2 (.slice ao A.length co) A.length (gps A)from HO.out);have X1:=lhd (show zal (w1.drewN nq) g [.int .i64 ga,.int .i64 gb]from X1.out);have HZ:=lhd (show g<(w1.drewN nq).heap.size from HZ.out);generalize w1.drewN nq=w2 at*;clear y0 y1;have y0:=X1.out.cell (j:=0) rfl;have y1:=X1.out.cell (j:=1) rfl;rcases List.eq_nil_or_concat A with hA|⟨A',h,hA⟩
    ·subst hA;have HN:=lhd (show([]:List Gp).length=0 from rfl);have HO:=lhd (show w2.ownsRow w.heap.size 57 2 (.slice ao 0 co) 0 (gps [])from HO.out);rw[HN.out];go_wp2_with fail;go_quiet (fail);have HB:=lhd (za5 HB.out nq);have HO:=lhd (show(w2.drewN nq).ownsRow w.heap.size 57 2 _ _ _ from HO.out);have X1:=lhd (show zal (w2.drewN nq) g [.int .i64 ga,.int .i64 gb]from X1.out);generalize w2.drewN nq=w3 at*;clear y0 y1;have y0:=X1.out.cell (j:=0) rfl;have y1:=X1.out.cell (j:=1) rfl;have hwz:=HB.out.size;go_wp2_with (at_builtin;refine wpList_append_own _ rfl _ _ 25 rfl w.heap.size 57 ii (.agg #[.int .i64 0,.int .i64 0]) 2 16 Tryz.underlying25 hii iz0 iz1 iz2 rfl (by decide) _ _ _ rfl (World.ownsRow.alloc (by exact HO.out) _) ⟨(w3).heap.size,0,none⟩ 1 1 [.int .i64 ga,.int .i64 gb] rfl rfl (World.news_of_block (cs:=#[.int .i64 ga,.int .i64 gb]) (t:=57) (fr:=(0,0)) (by exact heap_alloc_new w3 _)) (by simp[Value.oneCell']) (by unfold maxLen;omega) (by omega) (by simp;omega) ?_)
     intro v7 w7 ho7 hg7 _;have hb7:Below w.heap.size w w7:=(HB.out.alloc hwz _).grown hg7 (by simp;omega) (fun q hq=>(HO.out.lt q hq).1);obtain⟨a7,c7,rfl,-,-⟩:=(SlR.of_own ho7).shape;have HLX:=lhd (show(([]:List Gp)++ [(ga,gb)]).length=0+1 by rw[List.length_append,HN.out];rfl)
     have HO7:=lhd (show w7.ownsRow w.heap.size 57 2 (.slice a7 (0+1) c7) (([]:List Gp)++ [(ga,gb)]).length (gps (([]:List Gp)++ [(ga,gb)]))by
      rw[HLX.out,ze9];exact ho7)
     have HB7:=lhd hb7;clear ho7 hg7 hb7 y0 y1;go_wp2_with fail;go_roundw;case rel=>exact⟨k+1,([]:List Gp)++ [(ga,gb)],ga,hlt,by go_num,⟨_,_,by rw[HLX.out]⟩,by omega,by have h:=HGOOD.out;rw[zaC]at h;exact h,HBK.out,by rw[HLX.out];omega,HO7.out,HB7.out⟩
     case measure=>simp[intOf];omega
    ·rw[List.concat_eq_append]at hA;subst hA;obtain⟨gr,co',hv,hr,-⟩:=zjD HO.out (by simp);injection hv with hv1 _ hv2;subst hv1 hv2;have l0:=hr.cell (zfc A' h);have lf:=hr.free (List.getElem?_eq_some_iff.1 (zfc A' h)).1;have HAL:=lhd (show(A'++ [h]).length=A'.length+1 by simp);have hAk2:A'.length+1≤k:=by rw[←HAL.out];exact hAk
     obtain⟨n,hn⟩:∃n,(A'++ [h]).length=n:=⟨_,rfl⟩;have hn1:A'.length<n:=by rw[←hn,HAL.out];omega
     have hwn:IntKind.i64.wrap ((n:Int)-1)=(A'.length:Int):=by rw[←hn,HAL.out,show(((A'.length+1:Nat):Int)-1)=(A'.length:Int)by omega];exact IntWalk.i64_in _ (by omega)
     have hn8:0<n:=by omega
     have hn9:decide ((0:Int)<(n:Int))=true:=by rw[decide_eq_true_iff];omega
     have HN:=lhd hn;rw[hn]at HO HNB hAk⊢;obtain⟨h1,h2⟩:=h;dsimp only at l0;clear hr hn;by_cases e5:ga≤h2
     ·have e5b:=decide_eq_true e5;have HAG:=lhd (show zay (A'++ [(h1,h2)]) (ga,gb)=A'++ [(h1,max h2 gb)]by rw[zaD,if_pos e5]);go_wp2_with fail;go_quiet (fail);have HB:=lhd (za5 HB.out nq);have HO:=lhd (show(w2.drewN nq).ownsRow w.heap.size 57 2 _ _ _ from HO.out);have X1:=lhd (show zal (w2.drewN nq) g [.int .i64 ga,.int .i64 gb]from X1.out);generalize w2.drewN nq=w3 at*;clear l0 lf y0 y1;have hr:=zjE HO.out;have l0:w3.cell? ⟨gr,A'.length*2+1,none⟩=some (.int .i64 h2):=hr.cell (zfc A' (h1,h2));have lf:=hr.free (List.getElem?_eq_some_iff.1 (zfc A' (h1,h2))).1;have y1:w3.cell? ⟨g,1,none⟩=some (.int .i64 gb):=X1.out.cell (j:=1) rfl;clear hr;have HS9:=lhd (And.intro l0 y1);have hst:=(HO.out.stored (A'.length*2+1) (.int .i64 (max h2 gb))).1;rw[zfd A' (h1,h2) (max h2 gb)]at hst;have HST:=lhd hst;have HBS:=lhd (show Below w.heap.size w (w3.setCell ⟨gr,A'.length*2+1,none⟩ (.int .i64 (max h2 gb)))from HB.out.setCell (HO.out.lt gr rfl).1 _);clear hst e5 e5b;go_upto_region 10 with fail;refine zq0 (S:=fun w'=>w'.cell? ⟨gr,A'.length*2+1,none⟩=some (.int .i64 h2)∧w'.cell? ⟨g,1,none⟩=some (.int .i64 gb)) (X:=fun j=>decide (12≤j)) (by kernel_rfl) ?_;have HS:=lhd (show w3.drew.cell? ⟨gr,A'.length*2+1,none⟩=some (.int .i64 h2)∧w3.drew.cell? ⟨g,1,none⟩=some (.int .i64 gb)from HS9.out);refine zqT (i:=0) (v:=?_) rfl (by kernel_rfl) (by kernel_rfl) (by kernel_rfl) (by kernel_rfl) (fun _ _ _ h=>h) (Or.inl ⟨by rfl,?_⟩) HS.out ?_;rotate_left
      ·intro w hSw;(try dsimp only at hSw)
       go_simp;all_goals with_reducible rfl
      simp only[tkS];refine zqT (i:=1) (v:=?_) rfl (by kernel_rfl) (by kernel_rfl) (by kernel_rfl) (by kernel_rfl) (fun _ _ _ h=>h) (Or.inl ⟨by rfl,?_⟩) HS.out ?_;rotate_left
      ·intro w hSw;(try dsimp only at hSw)
       go_simp;all_goals with_reducible rfl
      simp only[tkS];refine zqT (i:=2) (v:=?_) rfl (by kernel_rfl) (by kernel_rfl) (by kernel_rfl) (by kernel_rfl) (fun _ _ _ h=>h) (Or.inl ⟨by rfl,?_⟩) HS.out ?_;rotate_left
      ·intro w hSw;(try dsimp only at hSw)
       go_simp;all_goals with_reducible rfl
      simp only[tkS];refine zqT (i:=3) (v:=?_) rfl (by kernel_rfl) (by kernel_rfl) (by kernel_rfl) (by kernel_rfl) (fun _ _ _ h=>h) (Or.inl ⟨by rfl,?_⟩) HS.out ?_;rotate_left
      ·intro w hSw;(try dsimp only at hSw)
       go_simp;all_goals with_reducible rfl
      simp only[tkS];refine zqT (i:=4) (v:=?_) rfl (by kernel_rfl) (by kernel_rfl) (by kernel_rfl) (by kernel_rfl) (fun _ _ _ h=>h) (Or.inl ⟨by rfl,?_⟩) HS.out ?_;rotate_left
      ·intro w hSw;(try dsimp only at hSw)
       go_simp;all_goals with_reducible rfl
      simp only[tkS];refine zqT (i:=5) (v:=?_) rfl (by kernel_rfl) (by kernel_rfl) (by kernel_rfl) (by kernel_rfl) (fun _ _ _ h=>h) (Or.inl ⟨by rfl,?_⟩) HS.out ?_;rotate_left
      ·intro w hSw;(try dsimp only at hSw)
       go_simp;all_goals with_reducible rfl
      simp only[tkS];refine zqT (i:=6) (v:=?_) rfl (by kernel_rfl) (by kernel_rfl) (by kernel_rfl) (by kernel_rfl) (fun _ _ _ h=>h) (Or.inl ⟨by rfl,?_⟩) HS.out ?_;rotate_left
      ·intro w hSw;(try dsimp only at hSw)
       go_simp;all_goals with_reducible rfl
      simp only[tkS];refine zqT (i:=7) (v:=?_) rfl (by kernel_rfl) (by kernel_rfl) (by kernel_rfl) (by kernel_rfl) (fun _ _ _ h=>h) (Or.inl ⟨by rfl,?_⟩) HS.out ?_;rotate_left
      ·intro w hSw;(try dsimp only at hSw)
       go_simp;all_goals with_reducible rfl
      simp only[tkS];refine zqT (i:=8) (v:=?_) rfl (by kernel_rfl) (by kernel_rfl) (by kernel_rfl) (by kernel_rfl) (fun _ _ _ h=>h) (Or.inl ⟨by rfl,?_⟩) HS.out ?_;rotate_left
      ·intro w hSw;(try dsimp only at hSw)
       go_simp;all_goals with_reducible rfl
      simp only[tkS];refine zqT (i:=9) (v:=?_) rfl (by kernel_rfl) (by kernel_rfl) (by kernel_rfl) (by kernel_rfl) (fun _ _ _ h=>h) (Or.inl ⟨by rfl,?_⟩) HS.out ?_;rotate_left
      ·intro w hSw;(try dsimp only at hSw)
       go_simp;all_goals with_reducible rfl
      simp only[tkS];refine zqT (i:=10) (v:=?_) rfl (by kernel_rfl) (by kernel_rfl) (by kernel_rfl) (by kernel_rfl) (fun _ _ _ h=>h) (Or.inl ⟨by rfl,?_⟩) HS.out ?_;rotate_left
      ·intro w hSw;(try dsimp only at hSw)
       go_simp;all_goals with_reducible rfl
      simp only[tkS];refine zqT (i:=11) (v:=?_) rfl (by kernel_rfl) (by kernel_rfl) (by kernel_rfl) (by kernel_rfl) (fun _ _ _ h=>h) (Or.inl ⟨by rfl,?_⟩) HS.out ?_;rotate_left
      ·intro w hSw;(try dsimp only at hSw)
       go_simp;all_goals with_reducible rfl
      simp only[tkS];refine zqR (i:=12) (v:=?_) rfl (by kernel_rfl) (by kernel_rfl) (by kernel_rfl) rfl (fun _ _ _ h=>h) (Or.inl ⟨by rfl,?_⟩) ?_;rotate_left
      ·intro w hSw;go_simp;all_goals with_reducible rfl
      simp only[tkS];refine zqR (i:=13) (v:=?_) rfl (by kernel_rfl) (by kernel_rfl) (by kernel_rfl) rfl (fun _ _ _ h=>h) (Or.inl ⟨by rfl,?_⟩) ?_;rotate_left
      ·intro w hSw;go_simp;all_goals with_reducible rfl
      simp only[tkS];refine zqS (i:=14) (by kernel_rfl) rfl (fun K hK=>?_);go_simp;refine hK.out _ _ (fun h=>by simp at h) ?_;clear hK;try simp only[tkS]
      refine⟨by kernel_rfl,?_⟩;go_wp2_with fail;go_roundw;case rel=>exact⟨k+1,A'++ [(h1,max h2 gb)],ga,hlt,by go_num,⟨_,_,by rw[←HN.out,List.length_append,List.length_append];rfl⟩,by omega,by have h:=HGOOD.out;rw[HAG.out]at h;exact h,HBK.out,by rw[List.length_append,List.length_singleton];omega,by rw[show(A'++ [(h1,max h2 gb)]).length=n by rw[←HN.out,List.length_append,List.length_append];rfl];exact HST.out.drew,HBS.out.drew⟩
      case measure=>simp[intOf];omega
     ·have e5b:=decide_eq_false e5;have HAG:=lhd (show zay (A'++ [(h1,h2)]) (ga,gb)=A'++ [(h1,h2)]++ [(ga,gb)]by rw[zaD,if_neg e5]);go_wp2_with fail;go_quiet (fail);have HB:=lhd (za5 HB.out nq);have HO:=lhd (show(w2.drewN nq).ownsRow w.heap.size 57 2 _ _ _ from HO.out);have X1:=lhd (show zal (w2.drewN nq) g [.int .i64 ga,.int .i64 gb]from X1.out);generalize w2.drewN nq=w3 at*;clear y0 y1 l0 lf e5 e5b hwn hn1;have y0:=X1.out.cell (j:=0) rfl;have y1:=X1.out.cell (j:=1) rfl;have hwz:=HB.out.size;go_wp2_with (at_builtin;refine wpList_append_own _ rfl _ _ 25 rfl w.heap.size 57 ii (.agg #[.int .i64 0,.int .i64 0]) 2 16 Tryz.underlying25 hii iz0 iz1 iz2 rfl (by decide) _ _ _ rfl (World.ownsRow.alloc (by exact HO.out) _) ⟨(w3).heap.size,0,none⟩ 1 1 [.int .i64 ga,.int .i64 gb] rfl rfl (World.news_of_block (cs:=#[.int .i64 ga,.int .i64 gb]) (t:=57) (fr:=(0,0)) (by exact heap_alloc_new w3 _)) (by simp[Value.oneCell']) (by unfold maxLen;omega) (by omega) (by simp;omega) ?_)
      intro v7 w7 ho7 hg7 _;have hb7:Below w.heap.size w w7:=(HB.out.alloc hwz _).grown hg7 (by simp;omega) (fun q hq=>(HO.out.lt q hq).1);obtain⟨a7,c7,rfl,-,-⟩:=(SlR.of_own ho7).shape;have HLX:=lhd (show((A'++ [(h1,h2)])++ [(ga,gb)]).length=n+1 by rw[List.length_append,HN.out];rfl)
      have HO7:=lhd (show w7.ownsRow w.heap.size 57 2 (.slice a7 (n+1) c7) ((A'++ [(h1,h2)])++ [(ga,gb)]).length (gps ((A'++ [(h1,h2)])++ [(ga,gb)]))by
       rw[HLX.out,ze9];exact ho7)
      have HB7:=lhd hb7;clear ho7 hg7 hb7 y0 y1;go_wp2_with fail;go_roundw;case rel=>exact⟨k+1,(A'++ [(h1,h2)])++ [(ga,gb)],ga,hlt,by go_num,⟨_,_,by rw[HLX.out]⟩,by omega,by have h:=HGOOD.out;rw[HAG.out]at h;exact h,HBK.out,by rw[HLX.out];omega,HO7.out,HB7.out⟩
      case measure=>simp[intOf];omega
   ·obtain⟨j,hj⟩:∃j,j+1=k:=⟨k-1,by omega⟩;obtain⟨pb,rfl,p0⟩:=HPV.out j hj w1 HB.out;have hjl:j<P.length:=by omega
    have hwj:IntKind.i64.wrap ((k:Int)-1)=(j:Int):=by rw[show(k:Int)-1=(j:Int)by omega];exact IntWalk.i64_in _ (by omega)
    have hk9:decide ((0:Int)<(k:Int))=true:=by rw[decide_eq_true_iff];omega
    have hk8:0<k:=by omega
    clear hk0 hb0 hj HPV;by_cases e4:ga<b
    ·have e4b:=decide_eq_true e4;have HNO:=lhd (HBAD.out (.inl e4));clear HBAD HOKK;go_wp2_with fail;go_quiet (fail);have HB:=lhd (za5 HB.out nq);have HO:=lhd (show(w1.drewN nq).ownsRow w.heap.size 57 2 (.slice ao A.length co) A.length (gps A)from HO.out);have X1:=lhd (show zal (w1.drewN nq) g [.int .i64 ga,.int .i64 gb]from X1.out);have HZ:=lhd (show g<(w1.drewN nq).heap.size from HZ.out);generalize w1.drewN nq=w2 at*;clear y0 y1;go_wp2_with fail;refine bodyPost_ret (v:=.tuple #[.slice none 0 0,.bool false]) (by simp[results,Tryz.results64,go_sem]) rfl ?_;exact⟨⟨_,_,rfl,by rw[HNO.out];rfl⟩,HB.out⟩
    ·have e4b:=decide_eq_false e4;have HGOOD:=lhd (HGOO.out (by omega));clear HBAD HGOO HOKK e1 e2 e3 e4;go_wp2_with fail;go_quiet (fail);have HB:=lhd (za5 HB.out nq);have HO:=lhd (show(w1.drewN nq).ownsRow w.heap.size 57 2 (.slice ao A.length co) A.length (gps A)from HO.out);have X1:=lhd (show zal (w1.drewN nq) g [.int .i64 ga,.int .i64 gb]from X1.out);have HZ:=lhd (show g<(w1.drewN nq).heap.size from HZ.out);generalize w1.drewN nq=w2 at*;clear y0 y1;clear p0;have y0:=X1.out.cell (j:=0) rfl;have y1:=X1.out.cell (j:=1) rfl;rcases List.eq_nil_or_concat A with hA|⟨A',h,hA⟩
     ·subst hA;have HN:=lhd (show([]:List Gp).length=0 from rfl);have HO:=lhd (show w2.ownsRow w.heap.size 57 2 (.slice ao 0 co) 0 (gps [])from HO.out);rw[HN.out];go_wp2_with fail;go_quiet (fail);have HB:=lhd (za5 HB.out nq);have HO:=lhd (show(w2.drewN nq).ownsRow w.heap.size 57 2 _ _ _ from HO.out);have X1:=lhd (show zal (w2.drewN nq) g [.int .i64 ga,.int .i64 gb]from X1.out);generalize w2.drewN nq=w3 at*;clear y0 y1;have y0:=X1.out.cell (j:=0) rfl;have y1:=X1.out.cell (j:=1) rfl;have hwz:=HB.out.size;go_wp2_with (at_builtin;refine wpList_append_own _ rfl _ _ 25 rfl w.heap.size 57 ii (.agg #[.int .i64 0,.int .i64 0]) 2 16 Tryz.underlying25 hii iz0 iz1 iz2 rfl (by decide) _ _ _ rfl (World.ownsRow.alloc (by exact HO.out) _) ⟨(w3).heap.size,0,none⟩ 1 1 [.int .i64 ga,.int .i64 gb] rfl rfl (World.news_of_block (cs:=#[.int .i64 ga,.int .i64 gb]) (t:=57) (fr:=(0,0)) (by exact heap_alloc_new w3 _)) (by simp[Value.oneCell']) (by unfold maxLen;omega) (by omega) (by simp;omega) ?_)
      intro v7 w7 ho7 hg7 _;have hb7:Below w.heap.size w w7:=(HB.out.alloc hwz _).grown hg7 (by simp;omega) (fun q hq=>(HO.out.lt q hq).1);obtain⟨a7,c7,rfl,-,-⟩:=(SlR.of_own ho7).shape;have HLX:=lhd (show(([]:List Gp)++ [(ga,gb)]).length=0+1 by rw[List.length_append,HN.out];rfl)
      have HO7:=lhd (show w7.ownsRow w.heap.size 57 2 (.slice a7 (0+1) c7) (([]:List Gp)++ [(ga,gb)]).length (gps (([]:List Gp)++ [(ga,gb)]))by
       rw[HLX.out,ze9];exact ho7)
      have HB7:=lhd hb7;clear ho7 hg7 hb7 y0 y1;go_wp2_with fail;go_roundw;case rel=>exact⟨k+1,([]:List Gp)++ [(ga,gb)],ga,hlt,by go_num,⟨_,_,by rw[HLX.out]⟩,by omega,by have h:=HGOOD.out;rw[zaC]at h;exact h,HBK.out,by rw[HLX.out];omega,HO7.out,HB7.out⟩
      case measure=>simp[intOf];omega
     ·rw[List.concat_eq_append]at hA;subst hA;obtain⟨gr,co',hv,hr,-⟩:=zjD HO.out (by simp);injection hv with hv1 _ hv2;subst hv1 hv2;have l0:=hr.cell (zfc A' h);have lf:=hr.free (List.getElem?_eq_some_iff.1 (zfc A' h)).1;have HAL:=lhd (show(A'++ [h]).length=A'.length+1 by simp);have hAk2:A'.length+1≤k:=by rw[←HAL.out];exact hAk
      obtain⟨n,hn⟩:∃n,(A'++ [h]).length=n:=⟨_,rfl⟩;have hn1:A'.length<n:=by rw[←hn,HAL.out];omega
      have hwn:IntKind.i64.wrap ((n:Int)-1)=(A'.length:Int):=by rw[←hn,HAL.out,show(((A'.length+1:Nat):Int)-1)=(A'.length:Int)by omega];exact IntWalk.i64_in _ (by omega)
      have hn8:0<n:=by omega
      have hn9:decide ((0:Int)<(n:Int))=true:=by rw[decide_eq_true_iff];omega
      have HN:=lhd hn;rw[hn]at HO HNB hAk⊢;obtain⟨h1,h2⟩:=h;dsimp only at l0;clear hr hn;by_cases e5:ga≤h2
      ·have e5b:=decide_eq_true e5;have HAG:=lhd (show zay (A'++ [(h1,h2)]) (ga,gb)=A'++ [(h1,max h2 gb)]by rw[zaD,if_pos e5]);go_wp2_with fail;go_quiet (fail);have HB:=lhd (za5 HB.out nq);have HO:=lhd (show(w2.drewN nq).ownsRow w.heap.size 57 2 _ _ _ from HO.out);have X1:=lhd (show zal (w2.drewN nq) g [.int .i64 ga,.int .i64 gb]from X1.out);generalize w2.drewN nq=w3 at*;clear l0 lf y0 y1;have hr:=zjE HO.out;have l0:w3.cell? ⟨gr,A'.length*2+1,none⟩=some (.int .i64 h2):=hr.cell (zfc A' (h1,h2));have lf:=hr.free (List.getElem?_eq_some_iff.1 (zfc A' (h1,h2))).1;have y1:w3.cell? ⟨g,1,none⟩=some (.int .i64 gb):=X1.out.cell (j:=1) rfl;clear hr;have HS9:=lhd (And.intro l0 y1);have hst:=(HO.out.stored (A'.length*2+1) (.int .i64 (max h2 gb))).1;rw[zfd A' (h1,h2) (max h2 gb)]at hst;have HST:=lhd hst;have HBS:=lhd (show Below w.heap.size w (w3.setCell ⟨gr,A'.length*2+1,none⟩ (.int .i64 (max h2 gb)))from HB.out.setCell (HO.out.lt gr rfl).1 _);clear hst e5 e5b;go_upto_region 10 with fail;refine zq0 (S:=fun w'=>w'.cell? ⟨gr,A'.length*2+1,none⟩=some (.int .i64 h2)∧w'.cell? ⟨g,1,none⟩=some (.int .i64 gb)) (X:=fun j=>decide (12≤j)) (by kernel_rfl) ?_;have HS:=lhd (show w3.drew.cell? ⟨gr,A'.length*2+1,none⟩=some (.int .i64 h2)∧w3.drew.cell? ⟨g,1,none⟩=some (.int .i64 gb)from HS9.out);refine zqT (i:=0) (v:=?_) rfl (by kernel_rfl) (by kernel_rfl) (by kernel_rfl) (by kernel_rfl) (fun _ _ _ h=>h) (Or.inl ⟨by rfl,?_⟩) HS.out ?_;rotate_left
       ·intro w hSw;(try dsimp only at hSw)
        go_simp;all_goals with_reducible rfl
       simp only[tkS];refine zqT (i:=1) (v:=?_) rfl (by kernel_rfl) (by kernel_rfl) (by kernel_rfl) (by kernel_rfl) (fun _ _ _ h=>h) (Or.inl ⟨by rfl,?_⟩) HS.out ?_;rotate_left
       ·intro w hSw;(try dsimp only at hSw)
        go_simp;all_goals with_reducible rfl
       simp only[tkS];refine zqT (i:=2) (v:=?_) rfl (by kernel_rfl) (by kernel_rfl) (by kernel_rfl) (by kernel_rfl) (fun _ _ _ h=>h) (Or.inl ⟨by rfl,?_⟩) HS.out ?_;rotate_left
       ·intro w hSw;(try dsimp only at hSw)
        go_simp;all_goals with_reducible rfl
       simp only[tkS];refine zqT (i:=3) (v:=?_) rfl (by kernel_rfl) (by kernel_rfl) (by kernel_rfl) (by kernel_rfl) (fun _ _ _ h=>h) (Or.inl ⟨by rfl,?_⟩) HS.out ?_;rotate_left
       ·intro w hSw;(try dsimp only at hSw)
        go_simp;all_goals with_reducible rfl
       simp only[tkS];refine zqT (i:=4) (v:=?_) rfl (by kernel_rfl) (by kernel_rfl) (by kernel_rfl) (by kernel_rfl) (fun _ _ _ h=>h) (Or.inl ⟨by rfl,?_⟩) HS.out ?_;rotate_left
       ·intro w hSw;(try dsimp only at hSw)
        go_simp;all_goals with_reducible rfl
       simp only[tkS];refine zqT (i:=5) (v:=?_) rfl (by kernel_rfl) (by kernel_rfl) (by kernel_rfl) (by kernel_rfl) (fun _ _ _ h=>h) (Or.inl ⟨by rfl,?_⟩) HS.out ?_;rotate_left
       ·intro w hSw;(try dsimp only at hSw)
        go_simp;all_goals with_reducible rfl
       simp only[tkS];refine zqT (i:=6) (v:=?_) rfl (by kernel_rfl) (by kernel_rfl) (by kernel_rfl) (by kernel_rfl) (fun _ _ _ h=>h) (Or.inl ⟨by rfl,?_⟩) HS.out ?_;rotate_left
       ·intro w hSw;(try dsimp only at hSw)
        go_simp;all_goals with_reducible rfl
       simp only[tkS];refine zqT (i:=7) (v:=?_) rfl (by kernel_rfl) (by kernel_rfl) (by kernel_rfl) (by kernel_rfl) (fun _ _ _ h=>h) (Or.inl ⟨by rfl,?_⟩) HS.out ?_;rotate_left
       ·intro w hSw;(try dsimp only at hSw)
        go_simp;all_goals with_reducible rfl
       simp only[tkS];refine zqT (i:=8) (v:=?_) rfl (by kernel_rfl) (by kernel_rfl) (by kernel_rfl) (by kernel_rfl) (fun _ _ _ h=>h) (Or.inl ⟨by rfl,?_⟩) HS.out ?_;rotate_left
       ·intro w hSw;(try dsimp only at hSw)
        go_simp;all_goals with_reducible rfl
       simp only[tkS];refine zqT (i:=9) (v:=?_) rfl (by kernel_rfl) (by kernel_rfl) (by kernel_rfl) (by kernel_rfl) (fun _ _ _ h=>h) (Or.inl ⟨by rfl,?_⟩) HS.out ?_;rotate_left
       ·intro w hSw;(try dsimp only at hSw)
        go_simp;all_goals with_reducible rfl
       simp only[tkS];refine zqT (i:=10) (v:=?_) rfl (by kernel_rfl) (by kernel_rfl) (by kernel_rfl) (by kernel_rfl) (fun _ _ _ h=>h) (Or.inl ⟨by rfl,?_⟩) HS.out ?_;rotate_left
       ·intro w hSw;(try dsimp only at hSw)
        go_simp;all_goals with_reducible rfl
       simp only[tkS];refine zqT (i:=11) (v:=?_) rfl (by kernel_rfl) (by kernel_rfl) (by kernel_rfl) (by kernel_rfl) (fun _ _ _ h=>h) (Or.inl ⟨by rfl,?_⟩) HS.out ?_;rotate_left
       ·intro w hSw;(try dsimp only at hSw)
        go_simp;all_goals with_reducible rfl
       simp only[tkS];refine zqR (i:=12) (v:=?_) rfl (by kernel_rfl) (by kernel_rfl) (by kernel_rfl) rfl (fun _ _ _ h=>h) (Or.inl ⟨by rfl,?_⟩) ?_;rotate_left
       ·intro w hSw;go_simp;all_goals with_reducible rfl
       simp only[tkS];refine zqR (i:=13) (v:=?_) rfl (by kernel_rfl) (by kernel_rfl) (by kernel_rfl) rfl (fun _ _ _ h=>h) (Or.inl ⟨by rfl,?_⟩) ?_;rotate_left
       ·intro w hSw;go_simp;all_goals with_reducible rfl
       simp only[tkS];refine zqS (i:=14) (by kernel_rfl) rfl (fun K hK=>?_);go_simp;refine hK.out _ _ (fun h=>by simp at h) ?_;clear hK;try simp only[tkS]
       refine⟨by kernel_rfl,?_⟩;go_wp2_with fail;go_roundw;case rel=>exact⟨k+1,A'++ [(h1,max h2 gb)],ga,hlt,by go_num,⟨_,_,by rw[←HN.out,List.length_append,List.length_append];rfl⟩,by omega,by have h:=HGOOD.out;rw[HAG.out]at h;exact h,HBK.out,by rw[List.length_append,List.length_singleton];omega,by rw[show(A'++ [(h1,max h2 gb)]).length=n by rw[←HN.out,List.length_append,List.length_append];rfl];exact HST.out.drew,HBS.out.drew⟩
       case measure=>simp[intOf];omega
      ·have e5b:=decide_eq_false e5;have HAG:=lhd (show zay (A'++ [(h1,h2)]) (ga,gb)=A'++ [(h1,h2)]++ [(ga,gb)]by rw[zaD,if_neg e5]);go_wp2_with fail;go_quiet (fail);have HB:=lhd (za5 HB.out nq);have HO:=lhd (show(w2.drewN nq).ownsRow w.heap.size 57 2 _ _ _ from HO.out);have X1:=lhd (show zal (w2.drewN nq) g [.int .i64 ga,.int .i64 gb]from X1.out);generalize w2.drewN nq=w3 at*;clear y0 y1 l0 lf e5 e5b hwn hn1;have y0:=X1.out.cell (j:=0) rfl;have y1:=X1.out.cell (j:=1) rfl;have hwz:=HB.out.size;go_wp2_with (at_builtin;refine wpList_append_own _ rfl _ _ 25 rfl w.heap.size 57 ii (.agg #[.int .i64 0,.int .i64 0]) 2 16 Tryz.underlying25 hii iz0 iz1 iz2 rfl (by decide) _ _ _ rfl (World.ownsRow.alloc (by exact HO.out) _) ⟨(w3).heap.size,0,none⟩ 1 1 [.int .i64 ga,.int .i64 gb] rfl rfl (World.news_of_block (cs:=#[.int .i64 ga,.int .i64 gb]) (t:=57) (fr:=(0,0)) (by exact heap_alloc_new w3 _)) (by simp[Value.oneCell']) (by unfold maxLen;omega) (by omega) (by simp;omega) ?_)
       intro v7 w7 ho7 hg7 _;have hb7:Below w.heap.size w w7:=(HB.out.alloc hwz _).grown hg7 (by simp;omega) (fun q hq=>(HO.out.lt q hq).1);obtain⟨a7,c7,rfl,-,-⟩:=(SlR.of_own ho7).shape;have HLX:=lhd (show((A'++ [(h1,h2)])++ [(ga,gb)]).length=n+1 by rw[List.length_append,HN.out];rfl)
       have HO7:=lhd (show w7.ownsRow w.heap.size 57 2 (.slice a7 (n+1) c7) ((A'++ [(h1,h2)])++ [(ga,gb)]).length (gps ((A'++ [(h1,h2)])++ [(ga,gb)]))by
        rw[HLX.out,ze9];exact ho7)
       have HB7:=lhd hb7;clear ho7 hg7 hb7 y0 y1;go_wp2_with fail;go_roundw;case rel=>exact⟨k+1,(A'++ [(h1,h2)])++ [(ga,gb)],ga,hlt,by go_num,⟨_,_,by rw[HLX.out]⟩,by omega,by have h:=HGOOD.out;rw[HAG.out]at h;exact h,HBK.out,by rw[HLX.out];omega,HO7.out,HB7.out⟩
       case measure=>simp[intOf];omega
  ·obtain rfl:k=P.length:=by omega
   have HD:=lhd hji.done;have HO:=lhd ho;have HB:=lhd hb;clear hji ho hb;go_wp2_with fail;refine bodyPost_ret (v:=.tuple #[.slice ao A.length co,.bool true]) (by simp[results,Tryz.results64,go_sem]) rfl ?_;refine⟨⟨_,_,rfl,?_⟩,HB.out⟩;rw[HD.out];exact⟨rfl,_,_,rfl,HO.out⟩
structure OfSt (w W:World) (k n:Int) (a:Option Addr) (len cap:Nat) (ga gb:Int):Prop where
 s:zal W w.heap.size [.int .i64 k,.int .i64 n,.slice a len cap]
 g:zal W (w.heap.size+1) [.int .i64 ga,.int .i64 gb]
 r:zal W (w.heap.size+2) [.int .i64 0,.int .i64 0,.slice none 0 0]
 b:Below w.heap.size w W
 z:w.heap.size+2<W.heap.size
section
variable {w W W' : World} {k n : Int} {a : Option Addr} {len cap : Nat} {ga gb : Int}
theorem OfSt.start (w:World) (k n:Int) (a:Option Addr) (len cap:Nat) (ga gb:Int) (S G:TypeId):OfSt w (((w.alloc (.cells #[.int .i64 k,.int .i64 n,.slice a len cap] S)).alloc (.cells #[.int .i64 ga,.int .i64 gb] G)).alloc (.cells #[.int .i64 0,.int .i64 0,.slice none 0 0] S)) k n a len cap ga gb:=by
 have h1:=zal.fresh (w.alloc (.cells #[.int .i64 k,.int .i64 n,.slice a len cap] S)) #[.int .i64 ga,.int .i64 gb] G;have h2:=zal.fresh ((w.alloc (.cells #[.int .i64 k,.int .i64 n,.slice a len cap] S)).alloc (.cells #[.int .i64 ga,.int .i64 gb] G)) #[.int .i64 0,.int .i64 0,.slice none 0 0] S;simp only[World.size_alloc]at h1 h2;exact⟨((zal.fresh w #[.int .i64 k,.int .i64 n,.slice a len cap] _).alloc (by simp) _).alloc (by simp;omega) _,h1.alloc (by simp) _,h2,(((Below.refl _ _).alloc (Nat.le_refl _) _).alloc (by simp) _).alloc (by simp;omega) _,by simp⟩
theorem OfSt.later (h:OfSt w W k n a len cap ga gb) {B:Nat} (hb:Below B W W') (hB:w.heap.size+2<B):OfSt w W' k n a len cap ga gb:=
 ⟨h.s.below hb (by omega),h.g.below hb (by omega),h.r.below hb hB,h.b.trans (hb.mono (by omega)),by have:=hb.size;have:=h.z;omega⟩
theorem OfSt.five (h:OfSt w W k n a len cap ga gb):W.cell? ⟨w.heap.size,0,none⟩=some (.int .i64 k)∧W.cell? ⟨w.heap.size,1,none⟩=some (.int .i64 n)∧W.cell? ⟨w.heap.size,2,none⟩=some (.slice a len cap)∧W.cell? ⟨w.heap.size+1,0,none⟩=some (.int .i64 ga)∧W.cell? ⟨w.heap.size+1,1,none⟩=some (.int .i64 gb):=
 ⟨h.s.cell (j:=0) rfl,h.s.cell (j:=1) rfl,h.s.cell (j:=2) rfl,h.g.cell (j:=0) rfl,h.g.cell (j:=1) rfl⟩
theorem zbd {w W:World} {B:Nat} (h:Below B w W) {b:Nat} (hb:B≤b) (p q r:Value):Below B w (((W.setCell ⟨b,0,none⟩ p).setCell ⟨b,1,none⟩ q).setCell ⟨b,2,none⟩ r):=
 ((h.setCell hb _).setCell hb _).setCell hb _
theorem OfSt.fin (h:OfSt w W k n a len cap ga gb) (x y z:Value):
 (((((W.setCell ⟨w.heap.size+1+1,0,none⟩ x).setCell ⟨w.heap.size+1+1,1,none⟩ y).setCell ⟨w.heap.size+1+1,2,none⟩ z).cell? ⟨w.heap.size,0,none⟩=some (.int .i64 k)∧(((W.setCell ⟨w.heap.size+1+1,0,none⟩ x).setCell ⟨w.heap.size+1+1,1,none⟩ y).setCell ⟨w.heap.size+1+1,2,none⟩ z).cell? ⟨w.heap.size,1,none⟩=some (.int .i64 n)∧(((W.setCell ⟨w.heap.size+1+1,0,none⟩ x).setCell ⟨w.heap.size+1+1,1,none⟩ y).setCell ⟨w.heap.size+1+1,2,none⟩ z).cell? ⟨w.heap.size,2,none⟩=some (.slice a len cap)∧(((W.setCell ⟨w.heap.size+1+1,0,none⟩ x).setCell ⟨w.heap.size+1+1,1,none⟩ y).setCell ⟨w.heap.size+1+1,2,none⟩ z).cell? ⟨w.heap.size+1,0,none⟩=some (.int .i64 ga)∧(((W.setCell ⟨w.heap.size+1+1,0,none⟩ x).setCell ⟨w.heap.size+1+1,1,none⟩ y).setCell ⟨w.heap.size+1+1,2,none⟩ z).cell? ⟨w.heap.size+1,1,none⟩=some (.int .i64 gb))∧
 ((((W.setCell ⟨w.heap.size+1+1,0,none⟩ x).setCell ⟨w.heap.size+1+1,1,none⟩ y).setCell ⟨w.heap.size+1+1,2,none⟩ z).cell? ⟨w.heap.size+1+1,0,none⟩=some x∧(((W.setCell ⟨w.heap.size+1+1,0,none⟩ x).setCell ⟨w.heap.size+1+1,1,none⟩ y).setCell ⟨w.heap.size+1+1,2,none⟩ z).cell? ⟨w.heap.size+1+1,1,none⟩=some y∧(((W.setCell ⟨w.heap.size+1+1,0,none⟩ x).setCell ⟨w.heap.size+1+1,1,none⟩ y).setCell ⟨w.heap.size+1+1,2,none⟩ z).cell? ⟨w.heap.size+1+1,2,none⟩=some z))∧
  Below w.heap.size w (((W.setCell ⟨w.heap.size+1+1,0,none⟩ x).setCell ⟨w.heap.size+1+1,1,none⟩ y).setCell ⟨w.heap.size+1+1,2,none⟩ z):=by
 have o1:=((h.s.other (a:=⟨w.heap.size+1+1,0,none⟩) (by show w.heap.size+1+1≠_;omega) x).other (a:=⟨w.heap.size+1+1,1,none⟩) (by show w.heap.size+1+1≠_;omega) y).other (a:=⟨w.heap.size+1+1,2,none⟩) (by show w.heap.size+1+1≠_;omega) z;have o2:=((h.g.other (a:=⟨w.heap.size+1+1,0,none⟩) (by show w.heap.size+1+1≠_;omega) x).other (a:=⟨w.heap.size+1+1,1,none⟩) (by show w.heap.size+1+1≠_;omega) y).other (a:=⟨w.heap.size+1+1,2,none⟩) (by show w.heap.size+1+1≠_;omega) z;exact⟨⟨⟨o1.cell (j:=0) rfl,o1.cell (j:=1) rfl,o1.cell (j:=2) rfl,o2.cell (j:=0) rfl,o2.cell (j:=1) rfl⟩,set3 (h.r.cell (j:=0) rfl) (h.r.cell (j:=1) rfl) (h.r.cell (j:=2) rfl) x y z⟩,zbd h.b (by omega) _ _ _⟩
theorem OfSt.drew (h:OfSt w W k n a len cap ga gb):OfSt w W.drew k n a len cap ga gb:=⟨h.s,h.g,h.r,h.b.drew,h.z⟩
end
theorem zcr (l:List Ch) (c:Ch):chs (l++ [c])=chs l++ [.int .i64 c.1,.string c.2]:=by rw[zck];rfl
theorem zno {w:World} {B:Nat} (a9:Option Addr) (c9:Nat) (r m:List Ch) (h:w.ownsRow B 53 2 (.slice a9 (r.length+m.length) c9) (r.length+m.length) (chs r++chs m)):
 SlR w (.slice a9 (r++m).length c9) (r++m).length (chs (r++m)):=by
 have:=SlR.of_own h;rw[List.length_append,zck];exact this
theorem zlO (s:Sg) (u:Value) (g:Gp) (en:Int) (w:World) (hs:SlR w u s.2.2.length (chs s.2.2)) (hl:s.2.2.length≤5000) (h0:0≤g.1) (h1:g.1<g.2) (h2:g.2≤1099511627777):
 Calls Tryz.prog 66 #[.agg #[.int .i64 s.1,.int .i64 s.2.1,u],.agg #[.int .i64 g.1,.int .i64 g.2],.int .i64 en] w fun e w'=>
  (∃v',e=.returned (.agg #[.int .i64 (offR en g s).1,.int .i64 (offR en g s).2.1,v'])∧w'.ownsRow w.heap.size 53 2 v' (offR en g s).2.2.length (chs (offR en g s).2.2))∧Below w.heap.size w w':=by
 obtain⟨k,n,l⟩:=s;obtain⟨ga,gb⟩:=g;unfold offR;dsimp only at*;obtain⟨L0,hL0⟩:∃L0,L0=zjP l 0 (ga-1)++ [(ga,vi k n)]++(if gb≤en then [(gb,val (vi k n) l gb)]else [])++zjP l (gb+1) 1099511627776:=⟨_,rfl⟩;rw[←hL0];have HL0:=lhd hL0;clear hL0;obtain⟨a,cap,rfl,-,-⟩:=hs.shape;obtain⟨i0,hi,iz0,iz1,iz2⟩:=info_parts (P:=Tryz.prog) zbX;have HS:=lhd hs;have HST:=lhd (OfSt.start w k n a l.length cap ga gb 45 57);have hwa:=zhl (ga-1) (by omega) (by omega);have hwb:=zhl (gb+1) (by omega) (by omega);clear hs;go_enter Tryz.func66,Tryz.ntmps66;go_upto_region 1 with fail;generalize ((w.alloc (.cells #[.int .i64 k,.int .i64 n,.slice a l.length cap] 45)).alloc (.cells #[.int .i64 ga,.int .i64 gb] 57)).alloc (.cells #[.int .i64 0,.int .i64 0,.slice none 0 0] 45)=w0 at*;have HST0:=HST;clear HST;have HPT:=lhd (fun x y W (hW:Below w0.heap.size w0 W)=>zkX _ l x y W ((HS.out.below HST0.out.b).below hW) (by omega));have HIN:=lhd (fun W=>zle k n W);have HVL:=lhd (fun W (hW:Below w0.heap.size w0 W)=>zk2 k n _ l gb W ((HS.out.below HST0.out.b).below hW));refine wp_region_held_drew (S:=(fun w'=>w'.cell? ⟨w.heap.size,0,none⟩=some (.int .i64 k)∧w'.cell? ⟨w.heap.size,1,none⟩=some (.int .i64 n)∧w'.cell? ⟨w.heap.size,2,none⟩=some (.slice a l.length cap)∧w'.cell? ⟨w.heap.size+1,0,none⟩=some (.int .i64 ga)∧w'.cell? ⟨w.heap.size+1,1,none⟩=some (.int .i64 gb))) (by kernel_rfl) (HST0.out.drew).five (fun hHeld=>?_);have hbq:Below w0.heap.size w0 w0.drew:=(Below.refl _ _).drew;generalize w0.drew=w1 at*;refine tkH 0 hHeld (v:=?_) ?_ ?_;rotate_left
 ·intro w h;(try dsimp only at h);go_simp;all_goals with_reducible rfl
 simp only[tkS];refine tkH 1 hHeld (v:=?_) ?_ ?_;rotate_left
 ·intro w h;(try dsimp only at h);go_simp;all_goals with_reducible rfl
 simp only[tkS];refine tkH 2 hHeld (v:=?_) ?_ ?_;rotate_left
 ·intro w h;(try dsimp only at h);go_simp;all_goals with_reducible rfl
 simp only[tkS];refine tkH 3 hHeld (v:=?_) ?_ ?_;rotate_left
 ·intro w h;(try dsimp only at h);go_simp;all_goals with_reducible rfl
 simp only[tkS];refine tkH 4 hHeld (v:=?_) ?_ ?_;rotate_left
 ·intro w h;(try dsimp only at h);go_simp;all_goals with_reducible rfl
 simp only[tkS];refine tkH 6 hHeld (v:=?_) ?_ ?_;rotate_left
 ·intro w h;(try dsimp only at h);go_simp;all_goals with_reducible rfl
 simp only[tkS];refine tkH 7 hHeld (v:=?_) ?_ ?_;rotate_left
 ·intro w h;(try dsimp only at h);go_simp;all_goals with_reducible rfl
 simp only[tkS];refine tkH 8 hHeld (v:=?_) ?_ ?_;rotate_left
 ·intro w h;(try dsimp only at h);go_simp;all_goals with_reducible rfl
 simp only[tkS];refine tkH 9 hHeld (v:=?_) ?_ ?_;rotate_left
 ·intro w h;(try dsimp only at h);go_simp;all_goals with_reducible rfl
 simp only[tkS];refine tkH 10 hHeld (v:=?_) ?_ ?_;rotate_left
 ·intro w h;(try dsimp only at h);go_simp;all_goals with_reducible rfl
 simp only[tkS];refine tkH 11 hHeld (v:=?_) ?_ ?_;rotate_left
 ·intro w h;(try dsimp only at h);go_simp;all_goals with_reducible rfl
 simp only[tkS];refine oneH 5 (fun K hK=>?_);go_simp;refine(HPT.out 0 (ga-1) w1 hbq).mono ?_;rintro e w3 ⟨v3,rfl,ho3,hb3⟩;have hl3:=zjS l 0 (ga-1);obtain⟨r3,hr3⟩:∃r3,zjP l 0 (ga-1)=r3:=⟨_,rfl⟩;rw[hr3]at ho3 hl3;have HR3:=lhd hr3;clear hr3;obtain⟨a3,c3,rfl,-,-⟩:=(SlR.of_own ho3).shape;have HO3:=lhd (zjJ ho3 hbq.size);have hbq:=zem hbq hb3;clear hHeld hb3 ho3;go_wp2_with fail;refine hK.out _ _ (HST0.out.later hbq HST0.out.z).five (fun hHeld=>?_);clear hK;try simp only[tkS]
 refine oneH 12 (fun K hK=>?_);go_simp;refine(HIN.out _).mono ?_;rintro e w4 ⟨rfl,hb4⟩;have HO4:=lhd (zba HO3.out hb4);have hbq:=zem hbq hb4;have HSX:=lhd (And.intro hbq (HST0.out.later hbq HST0.out.z));obtain⟨x,hx⟩:∃x,vi k n=x:=⟨_,rfl⟩;rw[hx];have HX:=lhd hx;clear hHeld hb4 hbq hx HO3;go_wp2_with fail;refine hK.out _ _ HSX.out.2.five (fun hHeld=>?_);clear hK;try simp only[tkS]
 refine tkH 13 hHeld (v:=?_) ?_ ?_;rotate_left
 ·intro w h;(try dsimp only at h);go_simp;all_goals with_reducible rfl
 simp only[tkS];refine oneH 14 (fun K hK=>?_);go_simp;have hnb:=heap_alloc_new w4 (.cells #[.int .i64 ga,.string x] 53);have hba:Below w0.heap.size w0 (w4.alloc (.cells #[.int .i64 ga,.string x] 53)):=(HSX).out.1.alloc (HSX).out.1.size _;have HOA:=lhd ((HO4).out.alloc (.cells #[.int .i64 ga,.string x] 53));have hga:(w4.alloc (.cells #[.int .i64 ga,.string x] 53)).heap.size=w4.heap.size+1:=by simp
 generalize w4.alloc (.cells #[.int .i64 ga,.string x] 53)=wA at*;generalize w4.heap.size=gN at*;have hstA:=HST0.out.later hba HST0.out.z;clear hHeld;refine hK.out _ _ hstA.five (fun hHeld=>?_);clear hK;try simp only[tkS]
 refine oneH 15 (fun K hK=>?_);refine step_append_lies _ (by rfl) _ _ _ (by rfl) w0.heap.size 53 i0 _ 2 24 Tryz.underlying43 hi iz0 iz1 iz2 rfl (by omega) _ (r3).length (chs r3) (by rfl) HOA.out ⟨gN,0,none⟩ 1 1 [.int .i64 ga,.string x] (by rfl) (by rfl) (World.news_of_block (cs:=#[.int .i64 ga,.string x]) (t:=53) (fr:=(0,0)) hnb) (by simp[Value.oneCell']) (by omega) (by unfold maxLen;omega) (by omega) (by have:=hba.size;omega) (gN+1) (by omega) ?_;intro gg cap9 w9 ho9 hg9 hat hlt9;have hb9:=hba.grown hg9 hba.size (fun q hq=>(HOA.out.lt q hq).1)
 have HO9:=lhd (show w9.ownsRow w0.heap.size 53 2 (.slice (some ⟨gg,0,none⟩) ((r3).length+1) cap9) (r3++ [(ga,x)]).length (chs (r3++ [(ga,x)]))by
  rw[zcr,List.length_append];exact ho9)
 have HS9:=lhd (And.intro hb9 (HST0.out.later hb9 HST0.out.z));clear ho9 hg9 hat hlt9 hnb hba hga hHeld HOA hb9 hstA;refine hK.out _ _ HS9.out.2.five (fun hHeld=>?_);clear hK;try simp only[tkS]
 refine tkH 16 hHeld (v:=?_) ?_ ?_;rotate_left
 ·intro w h;(try dsimp only at h);go_simp;all_goals with_reducible rfl
 simp only[tkS];refine wpAnyH_done (by kernel_rfl) ?_ _;clear hHeld HSX HO4 HIN;obtain⟨r5,hr5⟩:∃r5,r5=r3++ [(ga,x)]:=⟨_,rfl⟩;have hl5:r5.length=r3.length+1:=by rw[hr5];simp
 rw[←hr5,hl5]at HO9;have HR5:=lhd (show zjP l 0 (ga-1)++ [(ga,vi k n)]=r5 by rw[HR3.out,HX.out,hr5]);rw[←hl5]at HO9⊢;have hl6:r5.length≤5001:=by omega
 clear hr5 hl5;have HO5:=lhd (show ∃A C,(w9.ownsRow w0.heap.size 53 2 (.slice A r5.length C) r5.length (chs r5))∧Value.slice (some ⟨gg,0,none⟩) r5.length cap9=.slice A r5.length C from⟨_,_,HO9.out,rfl⟩);obtain⟨s0,s1,s2,g0,g1⟩:=HS9.out.2.five;go_upto_if 27 with fail
 go_cut [7]from 24 to 37 (fun s7 wc=>∃(A:Option Addr) (C:Nat) (r:List Ch),r=r5++(if gb≤en then [(gb,val (vi k n) l gb)]else [])∧s7=.slice A r.length C∧r.length≤5002∧wc.ownsRow w0.heap.size 53 2 s7 r.length (chs r)∧Below w0.heap.size w0 wc)
 case first=>
  by_cases hge:gb≤en
  ·have HGE:=lhd hge;go_upto_region 3 with fail;refine wp_region_held_drew (S:=(fun w'=>w'.cell? ⟨w.heap.size,0,none⟩=some (.int .i64 k)∧w'.cell? ⟨w.heap.size,1,none⟩=some (.int .i64 n)∧w'.cell? ⟨w.heap.size,2,none⟩=some (.slice a l.length cap)∧w'.cell? ⟨w.heap.size+1,0,none⟩=some (.int .i64 ga)∧w'.cell? ⟨w.heap.size+1,1,none⟩=some (.int .i64 gb))) (by kernel_rfl) (HS9.out.2.drew).five (fun hHeld=>?_);have hbq:Below w0.heap.size w0 w9.drew:=HS9.out.1.drew;have HOD:=lhd (show w9.drew.ownsRow w0.heap.size 53 2 (.slice (some ⟨gg,0,none⟩) r5.length cap9) r5.length (chs r5)from HO9.out);clear s0 s1 s2 g0 g1 HO5;generalize w9.drew=w10 at*;refine tkH 0 hHeld (v:=?_) ?_ ?_;rotate_left
   ·intro w h;(try dsimp only at h);go_simp;all_goals with_reducible rfl
   simp only[tkS];refine tkH 1 hHeld (v:=?_) ?_ ?_;rotate_left
   ·intro w h;(try dsimp only at h);go_simp;all_goals with_reducible rfl
   simp only[tkS];refine tkH 2 hHeld (v:=?_) ?_ ?_;rotate_left
   ·intro w h;(try dsimp only at h);go_simp;all_goals with_reducible rfl
   simp only[tkS];refine tkH 3 hHeld (v:=?_) ?_ ?_;rotate_left
   ·intro w h;(try dsimp only at h);go_simp;all_goals with_reducible rfl
   simp only[tkS];refine tkH 4 hHeld (v:=?_) ?_ ?_;rotate_left
   ·intro w h;(try dsimp only at h);go_simp;all_goals with_reducible rfl
   simp only[tkS];refine tkH 5 hHeld (v:=?_) ?_ ?_;rotate_left
   ·intro w h;(try dsimp only at h);go_simp;all_goals with_reducible rfl
   simp only[tkS];refine oneH 6 (fun K hK=>?_);go_simp;refine(HVL.out w10 hbq).mono ?_;rintro e w11 ⟨rfl,hb11⟩;have HO11:=lhd (zba HOD.out hb11);have hbq:=zem hbq hb11;have HSX:=lhd (And.intro hbq (HST0.out.later hbq HST0.out.z));obtain⟨y,hy⟩:∃y,val (vi k n) l gb=y:=⟨_,rfl⟩;rw[hy];have HYY:=lhd hy;clear hHeld hb11 hbq hy HOD HO9 HS9;go_wp2_with fail;refine hK.out _ _ HSX.out.2.five (fun hHeld=>?_);clear hK;try simp only[tkS]
   refine tkH 7 hHeld (v:=?_) ?_ ?_;rotate_left
   ·intro w h;(try dsimp only at h);go_simp;all_goals with_reducible rfl
   simp only[tkS];refine oneH 8 (fun K hK=>?_);go_simp;have hnb:=heap_alloc_new w11 (.cells #[.int .i64 gb,.string y] 53);have hba:Below w0.heap.size w0 (w11.alloc (.cells #[.int .i64 gb,.string y] 53)):=(HSX).out.1.alloc (HSX).out.1.size _;have HOA:=lhd ((HO11).out.alloc (.cells #[.int .i64 gb,.string y] 53));have hga:(w11.alloc (.cells #[.int .i64 gb,.string y] 53)).heap.size=w11.heap.size+1:=by simp
   generalize w11.alloc (.cells #[.int .i64 gb,.string y] 53)=wA at*;generalize w11.heap.size=gN at*;have hstA:=HST0.out.later hba HST0.out.z;clear hHeld;refine hK.out _ _ hstA.five (fun hHeld=>?_);clear hK;try simp only[tkS]
   refine oneH 9 (fun K hK=>?_);refine step_append_lies _ (by rfl) _ _ _ (by rfl) w0.heap.size 53 i0 _ 2 24 Tryz.underlying43 hi iz0 iz1 iz2 rfl (by omega) _ (r5).length (chs r5) (by rfl) HOA.out ⟨gN,0,none⟩ 1 1 [.int .i64 gb,.string y] (by rfl) (by rfl) (World.news_of_block (cs:=#[.int .i64 gb,.string y]) (t:=53) (fr:=(0,0)) hnb) (by simp[Value.oneCell']) (by omega) (by unfold maxLen;omega) (by omega) (by have:=hba.size;omega) (gN+1) (by omega) ?_;intro gg cap9 w9 ho9 hg9 hat hlt9;have hb9:=hba.grown hg9 hba.size (fun q hq=>(HOA.out.lt q hq).1)
   have HO9:=lhd (show w9.ownsRow w0.heap.size 53 2 (.slice (some ⟨gg,0,none⟩) ((r5).length+1) cap9) (r5++ [(gb,y)]).length (chs (r5++ [(gb,y)]))by
    rw[zcr,List.length_append];exact ho9)
   have HS9:=lhd (And.intro hb9 (HST0.out.later hb9 HST0.out.z));clear ho9 hg9 hat hlt9 hnb hba hga hHeld HOA hb9 hstA;refine hK.out _ _ HS9.out.2.five (fun hHeld=>?_);clear hK;try simp only[tkS]
   refine tkH 10 hHeld (v:=?_) ?_ ?_;rotate_left
   ·intro w h;(try dsimp only at h);go_simp;all_goals with_reducible rfl
   simp only[tkS];refine wpAnyH_done (by kernel_rfl) ?_ _;clear hHeld;go_wp2_with fail;go_meet
   case rel=>exact⟨_,_,r5++ [(gb,y)],by rw[if_pos HGE.out,HYY.out],by rw[List.length_append];rfl,by rw[List.length_append,List.length_singleton];omega,HO9.out,HS9.out.1⟩
  ·have HGE:=lhd hge;have hgb:¬gb≤en:=hge;clear hge;go_wp2_with fail;go_meet
   case rel=>exact⟨_,_,r5,by rw[if_neg (by have:=HGE.out;omega),List.append_nil],rfl,by omega,HO9.out,HS9.out.1⟩
 case rest=>
  obtain⟨A,C,r,hr,rfl,hrl,ho,hb⟩:=hcut;have HO6:=lhd ho;have HS6:=lhd (And.intro hb (HST0.out.later hb HST0.out.z));have HR:=lhd hr;clear ho hb hr s0 s1 s2 g0 g1 HO5 HO9 HS9;obtain⟨s0,s1,s2,g0,g1⟩:=HS6.out.2.five;have hl7:=zjS l (gb+1) 1099511627776;have HP6:=lhd (HPT.out (gb+1) 1099511627776 wc HS6.out.1);obtain⟨r8,hr8⟩:∃r8,zjP l (gb+1) 1099511627776=r8:=⟨_,rfl⟩;rw[hr8]at HP6 hl7;have HR8:=lhd hr8;clear hr8;go_wp2_with fail;refine HP6.out.mono ?_;rintro e w12 ⟨v12,rfl,ho12,hb12⟩;obtain⟨a12,c12,rfl,-,-⟩:=(SlR.of_own ho12).shape;have HS12:=lhd (SlR.of_own ho12);have HO12:=lhd (zba HO6.out hb12);have HB12:=lhd (zem HS6.out.1 hb12);clear ho12 hb12 HP6 HPT s0 s1 s2 g0 g1;have hwz:=HB12.out.size;go_wp2_with (at_builtin;refine zqW _ rfl _ _ 43 rfl w0.heap.size 53 i0 (.agg #[.int .i64 0,.string ⟨#[]⟩]) 2 24 Tryz.underlying43 hi iz0 iz1 iz2 rfl (by decide) _ _ _ rfl HO12.out a12 r8.length c12 (chs r8) rfl HS12.out (by rw[zco,Nat.mul_comm]) (zcq _) (by unfold maxLen;omega) (by omega) hwz ?_)
  intro v13 w13 ho13 hg13;have hb13:Below w0.heap.size w0 w13:=HB12.out.grown hg13 hwz (fun q hq=>(HO12.out.lt q hq).1);obtain⟨a13,c13,rfl,-,-⟩:=(SlR.of_own ho13).shape;have HO13:=lhd (zno a13 c13 r r8 ho13);have HST13:=lhd (HST0.out.later hb13 HST0.out.z);have HB13:=lhd hb13;clear ho13 hg13 hb13 HO12 HS12 HB12;obtain⟨s0,s1,s2,g0,g1⟩:=HST13.out.five;have HNM:=lhd (fun W (hW:Below w13.heap.size w13 W)=>zkU k n _ (r++r8) W (HO13.out.below hW) (by rw[List.length_append];omega));go_upto_region 5 with fail;refine wp_region_held_drew (S:=(fun w'=>w'.cell? ⟨w.heap.size,0,none⟩=some (.int .i64 k)∧w'.cell? ⟨w.heap.size,1,none⟩=some (.int .i64 n)∧w'.cell? ⟨w.heap.size,2,none⟩=some (.slice a l.length cap)∧w'.cell? ⟨w.heap.size+1,0,none⟩=some (.int .i64 ga)∧w'.cell? ⟨w.heap.size+1,1,none⟩=some (.int .i64 gb))) (by kernel_rfl) (HST13.out.drew).five (fun hHeld=>?_);have hbq:Below w13.heap.size w13 w13.drew:=(Below.refl _ _).drew;clear s0 s1 s2 g0 g1;generalize w13.drew=w14 at*;refine tkH 0 hHeld (v:=?_) ?_ ?_;rotate_left
  ·intro w h;(try dsimp only at h);go_simp;all_goals with_reducible rfl
  simp only[tkS];refine tkH 1 hHeld (v:=?_) ?_ ?_;rotate_left
  ·intro w h;(try dsimp only at h);go_simp;all_goals with_reducible rfl
  simp only[tkS];refine tkH 2 hHeld (v:=?_) ?_ ?_;rotate_left
  ·intro w h;(try dsimp only at h);go_simp;all_goals with_reducible rfl
  simp only[tkS];refine tkH 3 hHeld (v:=?_) ?_ ?_;rotate_left
  ·intro w h;(try dsimp only at h);go_simp;all_goals with_reducible rfl
  simp only[tkS];refine tkH 4 hHeld (v:=?_) ?_ ?_;rotate_left
  ·intro w h;(try dsimp only at h);go_simp;all_goals with_reducible rfl
  simp only[tkS];refine tkH 5 hHeld (v:=?_) ?_ ?_;rotate_left
  ·intro w h;(try dsimp only at h);go_simp;all_goals with_reducible rfl
  simp only[tkS];refine tkH 6 hHeld (v:=?_) ?_ ?_;rotate_left
  ·intro w h;(try dsimp only at h);go_simp;all_goals with_reducible rfl
  simp only[tkS];refine tkH 7 hHeld (v:=?_) ?_ ?_;rotate_left
  ·intro w h;(try dsimp only at h);go_simp;all_goals with_reducible rfl
  simp only[tkS];refine tkH 8 hHeld (v:=?_) ?_ ?_;rotate_left
  ·intro w h;(try dsimp only at h);go_simp;all_goals with_reducible rfl
  simp only[tkS];refine oneH 9 (fun K hK=>?_);go_simp;rw[←List.length_append];refine(HNM.out w14 hbq).mono ?_;rintro e w15 ⟨v15,rfl,ho15,hb15⟩;obtain⟨a15,c15,rfl,-,-⟩:=(SlR.of_own ho15).shape;have HB15:=lhd (zem HB13.out (zem hbq hb15));have HST15:=lhd (HST0.out.later HB15.out HST0.out.z);have HO15:=lhd (zjJ ho15 (show w0.heap.size≤w14.heap.size from by have:=hbq.size;have:=HB13.out.size;omega));clear hHeld hb15 ho15;have HRR:=lhd (show zjP l 0 (ga-1)++ [(ga,vi k n)]++(if gb≤en then [(gb,val (vi k n) l gb)]else [])++zjP l (gb+1) 1099511627776=r++r8 by rw[HR5.out,HR8.out,HR.out]);have HFIN:=lhd (HST15.out.fin (.int .i64 k) (.int .i64 n) (.slice a15 (zih k n (r++r8)).length c15));have z0:w15.cell? ⟨w.heap.size+1+1,0,none⟩=some (.int .i64 0):=HST15.out.r.cell (j:=0) rfl;have z1:w15.cell? ⟨w.heap.size+1+1,1,none⟩=some (.int .i64 0):=HST15.out.r.cell (j:=1) rfl;have z2:w15.cell? ⟨w.heap.size+1+1,2,none⟩=some (.slice none 0 0):=HST15.out.r.cell (j:=2) rfl;have y0:w15.frozen? ⟨w.heap.size+1+1,0,none⟩=false:=HST15.out.r.free (j:=0) (by simp);have y1:w15.frozen? ⟨w.heap.size+1+1,1,none⟩=false:=HST15.out.r.free (j:=1) (by simp);have y2:w15.frozen? ⟨w.heap.size+1+1,2,none⟩=false:=HST15.out.r.free (j:=2) (by simp);go_wp2_with fail;refine hK.out _ _ HST15.out.five (fun hHeld=>?_);clear hK;try simp only[tkS]
  refine tkH 10 hHeld (v:=?_) ?_ ?_;rotate_left
  ·intro w h;(try dsimp only at h);go_simp;all_goals with_reducible rfl
  simp only[tkS];refine oneH 11 (fun K hK=>?_);go_simp;clear hHeld;refine hK.out _ _ HFIN.out.1.1 (fun hHeld=>?_);clear hK;try simp only[tkS]
  refine wpAnyH_done (by kernel_rfl) ?_ _;clear hHeld z0 z1 z2 y0 y1 y2;obtain⟨⟨-,e0,e1,e2⟩,hbb⟩:=HFIN.out;go_wp2_with fail;refine bodyPost_ret (v:=.agg #[.int .i64 k,.int .i64 n,.slice a15 (zih k n (r++r8)).length c15]) (by simp[results,Tryz.results66,go_sem,e0,e1,e2]) rfl ?_;rw[show L0=r++r8 from HL0.out.trans HRR.out];exact⟨⟨_,rfl,zjJ (zjK HO15.out (by have:=HST0.out.z;omega) _ _ _) (by have:=HST0.out.b.size;omega)⟩,hbb⟩
end Go.Proofs.YtbiadennhnokhaaGreatDoor
