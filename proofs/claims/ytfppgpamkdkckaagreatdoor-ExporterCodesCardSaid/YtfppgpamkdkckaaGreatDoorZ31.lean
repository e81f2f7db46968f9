import Derived.Test.YtfppgpamkdkckaaGreatDoorZ00
import Derived.Test.YtfppgpamkdkckaaGreatDoorZ23
import Derived.Test.YtfppgpamkdkckaaGreatDoorZ24
import Derived.Test.YtfppgpamkdkckaaGreatDoorZ30
set_option maxRecDepth 100000
set_option maxHeartbeats 16000000
namespace Go.Proofs.YtfppgpamkdkckaaGreatDoor
open Go.RowKit
set_option linter.unusedSimpArgs false
theorem BI.grown {w W V:World} {t u:Tr} {p q:TP} (h:BI w t p u q W) (hvp:q.vp.ownBlock=none) {v:Value} {n:Nat} {xs:List Value} (ho:W.ownsRow (w.heap.size+2) 94 2 v n xs) (hg:W.grownBy V v.ownBlock):BI w t p u q V:=
 {x:=h.x.grown hg h.lt (fun e=>by have:=(zly ho e.symm).1;omega)
  s:=h.s.kept hg (zlo h.s ho (by decide))
  v:=h.v.kept hg (zlo h.v ho (by decide))
  g:=h.g.kept hg (zlo h.g ho (by decide))
  c:=fun x hx=>(h.c x hx).imp id (fun h0=>h0.kept hg (zlo h0 ho (by decide)))
  r:=h.r.kept hg (Or.inl hvp)
  m:=h.m
  b:=h.b.grown hg h.b.size (fun k e=>by have:=(zly ho e).1;omega)
  k:=h.k.grown hg h.lt2 (fun e=>by have:=(zly ho e.symm).1;omega)
  l:=h.l}
theorem BI.hit {w W:World} {t u:Tr} {p q:TP} (h:BI w t p u q W) (hvp:q.vp.ownBlock=none) {g c n:Nat} {xs:List Value} (ho:W.ownsRow (w.heap.size+2) 94 2 (.slice (some ⟨g,0,none⟩) n c) n xs) (o:Nat) (z:Value):BI w t p u q (W.setCell ⟨g,o,none⟩ z):=by
 have hlo:=zly ho (g:=g) rfl;exact
 {x:=h.x.other (by show g≠_;omega) _
  s:=ownsRow_setCell_other (a:=⟨g,o,none⟩) h.s (zlA h.s ho (by decide) rfl) _
  v:=ownsRow_setCell_other (a:=⟨g,o,none⟩) h.v (zlA h.v ho (by decide) rfl) _
  g:=ownsRow_setCell_other (a:=⟨g,o,none⟩) h.g (zlA h.g ho (by decide) rfl) _
  c:=fun x hx=>(h.c x hx).imp id (fun h0=>ownsRow_setCell_other (a:=⟨g,o,none⟩) h0 (zlA h0 ho (by decide) rfl) _)
  r:=ownsRow_setCell_other (a:=⟨g,o,none⟩) h.r (by rw[hvp];intro e;cases e) _
  m:=h.m
  b:=h.b.setCell (by show w.heap.size≤g;omega) _
  k:=h.k.other (by show g≠_;omega) _
  l:=h.l}
structure GpI (w:World) (t:Tr) (p:TP) (u:Tr) (q:TP) (acc:List Gp) (v:Value) (W:World):Prop where
 i:BI w t p u q W
 o:W.ownsRow (w.heap.size+2) 94 2 v acc.length (gps acc)
theorem GpI.next {w W V:World} {t u:Tr} {p q:TP} {acc:List Gp} {v:Value} (h:GpI w t p u q acc v W) (hb:Below W.heap.size W V):GpI w t p u q acc v V:=⟨h.i.next hb,za8 h.o hb⟩
theorem zgf (A:List Gp) (h:Gp) (m:Int):(gps (A++ [h])).set (A.length*2+1) (.int .i64 m)=gps (A++ [(h.1,m)]):=by
 rw[zgb,zgb,List.set_append,if_neg (by rw[zge];omega),zge,show A.length*2+1-2*A.length=1 by omega];rfl
theorem GpI.hit {w W:World} {t u:Tr} {p q:TP} {A:List Gp} {x:Gp} {g c:Nat} (h:GpI w t p u q (A++ [x]) (.slice (some ⟨g,0,none⟩) (A.length+1) c) W) (hvp:q.vp.ownBlock=none) (m:Int):
 GpI w t p u q (A++ [(x.1,m)]) (.slice (some ⟨g,0,none⟩) (A.length+1) c) (W.setCell ⟨g,A.length*2+1,none⟩ (.int .i64 m)):=by
 have ho:=h.o;have hl:(A++ [x]).length=A.length+1:=by simp
 have hl2:(A++ [(x.1,m)]).length=A.length+1:=by simp
 rw[hl]at ho;refine⟨h.i.hit hvp ho _ _,?_⟩;rw[hl2,←zgf];exact zlE ho _ _
def zaA (w:World) (t:Tr) (p:TP) (u:Tr) (r:Option (List Gp×Int)) (e:Ending) (W:World):Prop:=match r with
 |none=>zax w t p 2 u e W
 |some r=>zax w t p 0 {u with P:=r.1,en:=r.2} e W
theorem zqq (w W:World) (t u:Tr) (p q:TP) (h:BI w t p u q W) (ht:TrM w t p) (hvp:q.vp.ownBlock=none) (hl:t.P.length≤1000) (hl2:u.G.length≤1000) (hw:∀s∈u.G,s.2.2.length≤100000):
 Calls Tryz.prog 99 #[.pointer (some ⟨w.heap.size,0,none⟩)] W (zaA w t p u (zqB t u.G)):=by
 have HI:=lhd h;have HT:=lhd ht;have c7:=h.x.cell (j:=7) rfl;have c8:=h.x.cell (j:=8) rfl;obtain⟨pa,pc,ep,-,-⟩:=ht.q.shape;rw[ep]at c7;have HEP:=lhd ep;clear h ht ep;by_cases hen:t.en<0∨1099511627776<t.en
 ·have HR:=lhd (show zqB t u.G=none by unfold zqB;rw[if_pos hen]);rw[HR.out];obtain⟨en,hee⟩:∃en,t.en=en:=⟨_,rfl⟩;rw[hee]at c8 hen;by_cases h0:en<0
  ·go_enter Tryz.func99,Tryz.ntmps99;go_wp2_with fail;go_ret;exact⟨rfl,HI.out.b,fun h=>by cases h⟩
  ·have h1:(1099511627776:Int)<en:=by omega
   clear hen;go_enter Tryz.func99,Tryz.ntmps99;go_wp2_with fail;go_ret;exact⟨rfl,HI.out.b,fun h=>by cases h⟩
 ·obtain⟨en0,hee⟩:∃en,t.en=en:=⟨_,rfl⟩;have hen1:0≤en0:=by omega
  have hen2:en0≤1099511627776:=by omega
  have HTF:=lhd (show zqB t u.G=(zf2 0 [] t.en t.P).map fun r=>(r.1,zif u.G r.2)by unfold zqB;rw[if_neg hen]);rw[hee]at c8;have HEE:=lhd hee;have hz1:¬en0<0:=by omega
  have hz2:¬(1099511627776:Int)<en0:=by omega
  have HO0:=lhd (World.ownsRow_nil W (w.heap.size+2) 94 2);obtain⟨i0,hi,iz0,iz1,iz2⟩:=info_parts (P:=Tryz.prog) zga;clear hen hee;go_enter Tryz.func99,Tryz.ntmps99;go_wp2_with fail;clear hz1 hz2;go_loopw [29,3,4,5] (fun i e_ b_ v5 wr=>∃(k:Nat) (b en:Int) (acc:List Gp),k≤t.P.length∧i=.int .i64 k∧e_=.int .i64 en∧b_=.int .i64 b∧acc.length≤k∧zf2 b acc en (t.P.drop k)=zf2 0 [] t.en t.P∧0≤en∧en≤1099511627776∧GpI w t p u q acc v5 wr) (fun i _ _ _ _=>t.P.length-(intOf i).toNat)
  case atStart=>exact⟨0,0,en0,[],Nat.zero_le _,rfl,rfl,rfl,Nat.zero_le _,by rw[HEE.out];rfl,hen1,hen2,HI.out,HO0.out⟩
  case round=>
   obtain⟨k,b,en,acc,hk,rfl,rfl,rfl,hal,hgo,he1,he2,hc⟩:=hrel;have HGO:=lhd hgo;have HC:=lhd hc;clear hgo hc c7 c8;by_cases hlt:k<t.P.length
   ·have hsq:=(HT.out.q).below HC.out.i.b;rw[HEP.out]at hsq;obtain⟨gb,go_,rfl,hcell⟩:=hsq.gps hlt;have HDR:=lhd (List.drop_eq_getElem_cons hlt);generalize t.P[k]=x at*;obtain⟨g1,g2⟩:=x;have d0:wr.cell? ⟨gb,go_+k*2,none⟩=some (.int .i64 g1):=hcell 0 _ rfl;have d1:wr.cell? ⟨gb,go_+k*2+1,none⟩=some (.int .i64 g2):=hcell 1 _ rfl;have HBX:=lhd (show Below wr.heap.size wr (wr.alloc (.cells #[.int .i64 g1,.int .i64 g2] 94))from(Below.refl _ _).alloc (Nat.le_refl _) _);clear hcell hsq;by_cases h1:g1<b
    ·have b1:decide (g1<b)=true:=by simpa using h1
     have HR:=lhd (show zqB t u.G=none by
      rw[HTF.out,←HGO.out,HDR.out,zf3,if_pos (Or.inl h1)];rfl)
     rw[HR.out];have HI5:=lhd (HC.out.next HBX.out).i;clear HR HGO HDR;go_wp2_with fail;go_ret;exact⟨rfl,HI5.out.b,fun h=>by cases h⟩
    ·have b1:decide (g1<b)=false:=by simpa using h1
     by_cases h2:g1<0
     ·have b2:decide (g1<0)=true:=by simpa using h2
      have HR:=lhd (show zqB t u.G=none by
       rw[HTF.out,←HGO.out,HDR.out,zf3,if_pos (Or.inr (Or.inl h2))];rfl)
      rw[HR.out];have HI5:=lhd (HC.out.next HBX.out).i;clear HR HGO HDR;go_wp2_with fail;go_ret;exact⟨rfl,HI5.out.b,fun h=>by cases h⟩
     ·have b2:decide (g1<0)=false:=by simpa using h2
      by_cases h3:g2≤g1
      ·have b3:decide (g2≤g1)=true:=by simpa using h3
       have HR:=lhd (show zqB t u.G=none by
        rw[HTF.out,←HGO.out,HDR.out,zf3,if_pos (Or.inr (Or.inr (Or.inl h3)))];rfl)
       rw[HR.out];have HI5:=lhd (HC.out.next HBX.out).i;clear HR HGO HDR;go_wp2_with fail;go_ret;exact⟨rfl,HI5.out.b,fun h=>by cases h⟩
      ·have b3:decide (g2≤g1)=false:=by simpa using h3
       by_cases h4:1099511627777<g2
       ·have b4:decide ((1099511627777:Int)<g2)=true:=by simpa using h4
        have HR:=lhd (show zqB t u.G=none by
         rw[HTF.out,←HGO.out,HDR.out,zf3,if_pos (Or.inr (Or.inr (Or.inr h4)))];rfl)
        rw[HR.out];have HI5:=lhd (HC.out.next HBX.out).i;clear HR HGO HDR;go_wp2_with fail;go_ret;exact⟨rfl,HI5.out.b,fun h=>by cases h⟩
       ·have b4:decide ((1099511627777:Int)<g2)=false:=by simpa using h4
        have HG2:=lhd (show zf2 g1 (zaD acc (g1,g2)) (max en (g2-1)) (t.P.drop (k+1))=zf2 0 [] t.en t.P by
         rw[←HGO.out,HDR.out,zf3,if_neg (by omega)])
        have HC5:=lhd (HC.out.next HBX.out);have HXF:=lhd (zan.fresh wr #[.int .i64 g1,.int .i64 g2] 94);have hw5:wr.heap.size<(wr.alloc (.cells #[.int .i64 g1,.int .i64 g2] 94)).heap.size:=by simp
        rcases zpf acc with rfl|⟨A,⟨h1_,h2_⟩,rfl⟩
        ·obtain⟨ua,uc,rfl,-,-⟩:=(SlR.of_own HC.out.o).shape;have e0:=HXF.out.cell (j:=0) rfl;have e1:=HXF.out.cell (j:=1) rfl;rw[show([]:List Gp).length=0 from rfl]at*;go_wp2_with fail;generalize wr.alloc (.cells #[.int .i64 g1,.int .i64 g2] 94)=w5 at*;go_quiet (fail);have hb6:Below w5.heap.size w5 (w5.drewN nq):=za5 (Below.refl _ _) nq;have HC6:=lhd (HC5.out.next hb6);have HX6:=lhd (HXF.out.below hb6 hw5);have hw6:wr.heap.size<(w5.drewN nq).heap.size:=Nat.lt_of_lt_of_le hw5 hb6.size;clear hb6 e0 e1;generalize w5.drewN nq=w6 at*;have e0:=HX6.out.cell (j:=0) rfl;have e1:=HX6.out.cell (j:=1) rfl;have HNW:=lhd (World.news_of_block (w:=w6.alloc (.cells #[.int .i64 g1,.int .i64 g2] 94)) (cs:=#[.int .i64 g1,.int .i64 g2]) (t:=94) (fr:=(0,0)) (by exact heap_alloc_new _ _));have HBA:=lhd (show Below w6.heap.size w6 (w6.alloc (.cells #[.int .i64 g1,.int .i64 g2] 94))from(Below.refl _ _).alloc (Nat.le_refl _) _);have HC7:=lhd (HC6.out.next HBA.out);have HX7:=lhd (HX6.out.below HBA.out hw6);have hlow:=HC6.out.i.lt2;have HLO:=lhd (fun gq (e:Value.ownBlock (.slice ua 0 uc)=some gq)=>(zly HC.out.o e).2);have hml:([]:List Gp).length≤1000:=by first|(simp;done)|(simp;omega)
         go_wp2_with (at_builtin;refine wpList_append_own_at _ rfl _ _ 30 rfl (w.heap.size+2) 94 i0 (.agg #[.int .i64 0,.int .i64 0]) 2 16 Tryz.underlying30 hi iz0 iz1 iz2 rfl (by decide) _ _ _ rfl HC7.out.o ⟨w6.heap.size,0,none⟩ 1 1 [.int .i64 g1,.int .i64 g2] rfl rfl HNW.out (by simp[Value.oneCell']) (by unfold maxLen;omega) (by omega) (by simp;omega) ?_)
         intro v8 w8 ho8 hg8 _ _;have HC8:=lhd (show GpI w t p u q ([(g1,g2)]) v8 w8 from⟨HC7.out.i.grown hvp HC7.out.o hg8,by have:=ho8;simpa[zgb,gps,gpC] using this⟩);have HX8:=lhd (HX7.out.grown hg8 (Nat.lt_of_lt_of_le hw6 HBA.out.size) (fun e=>by have:=HLO.out _ e.symm;omega));have HG3:=HG2.out;rw[zaG,←zaG (g1,g2),zaG]at HG3;have HG3:=lhd HG3;clear ho8 hg8 e0 e1 HC7 HX7 HC6 HX6;have e1:=HX8.out.cell (j:=1) rfl;go_wp2_with fail;go_roundw;case rel=>exact⟨k+1,g1,max en (g2-1),[(g1,g2)],hlt,by go_num,by go_num,rfl,by first|(simp;done)|(simp;omega),HG3.out,by omega,by omega,HC8.out⟩
         case measure=>simp[intOf];omega
        ·have ho5:=HC5.out.o;have hlA:(A++ [(h1_,h2_)]).length=A.length+1:=by simp
         rw[hlA]at ho5 hal;obtain⟨g,c,rfl,-,hg1,hg2,hat⟩:=zlp ho5 (by omega);have k1:=hat (A.length*2+1) (.int .i64 h2_) (by rw[zgb,List.getElem?_append_right (by rw[zge];omega),zge,show A.length*2+1-2*A.length=1 by omega];rfl);have z1:=zlw ho5 (A.length*2+1);have e0:=HXF.out.cell (j:=0) rfl;have e1:=HXF.out.cell (j:=1) rfl;clear hat ho5;by_cases hh:g1≤h2_
         ·have bh:decide (g1≤h2_)=true:=by simpa using hh
          have HCH:=lhd (fun(n:Nat) (m:Int)=>(show GpI w t p u q (A++ [(h1_,h2_)]) (.slice (some ⟨g,0,none⟩) (A.length+1) c) _ from HC5.out.next (za5 (Below.refl _ _) n)).hit (A:=A) hvp m);go_wp2_with fail;generalize wr.alloc (.cells #[.int .i64 g1,.int .i64 g2] 94)=w5 at*;go_quiet (fail);go_wp2_with fail;go_region
          have HC8:=lhd (HCH.out (nq+1) (max h2_ g2));have HX8:=lhd ((HXF.out.below (za5 (Below.refl _ _) (nq+1)) hw5).other (a:=⟨g,A.length*2+1,none⟩) (by show g≠wr.heap.size;have:=(zly HC.out.o (g:=g) rfl).2;omega) (.int .i64 (max h2_ g2)));have HG3:=HG2.out;rw[zaH,if_pos hh]at HG3;have HG3:=lhd HG3;clear e0 e1 k1 z1 HCH;generalize (w5.drewN (nq+1)).setCell ⟨g,A.length*2+1,none⟩ (.int .i64 (max h2_ g2))=w8 at*;have e1:=HX8.out.cell (j:=1) rfl;go_wp2_with fail;go_roundw;case rel=>exact⟨k+1,g1,max en (g2-1),A++ [(h1_,max h2_ g2)],hlt,by go_num,by go_num,rfl,by simp;omega,HG3.out,by omega,by omega,HC8.out⟩
          case measure=>simp[intOf];omega
         ·have bh:decide (g1≤h2_)=false:=by simpa using hh
          go_wp2_with fail;generalize wr.alloc (.cells #[.int .i64 g1,.int .i64 g2] 94)=w5 at*;go_quiet (fail);have hb6:Below w5.heap.size w5 (w5.drewN nq):=za5 (Below.refl _ _) nq;have HC6:=lhd (HC5.out.next hb6);have HX6:=lhd (HXF.out.below hb6 hw5);have hw6:wr.heap.size<(w5.drewN nq).heap.size:=Nat.lt_of_lt_of_le hw5 hb6.size;clear hb6 e0 e1;generalize w5.drewN nq=w6 at*;have e0:=HX6.out.cell (j:=0) rfl;have e1:=HX6.out.cell (j:=1) rfl;have HNW:=lhd (World.news_of_block (w:=w6.alloc (.cells #[.int .i64 g1,.int .i64 g2] 94)) (cs:=#[.int .i64 g1,.int .i64 g2]) (t:=94) (fr:=(0,0)) (by exact heap_alloc_new _ _));have HBA:=lhd (show Below w6.heap.size w6 (w6.alloc (.cells #[.int .i64 g1,.int .i64 g2] 94))from(Below.refl _ _).alloc (Nat.le_refl _) _);have HC7:=lhd (HC6.out.next HBA.out);have HX7:=lhd (HX6.out.below HBA.out hw6);have hlow:=HC6.out.i.lt2;have HLO:=lhd (fun gq (e:Value.ownBlock (.slice (some ⟨g,0,none⟩) (A.length+1) c)=some gq)=>(zly HC.out.o e).2);have hml:((A++ [(h1_,h2_)]):List Gp).length≤1000:=by first|(simp;done)|(simp;omega)
          go_wp2_with (at_builtin;refine wpList_append_own_at _ rfl _ _ 30 rfl (w.heap.size+2) 94 i0 (.agg #[.int .i64 0,.int .i64 0]) 2 16 Tryz.underlying30 hi iz0 iz1 iz2 rfl (by decide) _ _ _ rfl HC7.out.o ⟨w6.heap.size,0,none⟩ 1 1 [.int .i64 g1,.int .i64 g2] rfl rfl HNW.out (by simp[Value.oneCell']) (by unfold maxLen;omega) (by omega) (by simp;omega) ?_)
          intro v8 w8 ho8 hg8 _ _;have HC8:=lhd (show GpI w t p u q (A++ [(h1_,h2_)]++ [(g1,g2)]) v8 w8 from⟨HC7.out.i.grown hvp HC7.out.o hg8,by have:=ho8;simpa[zgb,gps,gpC] using this⟩);have HX8:=lhd (HX7.out.grown hg8 (Nat.lt_of_lt_of_le hw6 HBA.out.size) (fun e=>by have:=HLO.out _ e.symm;omega));have HG3:=HG2.out;rw[zaH,if_neg (show ¬g1≤h2_ by omega)]at HG3;have HG3:=lhd HG3;clear ho8 hg8 e0 e1 HC7 HX7 HC6 HX6;have e1:=HX8.out.cell (j:=1) rfl;go_wp2_with fail;go_roundw;case rel=>exact⟨k+1,g1,max en (g2-1),A++ [(h1_,h2_)]++ [(g1,g2)],hlt,by go_num,by go_num,rfl,by first|(simp;done)|(simp;omega),HG3.out,by omega,by omega,HC8.out⟩
          case measure=>simp[intOf];omega
   ·obtain rfl:k=t.P.length:=by omega
    have HTF2:=lhd (show zqB t u.G=some (acc,zif u.G en)by
     rw[HTF.out,←HGO.out,List.drop_length];rfl)
    have c15:=HC.out.i.x.cell (j:=15) rfl;obtain⟨ga,gc,eg⟩:=HC.out.i.vgk;have hML:=HC.out.i.ml;obtain⟨n,hn⟩:∃n,q.M.length=n:=⟨_,rfl⟩;have hn2:n≤1000:=by rw[←hn,hML];exact hl2
    have HN:=lhd (show u.G.length=n by rw[←hML];exact hn);rw[eg,hn]at c15;rw[hn]at eg;have HEG:=lhd eg;have HMN:=lhd hn;have HM:=lhd HC.out.i.m;clear hML hn eg hl2 HGO HTF hlt;obtain⟨ua,uc,rfl,-,-⟩:=(SlR.of_own HC.out.o).shape;have hal2:acc.length≤1000:=by omega
    go_wp2_with fail;go_loopw [101,3] (fun i e_ wr2=>∃(k:Nat) (e2:Int),k≤n∧i=.int .i64 k∧e_=.int .i64 e2∧zif (u.G.drop k) e2=zif u.G en∧GpI w t p u q acc (.slice ua acc.length uc) wr2) (fun i _ _=>n-(intOf i).toNat)
    case atStart=>exact⟨0,en,Nat.zero_le _,rfl,rfl,rfl,HC.out⟩
    case round=>
     obtain⟨k,e2,hk2,rfl,rfl,hla,hc2⟩:=hrel;have HLA:=lhd hla;have HC2:=lhd hc2;clear hla hc2 c15;by_cases hlt:k<n
     ·have hku:k<u.G.length:=by rw[HN.out];exact hlt
      have hkm:k<q.M.length:=by rw[HMN.out];exact hlt
      have hMk:q.M[k].1=u.G[k]:=by
       have h1:(q.M.map Prod.fst)[k]? =some q.M[k].1:=by rw[List.getElem?_map,List.getElem?_eq_getElem hkm];rfl
       rw[HM.out,List.getElem?_eq_getElem hku]at h1;exact(Option.some.inj h1).symm
      obtain⟨g,c,eg2,hg1,hg2,s0,s1,s2,s3⟩:=HC2.out.i.sg hkm;have eg3:=HEG.out;rw[eg2]at eg3;injection eg3 with eg3 _ eg4;subst eg3 eg4;have hww:=hw _ (List.getElem_mem hku);have HDR:=lhd (List.drop_eq_getElem_cons hku);rw[hMk]at s0 s1 s3;generalize u.G[k]=x at*;obtain⟨kd,wd,cl⟩:=x;dsimp only at s0 s1 s2 s3 hww;generalize q.M[k].2=vx at*;obtain⟨xa,xc,rfl,-,-⟩:=s3.shape;have HBX:=lhd (show Below wr.heap.size wr (wr.alloc (.cells #[.int .i64 kd,.int .i64 wd,.slice xa cl.length xc] 60))from(Below.refl _ _).alloc (Nat.le_refl _) _);have HC3:=lhd (HC2.out.next HBX.out);rcases zpf cl with rfl|⟨B,⟨ct,cv⟩,rfl⟩
      ·have HL2:=lhd (show zif (u.G.drop (k+1)) e2=zif u.G en by rw[←HLA.out,HDR.out];rfl);rw[show([]:List Ch).length=0 from rfl]at*;clear s3;go_wp2_with fail;go_roundw;case rel=>exact⟨k+1,e2,hlt,by go_num,rfl,HL2.out,HC3.out⟩
       case measure=>simp[intOf];omega
      ·have HL2:=lhd (show zif (u.G.drop (k+1)) (max e2 ct)=zif u.G en by rw[←HLA.out,HDR.out];unfold zif;rw[List.foldl_cons];simp);obtain⟨xb,xo,xcap,ev,-,-,hat⟩:=s3.at (by simp);injection ev with ev evn evc;subst ev evc;clear evn;have hlB:(B++ [(ct,cv)]).length=B.length+1:=by simp
       have d0:wr.cell? ⟨xb,xo+B.length*2,none⟩=some (.int .i64 ct):=by
        refine hat (B.length*2) _ ?_;have:=(zcg (B++ [(ct,cv)]) B.length (by simp)).1;rw[Nat.mul_comm];simpa using this
       rw[hlB]at hww s2 HBX HC3;have hxb:xb<wr.heap.size:=zbU d0;rw[←HBX.out.cell (p:=⟨xb,xo+B.length*2,none⟩) hxb]at d0;clear s3 hat;go_wp2_with fail;go_roundw;case rel=>exact⟨k+1,max e2 ct,hlt,by go_num,by go_num,HL2.out,HC3.out⟩
       case measure=>simp[intOf];omega
     ·obtain rfl:k=n:=by omega
      have hla:=HLA.out;rw[List.drop_of_length_le (by rw[HN.out];exact Nat.le_refl _)]at hla;obtain rfl:e2=zif u.G en:=hla;have f16:=HC2.out.i.x.free (j:=16) (by simp[trC]);have f17:=HC2.out.i.x.free (j:=17) (by simp[trC]);have c16:=HC2.out.i.x.cell (j:=16) rfl;have c17:=HC2.out.i.x.cell (j:=17) rfl;have hbi:=HC2.out.i;have hF:=hbi.set (j:=16) (by decide) (.slice ua acc.length uc) (u':={u with P:=acc}) (q':={q with vp:=.slice ua acc.length uc}) rfl (zlt hbi.s _ _) (zlt hbi.v _ _) (zlt hbi.g _ _) (fun x hx=>(hbi.c x hx).imp id (fun h=>zlt h _ _)) (zlt HC2.out.o _ _) hbi.m;have HF:=lhd (hF.put (j:=17) (by decide) (.int .i64 (zif u.G en)) (u':={u with P:=acc,en:=zif u.G en}) rfl rfl rfl rfl rfl);clear hbi hF;go_wp2_with fail;go_ret;rw[HTF2.out];exact⟨rfl,HF.out.b,fun _=>⟨_,HF.out⟩⟩
theorem zkb:∀(l:List Vr) (fm:List Int),(numF fm l).2.length≤fm.length+l.length
 | [],fm=>by simp[numF]
 |v::l,fm=>by
  by_cases h:fm.contains v.sg=true
  ·rw[zjW h];have:=zkb l fm;simp;omega
  ·rw[zjX h];have:=zkb l (fm++ [v.sg]);simp at this⊢;omega
theorem zlg {S:List Sc} {V:List Vr} (h:(zll S V).2.2.2=0):(∀n∈(zll S V).2.2.1,0≤n)∧(zll S V).2.2.1.length≤V.length:=by
 unfold zll at h⊢;by_cases he:zb6 S V=0
 ·rw[if_neg (by simp[he])];dsimp only;unfold vrF;refine⟨fun n hn=>?_,?_⟩
  ·rcases zkf _ _ n hn with h1|⟨v,hv,rfl⟩
   ·cases h1
   ·unfold vr2 at hv;rw[zho]at hv;obtain⟨y,hy,rfl⟩:=List.mem_map.1 hv
    have hd:zdX S V=true:=by
     rw[zce]at he;exact he.d
    exact(zd2 hd y hy).2.2
  ·have:=zkb (vr2 S V) [];unfold vr2 at this⊢;rw[zhn]at this;simpa[vr1] using this
 ·rw[if_pos he]at h;exact absurd h he
theorem BI.push {w W V:World} {t u:Tr} {p q:TP} (h:BI w t p u q W) {x:Sg} {vx v8:Value} {n:Nat} (ho:V.ownsRow (w.heap.size+2) 60 3 v8 n (sgs q.M++sgs [(x,vx)])) (hn:n=q.M.length+1) (hg:W.grownBy V q.vg.ownBlock)
 (hc:(x,vx)∈p.M):BI w t p {u with G:=u.G++ [x]} {q with vg:=v8,M:=q.M++ [(x,vx)]} (V.setCell ⟨w.heap.size,15,none⟩ v8):=by
 have hx:zan V w.heap.size (trC t p++trC u q):=h.x.grown hg h.lt (fun e=>by have:=(zly h.g e.symm).1;omega);exact
 {x:=by
   have:=hx.set (j:=15) (by simp[trC]) v8;exact this
  s:=zlt (h.s.kept hg (zlo h.s h.g (by decide))) _ _
  v:=zlt (h.v.kept hg (zlo h.v h.g (by decide))) _ _
  g:=zlt (by rw[zoG,List.length_append];subst hn;exact ho) _ _
  c:=fun y hy=>by
   rcases List.mem_append.1 hy with hy|hy
   ·exact(h.c y hy).imp id (fun h0=>zlt (h0.kept hg (zlo h0 h.g (by decide))) _ _)
   ·obtain rfl:=List.mem_singleton.1 hy;exact Or.inl hc
  r:=zlt (h.r.kept hg (zlo h.r h.g (by decide))) _ _
  m:=by rw[List.map_append,h.m];rfl
  b:=(h.b.grown hg h.b.size (fun k e=>by have:=(zly h.g e).1;omega)).setCell (by simp) _
  k:=(h.k.grown hg h.lt2 (fun e=>by have:=(zly h.g e.symm).1;omega)).other (a:=⟨w.heap.size,15,none⟩) (by show w.heap.size≠w.heap.size+1;omega) _
  l:=h.l}
theorem zqp (w W:World) (t u:Tr) (p q:TP) (h:BI w t p u q W) (ht:TrM w t p) (hG:u.G=[]) (hl:t.S.length≤1000∧t.V.length≤1000) (hn:(∀s∈t.S,s.1.length≤100000)∧∀x∈t.V,x.nm.length≤100000)
 (hsg:∀x∈t.V,(Lit.int .i64 x.sg).wf=true):
 Calls Tryz.prog 96 #[.pointer (some ⟨w.heap.size,0,none⟩)] W fun e W'=>zay w t p q.vp (zdV t) {u with S:=(zll t.S t.V).1,V:=(zll t.S t.V).2.1,G:=sig1 t} e W':=by
 have HI:=lhd h;have HT:=lhd ht;have hwz:=h.lt;have hwz2:=h.lt2;have hbs:=h.b.size;have HOR:=lhd (fun(V:World) (hb:Below w.heap.size w V)=>zgr p.vs p.vv t.S t.V V ((ht.s).below hb) (ht.v.below hb) hl hn hsg);have HON:=lhd (fun h=>zlg (S:=t.S) (V:=t.V) h);have HDE:=lhd (show zdV t=if(zll t.S t.V).2.2.2≠0 then(zll t.S t.V).2.2.2 else if(zll t.S t.V).2.2.1.any (fun n=>decide ((t.G.length:Int)≤n))=true then 1 else if 64<(zll t.S t.V).2.2.1.length then 9 else 0 from rfl);have HS1:=lhd (show sig1 t=(zll t.S t.V).2.2.1.map (sgI t.G)from rfl);obtain⟨⟨oS,oV,oN,oE⟩,hO⟩:∃r,r=zll t.S t.V:=⟨_,rfl⟩;rw[←hO]at HOR HON HDE HS1⊢;dsimp only at HON HDE HS1⊢;obtain⟨sa,sc_,es,-,-⟩:=ht.s.shape;obtain⟨va,vc_,ev,-,-⟩:=ht.v.shape;rw[es,ev]at HOR;have c4:=h.x.cell (j:=4) rfl;have c5:=h.x.cell (j:=5) rfl;rw[es]at c4;rw[ev]at c5;obtain⟨ga,gc,eg,-,-⟩:=ht.g.s.shape;have hGL:=ht.len;have c6:=h.x.cell (j:=6) rfl;rw[eg,hGL]at c6;have HEG:=lhd eg;clear h ht hn hsg es ev hO eg;go_enter Tryz.func96,Tryz.ntmps96;go_wp2_with fail;refine ztT (S:=fun w'=>w'.cell? ⟨w.heap.size,4,none⟩=some (.slice sa t.S.length sc_)∧w'.cell? ⟨w.heap.size,5,none⟩=some (.slice va t.V.length vc_)) (X:=fun _=>false) (by kernel_rfl) ?_;refine tkX 0 (by go_simp) (v:=?_) ?_;simp only[tkS];refine tkX 1 (by go_simp) (v:=?_) ?_;simp only[tkS];refine tkX 2 (by go_simp) (v:=?_) ?_;simp only[tkS];refine tkX 3 (by go_simp) (v:=?_) ?_;simp only[tkS];refine tkX 4 (by go_simp) (v:=?_) ?_;simp only[tkS];refine tkX 5 (by go_simp) (v:=?_) ?_;simp only[tkS];refine tkX 6 (by go_simp) (v:=?_) ?_;simp only[tkS];refine tkX 7 (by go_simp) (v:=?_) ?_;simp only[tkS];refine tkX 8 (by go_simp) (v:=?_) ?_;simp only[tkS];refine tkX 9 (by go_simp) (v:=?_) ?_;simp only[tkS];refine ztL (i:=10) (by kernel_rfl) rfl (fun K hK=>?_);go_simp;refine(HOR.out W.drew (HI.out.b.drew)).mono ?_;rintro e w1 ⟨v1,v2,v3,rfl,ho1,ho2,ho3,hb1⟩;dsimp only at ho1 ho2 ho3⊢;have HI1:=lhd (HI.out.drew.next hb1);obtain⟨a1,k1,rfl,-,-⟩:=(SlR.of_own ho1).shape;obtain⟨a2,k2,rfl,-,-⟩:=(SlR.of_own ho2).shape;obtain⟨a3,k3,rfl,-,-⟩:=(SlR.of_own ho3).shape;have hsz:w.heap.size+2≤W.drew.heap.size:=hwz2;have HO1:=lhd (zlI ho1 hsz);have HO2:=lhd (zlI ho2 hsz);have HO3:=lhd (zlI ho3 hsz);have c4:=(hb1.cell (p:=⟨w.heap.size,4,none⟩) (by show w.heap.size<_;omega)).trans c4;have c5:=(hb1.cell (p:=⟨w.heap.size,5,none⟩) (by show w.heap.size<_;omega)).trans c5;clear ho1 ho2 ho3 hb1;refine hK.out _ _ (fun _=>⟨c4,c5⟩) ?_;clear hK;try simp only[tkS]
 refine ztL (i:=11) (by kernel_rfl) rfl (fun K hK=>?_);go_simp;refine hK.out _ _ (fun _=>⟨c4,c5⟩) ?_;clear hK;try simp only[tkS]
 refine tkX 12 (by go_simp) (v:=?_) ?_;simp only[tkS];refine tkX 13 (by go_simp) (v:=?_) ?_;simp only[tkS];refine tkX 14 (by go_simp) (v:=?_) ?_;simp only[tkS];refine tkX 15 (by go_simp) (v:=?_) ?_;simp only[tkS];refine ztL (i:=16) (by kernel_rfl) rfl (fun K hK=>?_);go_simp;refine hK.out _ _ (fun _=>⟨c4,c5⟩) ?_;clear hK;try simp only[tkS]
 refine ztL (i:=17) (by kernel_rfl) rfl (fun K hK=>?_);go_simp;refine hK.out _ _ (fun _=>⟨c4,c5⟩) ?_;clear hK;try simp only[tkS]
 refine ztL (i:=18) (by kernel_rfl) rfl (fun K hK=>?_);go_simp;refine hK.out _ _ (fun _=>⟨c4,c5⟩) ?_;clear hK;try simp only[tkS]
 refine ztL (i:=19) (by kernel_rfl) rfl (fun K hK=>?_);go_simp;refine hK.out _ _ (fun _=>⟨c4,c5⟩) ?_;clear hK;try simp only[tkS]
 refine⟨by kernel_rfl,?_⟩;clear c4 c5 c6;by_cases hE:oE=0
 ·subst hE;obtain⟨hn0,hnl⟩:=HON.out rfl;have hN1:oN.length≤1000:=by omega
  have HN0:=lhd hn0;have hde:=HDE.out;rw[if_neg (by simp)]at hde;have HDE2:=lhd hde;have c6:=HI1.out.x.cell (j:=6) rfl;rw[HEG.out,hGL]at c6;have HB1:=lhd (Below.refl w1.heap.size w1);clear hde hn0 HDE HON HOR;go_wp2_with fail;go_loopw [32] (fun i wr=>∃k:Nat,k≤oN.length∧i=.int .i64 k∧(oN.take k).any (fun n=>decide ((t.G.length:Int)≤n))=false∧Below w1.heap.size w1 wr) (fun i _=>oN.length-(intOf i).toNat)
  case atStart=>exact⟨0,Nat.zero_le _,rfl,rfl,HB1.out⟩
  case round=>
   obtain⟨k,hk,rfl,han,hb⟩:=hrel;have HAN:=lhd han;have HB:=lhd hb;have HI2:=lhd (HI1.out.next hb);have HO32:=lhd (za8 HO3.out hb);have HO12:=lhd (za8 HO1.out hb);have HO22:=lhd (za8 HO2.out hb);clear han hb c6;by_cases hlt:k<oN.length
   ·obtain⟨b3,o3,cap3,e3,-,-,hat⟩:=(SlR.of_own HO32.out).at (by omega);injection e3 with e3 _ e4;subst e3 e4;have d0:wr.cell? ⟨b3,o3+k,none⟩=some (.int .i64 oN[k]):=hat k _ (by simp[ints,hlt])
    have HTK:=lhd (show(oN.take (k+1)).any (fun n=>decide ((t.G.length:Int)≤n))=((oN.take k).any (fun n=>decide ((t.G.length:Int)≤n))||decide ((t.G.length:Int)≤oN[k]))by
     rw[List.take_succ_eq_append_getElem hlt,List.any_append];simp)
    have HMM:=lhd (List.getElem_mem hlt);have c6:=HI2.out.x.cell (j:=6) rfl;rw[HEG.out,hGL]at c6;clear hat;generalize oN[k]=x at*;by_cases hx:(t.G.length:Int)≤x
    ·have bx:decide ((t.G.length:Int)≤x)=true:=by simpa using hx
     have hde:=HDE2.out;rw[if_pos (by rw[List.any_eq_true];exact⟨x,HMM.out,bx⟩)]at hde;have HR:=lhd hde;clear hde;go_wp2_with fail;go_ret;exact⟨znd HR.out.symm,HI2.out.b,fun h=>by rw[HR.out]at h;cases h⟩
    ·have bx:decide ((t.G.length:Int)≤x)=false:=by simpa using hx
     have HAN2:=lhd (show(oN.take (k+1)).any (fun n=>decide ((t.G.length:Int)≤n))=false by rw[HTK.out,HAN.out,bx];rfl);go_wp2_with fail;go_roundw;case rel=>exact⟨k+1,hlt,by go_num,HAN2.out,HB.out⟩
     case measure=>simp[intOf];omega
   ·obtain rfl:k=oN.length:=by omega
    have hde:=HDE2.out;have han:=HAN.out;rw[List.take_length]at han;rw[if_neg (by rw[han];simp)]at hde
    have HAN3:=lhd (show ∀x∈oN,x<(t.G.length:Int)from fun x hx=>by
     rw[List.any_eq_false]at han;have:=han x hx;simpa using this)
    by_cases h64:64<oN.length
    ·rw[if_pos h64]at hde;have HR:=lhd hde;have b64:(64:Int)<(oN.length:Int):=by omega
     clear hde han;go_wp2_with fail;go_ret;exact⟨znd HR.out.symm,HI2.out.b,fun h=>by rw[HR.out]at h;cases h⟩
    ·rw[if_neg h64]at hde;have HR:=lhd hde;have b64:¬(64:Int)<(oN.length:Int):=by omega
     clear hde han hlt;have f13:=HI2.out.x.free (j:=13) (by simp[trC]);have f14:=HI2.out.x.free (j:=14) (by simp[trC]);have c13:=HI2.out.x.cell (j:=13) rfl;have c14:=HI2.out.x.cell (j:=14) rfl;have hbi:=HI2.out;have hF:=hbi.set (j:=13) (by decide) (.slice a1 oS.length k1) (u':={u with S:=oS}) (q':={q with vs:=.slice a1 oS.length k1}) rfl (zlt HO12.out _ _) (zlt hbi.v _ _) (zlt hbi.g _ _) (fun x hx=>(hbi.c x hx).imp id (fun h=>zlt h _ _)) (zlt hbi.r _ _) hbi.m;have hF2:=hF.set (j:=14) (by decide) (.slice a2 oV.length k2) (u':={u with S:=oS,V:=oV}) (q':={q with vs:=.slice a1 oS.length k1,vv:=.slice a2 oV.length k2}) rfl (zlt hF.s _ _) (zlt (zlt HO22.out _ _) _ _) (zlt hF.g _ _) (fun x hx=>(hF.c x hx).imp id (fun h=>zlt h _ _)) (zlt hF.r _ _) hF.m;have HF:=lhd hF2;have HO33:=lhd (zlt (zlt HO32.out 13 (.slice a1 oS.length k1)) 14 (.slice a2 oV.length k2));clear hbi hF hF2;go_wp2_with fail;clear c13 c14 f13 f14;generalize (wr.setCell ⟨w.heap.size,13,none⟩ (.slice a1 oS.length k1)).setCell ⟨w.heap.size,14,none⟩ (.slice a2 oV.length k2)=w3 at*;have HM0:=lhd (show q.M=[]by have:=HI1.out.m;rw[hG]at this;exact List.map_eq_nil_iff.1 this);obtain⟨i0,hi,iz0,iz1,iz2⟩:=info_parts (P:=Tryz.prog) zoF;have HBW0:=lhd (show BI w t p {u with S:=oS,V:=oV,G:=[].map (sgI t.G)} {q with vs:=.slice a1 oS.length k1,vv:=.slice a2 oV.length k2} w3 by have:=HF.out;rw[hG]at this;exact this);go_loopw [60] (fun i wq=>∃(k:Nat) (q':TP),k≤oN.length∧i=.int .i64 k∧BI w t p {u with S:=oS,V:=oV,G:=(oN.take k).map (sgI t.G)} q' wq∧q'.vp=q.vp∧wq.ownsRow (w.heap.size+2) 3 1 (.slice a3 oN.length k3) oN.length (ints oN)) (fun i _=>oN.length-(intOf i).toNat)
     case atStart=>exact⟨0,_,Nat.zero_le _,rfl,HBW0.out,rfl,HO33.out⟩
     case round=>
      obtain⟨k,q',hk,rfl,hbi,hvp,hon⟩:=hrel;have HVP:=lhd hvp;clear hvp;have HI5:=lhd hbi;have HN5:=lhd hon;clear hbi hon;by_cases hlt:k<oN.length
      ·obtain⟨b3,c3,e3,-,-,-,hat⟩:=zlp HN5.out (by omega);injection e3 with e3 _ e4;subst e3 e4;have d0:wr.cell? ⟨b3,k,none⟩=some (.int .i64 oN[k]):=hat k _ (by simp[ints,hlt]);have hx1:=HN0.out _ (List.getElem_mem hlt);have hx2:=HAN3.out _ (List.getElem_mem hlt)
       have HTK:=lhd (show(oN.take (k+1)).map (sgI t.G)=(oN.take k).map (sgI t.G)++ [sgI t.G oN[k]]by
        rw[List.take_succ_eq_append_getElem hlt,List.map_append];rfl)
       generalize oN[k]=x at*;obtain⟨m,rfl⟩:∃m:Nat,x=m:=⟨x.toNat,by omega⟩;have hm:m<p.M.length:=by rw[hGL];omega
       have hsgs:=HT.out.g.below HI5.out.b;rw[HEG.out]at hsgs;obtain⟨gb,go_,eg5,s0,s1,s2,s3⟩:=hsgs.at hm;have hsw:=HT.out.g.m _ (List.getElem_mem hm);have hmem:=List.getElem_mem hm
       have HSI:=lhd (show sgI t.G (m:Int)=p.M[m].1 by
        unfold sgI;rw[←HT.out.m,Int.toNat_natCast];simp[List.getD,hm])
       have hgbz:gb<wr.heap.size:=zbU s0;subst eg5
       have hgbl:gb<w.heap.size:=by
        obtain⟨b',o',e',t0,-⟩:=(show Sigs w (.slice (some ⟨gb,go_,none⟩) p.M.length gc) p.M by have:=HT.out.g;rwa [HEG.out]at this).at hm;injection e' with e';injection e' with e1 _ _;subst e1;exact zbU t0
       have c15:=HI5.out.x.cell (j:=15) rfl;have f15:=HI5.out.x.free (j:=15) (by simp[trC]);have c6:=HI5.out.x.cell (j:=6) rfl;rw[HEG.out,hGL]at c6;obtain⟨ua,uc,eug⟩:=HI5.out.vgk;rw[eug]at c15;have HEU:=lhd eug;have hum:q'.M.length≤1000:=by rw[HI5.out.ml];simp;omega
       generalize p.M[m]=y at*;obtain⟨⟨kd,wd,cl⟩,vx⟩:=y;dsimp only at s0 s1 s2 s3 hsw;obtain⟨xa,xc,rfl,-,-⟩:=hsw.shape;have HSW:=lhd hmem;have hlow:=HI5.out.lt;have hlow2:=HI5.out.lt2;clear hat hsgs s3 hsw eug hmem;go_wp2_with fail;refine ztT (S:=fun w'=>w'.cell? ⟨w.heap.size,15,none⟩=some (.slice ua q'.M.length uc)∧w'.cell? ⟨w.heap.size,6,none⟩=some (.slice (some ⟨gb,go_,none⟩) t.G.length gc)∧w'.cell? ⟨gb,go_+m*3,none⟩=some (.int .i64 kd)∧w'.cell? ⟨gb,go_+m*3+1,none⟩=some (.int .i64 wd)∧w'.cell? ⟨gb,go_+m*3+2,none⟩=some (.slice xa cl.length xc)) (X:=fun j=>decide (16≤j)) (by kernel_rfl) ?_;have HI5d:=lhd HI5.out.drew;have HN5d:=lhd HN5.out.drew;have c15:=(World.cell?_drewN wr 1 _).trans c15;have c6:=(World.cell?_drewN wr 1 _).trans c6;have s0:=(World.cell?_drewN wr 1 _).trans s0;have s1:=(World.cell?_drewN wr 1 _).trans s1;have s2:=(World.cell?_drewN wr 1 _).trans s2;rw[←World.drew_is_drewN]at c15 c6 s0 s1 s2;have hgbz:=(show gb<wr.drew.heap.size from hgbz);have hlow:=(show w.heap.size<wr.drew.heap.size from hlow);have hlow2:=(show w.heap.size+1<wr.drew.heap.size from hlow2);generalize wr.drew=wz at*;refine tkX 0 (by go_simp) (v:=?_) ?_;simp only[tkS];refine tkX 1 (by go_simp) (v:=?_) ?_;simp only[tkS];refine tkX 2 (by go_simp) (v:=?_) ?_;simp only[tkS];refine tkX 3 (by go_simp) (v:=?_) ?_;simp only[tkS];refine tkX 4 (by go_simp) (v:=?_) ?_;simp only[tkS];refine tkX 5 (by go_simp) (v:=?_) ?_;simp only[tkS];refine tkX 6 (by go_simp) (v:=?_) ?_;simp only[tkS];refine tkX 7 (by go_simp) (v:=?_) ?_;simp only[tkS];refine tkX 8 (by go_simp) (v:=?_) ?_;simp only[tkS];refine tkX 9 (by go_simp) (v:=?_) ?_;simp only[tkS];refine tkX 10 (by go_simp) (v:=?_) ?_;simp only[tkS];refine tkX 11 (by go_simp) (v:=?_) ?_;simp only[tkS];refine tkX 12 (by go_simp) (v:=?_) ?_;simp only[tkS];refine tkX 13 (by go_simp) (v:=?_) ?_;simp only[tkS];refine ztL (i:=14) (by kernel_rfl) rfl (fun K hK=>?_);go_simp;have HIA:=lhd (HI5d.out.next (show Below wz.heap.size wz (wz.alloc (.cells #[.int .i64 kd,.int .i64 wd,.slice xa cl.length xc] 60))from(Below.refl _ _).alloc (Nat.le_refl _) _));have HNA:=lhd (za8 HN5d.out (show Below wz.heap.size wz (wz.alloc (.cells #[.int .i64 kd,.int .i64 wd,.slice xa cl.length xc] 60))from(Below.refl _ _).alloc (Nat.le_refl _) _));have hog:=HIA.out.g;rw[HEU.out]at hog;have HOG:=lhd hog;clear hog;refine hK.out _ _ (fun _=>by go_simp) ?_;clear hK;try simp only[tkS]
       refine ztL (i:=15) (by kernel_rfl) rfl (fun K hK=>?_);refine step_append_lies _ (by rfl) _ _ _ (by rfl) (w.heap.size+2) 60 i0 _ 3 40 Tryz.underlying29 hi iz0 iz1 iz2 rfl (by omega) (.slice ua q'.M.length uc) q'.M.length (sgs q'.M) (by rfl) (by exact HOG.out) ⟨wz.heap.size,0,none⟩ 1 1 [.int .i64 kd,.int .i64 wd,.slice xa cl.length xc] (by rfl) (by rfl) (World.news_of_block (cs:=#[.int .i64 kd,.int .i64 wd,.slice xa cl.length xc]) (t:=60) (fr:=(0,0)) (by exact heap_alloc_new _ _)) (by simp[Value.oneCell']) (by omega) (by unfold maxLen;omega) (by omega) (by simp;omega) (wz.heap.size+1) (by simp) ?_;intro gg cap9 w9 ho9 hg9 hat hlt9
       have hnb:∀b,b≤w.heap.size→some b≠(Value.slice ua q'.M.length uc).ownBlock:=fun b hb e=>by
        have:=(zly HOG.out e.symm).1;omega
       have hza:wz.heap.size≤(wz.alloc (.cells #[.int .i64 kd,.int .i64 wd,.slice xa cl.length xc] 60)).heap.size:=by simp
       have r15:=(hg9.cell_far ⟨w.heap.size,15,none⟩ (Nat.lt_of_lt_of_le hlow hza) (hnb _ (Nat.le_refl _))).trans (HIA.out.x.cell (j:=15) rfl);rw[HEU.out]at r15;have r6:=(hg9.cell_far ⟨w.heap.size,6,none⟩ (Nat.lt_of_lt_of_le hlow hza) (hnb _ (Nat.le_refl _))).trans (HIA.out.x.cell (j:=6) rfl);rw[HEG.out,hGL]at r6;have hba:Below wz.heap.size wz (wz.alloc (.cells #[.int .i64 kd,.int .i64 wd,.slice xa cl.length xc] 60)):=(Below.refl _ _).alloc (Nat.le_refl _) _;have q0:=(hg9.cell_far ⟨gb,go_+m*3,none⟩ (Nat.lt_of_lt_of_le hgbz hza) (hnb _ (Nat.le_of_lt hgbl))).trans ((hba.cell (p:=⟨gb,go_+m*3,none⟩) hgbz).trans s0);have q1:=(hg9.cell_far ⟨gb,go_+m*3+1,none⟩ (Nat.lt_of_lt_of_le hgbz hza) (hnb _ (Nat.le_of_lt hgbl))).trans ((hba.cell (p:=⟨gb,go_+m*3+1,none⟩) hgbz).trans s1);have q2:=(hg9.cell_far ⟨gb,go_+m*3+2,none⟩ (Nat.lt_of_lt_of_le hgbz hza) (hnb _ (Nat.le_of_lt hgbl))).trans ((hba.cell (p:=⟨gb,go_+m*3+2,none⟩) hgbz).trans s2);have g15:=(hg9.frozen_far ⟨w.heap.size,15,none⟩ (Nat.lt_of_lt_of_le hlow hza) (hnb _ (Nat.le_refl _))).trans (HIA.out.x.free (j:=15) (by simp[trC]));have HNF:=lhd (zlt (HNA.out.kept hg9 (zlo HNA.out HOG.out (by decide))) 15 (.slice (some ⟨gg,0,none⟩) (q'.M.length+1) cap9));have HFIN:=lhd (HIA.out.push (x:=(kd,wd,cl)) (vx:=.slice xa cl.length xc) ho9 rfl (by rw[HEU.out];exact hg9) HSW.out);clear ho9 hg9 hat hlt9 hba hza hnb c15 c6 s0 s1 s2;refine hK.out _ _ (fun _=>⟨r15,r6,q0,q1,q2⟩) ?_;clear hK;try simp only[tkS]
       refine ztK (i:=16) (v:=?_) rfl (by kernel_rfl) (by kernel_rfl) (by kernel_rfl) rfl (fun _ _ _ h=>h) (Or.inl ⟨by rfl,?_⟩) ?_;rotate_left
       ·intro w hSw;go_simp;all_goals with_reducible rfl
       simp only[tkS];refine ztK (i:=17) (v:=?_) rfl (by kernel_rfl) (by kernel_rfl) (by kernel_rfl) rfl (fun _ _ _ h=>h) (Or.inl ⟨by rfl,?_⟩) ?_;rotate_left
       ·intro w hSw;go_simp;all_goals with_reducible rfl
       simp only[tkS];refine ztK (i:=18) (v:=?_) rfl (by kernel_rfl) (by kernel_rfl) (by kernel_rfl) rfl (fun _ _ _ h=>h) (Or.inl ⟨by rfl,?_⟩) ?_;rotate_left
       ·intro w hSw;go_simp;all_goals with_reducible rfl
       simp only[tkS];refine ztL (i:=19) (by kernel_rfl) rfl (fun K hK=>?_);go_simp;refine hK.out _ _ (fun h=>absurd h (by decide)) ?_;clear hK;try simp only[tkS]
       refine⟨by kernel_rfl,?_⟩;clear r15 r6 q0 q1 q2 g15;go_wp2_with fail;go_roundw;case rel=>exact⟨k+1,{q' with vg:=.slice (some ⟨gg,0,none⟩) (q'.M.length+1) cap9,M:=q'.M++ [((kd,wd,cl),.slice xa cl.length xc)]},hlt,by go_num,by rw[HTK.out,HSI.out];exact HFIN.out,HVP.out,HNF.out⟩
       case measure=>simp[intOf];omega
      ·obtain rfl:k=oN.length:=by omega
       have hfin:=HI5.out;rw[List.take_length,←HS1.out]at hfin;have HFN:=lhd hfin;clear hfin;go_wp2_with fail;go_ret;exact⟨znd HR.out.symm,HFN.out.b,fun _=>⟨q',HFN.out,HVP.out⟩⟩
 ·have bE:(oE==0)=false:=by simpa using hE
  have hde:=HDE.out;rw[if_pos hE]at hde;have HR:=lhd hde;clear hde;go_wp2_with fail;go_ret;exact⟨znd HR.out.symm,HI1.out.b,fun h=>absurd (HR.out.symm.trans h) hE⟩
end Go.Proofs.YtfppgpamkdkckaaGreatDoor
