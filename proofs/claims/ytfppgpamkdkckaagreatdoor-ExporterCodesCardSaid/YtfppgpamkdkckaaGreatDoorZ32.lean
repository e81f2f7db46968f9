import Derived.Test.YtfppgpamkdkckaaGreatDoorZ00
import Derived.Test.YtfppgpamkdkckaaGreatDoorZ24
import Derived.Test.YtfppgpamkdkckaaGreatDoorZ30
set_option maxRecDepth 100000
set_option maxHeartbeats 16000000
namespace Go.Proofs.YtfppgpamkdkckaaGreatDoor
open Go.RowKit
set_option linter.unusedSimpArgs false
theorem zkD {x:ByteArray} {at_:Int→ByteArray} {en:Int} {g:Gp} {P:List Gp} {c:Ch} {cs:List Ch} (h:c.1<g.1):offL x at_ en (g::P) (c::cs)=c::offL x at_ en (g::P) cs:=by
 rw[zky,zky,List.takeWhile_cons,List.dropWhile_cons];simp[h]
theorem zkE {x:ByteArray} {at_:Int→ByteArray} {en:Int} {g:Gp} {P:List Gp} {cs:List Ch} (h:∀c r,cs=c::r→¬c.1<g.1):
 offL x at_ en (g::P) cs=(g.1,x)::((if zfU en g≤1099511627776 then [(zfU en g,at_ (zfU en g))]else [])++offL x at_ en P (cs.dropWhile fun c=>decide (c.1≤zfU en g))):=by
 rw[zky];cases cs with
 |nil=>rfl
 |cons c r=>
  have:=h c r rfl;rw[List.takeWhile_cons,List.dropWhile_cons];simp[this]
structure OfI (W2:World) (acc:List Ch) (v:Value) (W:World):Prop where
 o:W.ownsRow W2.heap.size 57 2 v acc.length (chs acc)
 b:Below W2.heap.size W2 W
theorem OfI.next {W2 W V:World} {acc:List Ch} {v:Value} (h:OfI W2 acc v W) (hb:Below W.heap.size W V):OfI W2 acc v V:=⟨za8 h.o hb,h.b.trans (hb.mono h.b.size)⟩
theorem OfI.app {W2 W V:World} {acc bs:List Ch} {v v':Value} {n:Nat} (h:OfI W2 acc v W) (hg:W.grownBy V v.ownBlock) (ho:V.ownsRow W2.heap.size 57 2 v' n (chs acc++chs bs)) (hn:n=acc.length+bs.length):OfI W2 (acc++bs) v' V:=
 ⟨by rw[zcf,List.length_append,←hn];exact ho,h.b.grown hg h.b.size (fun k e=>(zly h.o e).1)⟩
structure OgI (W2:World) (bx:Nat) (g1 g2:Int) (acc:List Ch) (v:Value) (W:World):Prop where
 c:OfI W2 acc v W
 x:zan W bx [.int .i64 g1,.int .i64 g2]
 n:v.ownBlock≠some bx
 l:bx<W.heap.size
theorem OgI.next {W2 W V:World} {bx:Nat} {g1 g2:Int} {acc:List Ch} {v:Value} (h:OgI W2 bx g1 g2 acc v W) (hb:Below W.heap.size W V):OgI W2 bx g1 g2 acc v V:=
 ⟨h.c.next hb,h.x.below hb h.l,h.n,Nat.lt_of_lt_of_le h.l hb.size⟩
theorem OgI.app {W2 W V:World} {bx:Nat} {g1 g2:Int} {acc bs:List Ch} {v v':Value} {n:Nat} (h:OgI W2 bx g1 g2 acc v W) (hg:W.grownBy V v.ownBlock) (ho:V.ownsRow W2.heap.size 57 2 v' n (chs acc++chs bs)) (hn:n=acc.length+bs.length)
 (hat:v'.ownBlock=v.ownBlock∨v'.ownBlock=some W.heap.size):OgI W2 bx g1 g2 (acc++bs) v' V:=
 ⟨h.c.app hg ho hn,h.x.grown hg h.l (fun e=>h.n e.symm),by
  rcases hat with e|e
  ·rw[e];exact h.n
  ·rw[e];intro e2;have:=h.l;injection e2 with e2;omega,zbU ((h.x.grown hg h.l (fun e=>h.n e.symm)).cell (j:=0) rfl)⟩
theorem zqs (w W:World) (t u:Tr) (p q:TP) (h:BI w t p u q W) (hgl:Glob w) (kd wd:Int) (v:Value) (cl:List Ch) (hs:SlR W v cl.length (chs cl)) (hf:Fit cl) (hl:u.P.length≤1000) (hl2:cl.length≤100000)
 (hp:∀g∈u.P,g.2≤1099511627777) (hfT:Fit (offL (vi kd wd) (fun t=>(atR kd wd cl t).1) u.en u.P cl)):
 Calls Tryz.prog 156 #[.pointer (some ⟨w.heap.size,0,none⟩),.agg #[.int .i64 kd,.int .i64 wd,v]] W (zau (offF u.P u.en (kd,wd,cl)) W):=by
 obtain⟨xa,xc,rfl,-,-⟩:=hs.shape;have HP:=lhd hp;have HF:=lhd hf;obtain⟨T,hT⟩:∃T,T=offL (vi kd wd) (fun t=>(atR kd wd cl t).1) u.en u.P cl:=⟨_,rfl⟩;have HTT:=lhd hT;rw[←hT]at hfT;have HFT:=lhd hfT;have hb2:Below W.heap.size W ((W.alloc (.cells #[.int .i64 kd,.int .i64 wd,.slice xa cl.length xc] 60)).alloc (.cells #[.int .i64 0,.int .i64 0,.slice none 0 0] 60)):=((Below.refl _ _).alloc (Nat.le_refl _) _).alloc (by simp) _;have X3:=lhd ((zan.fresh W #[.int .i64 kd,.int .i64 wd,.slice xa cl.length xc] 60).below ((Below.refl _ _).alloc (Nat.le_refl _) (.cells #[.int .i64 0,.int .i64 0,.slice none 0 0] 60)) (by simp));have Y1:=zan.fresh (W.alloc (.cells #[.int .i64 kd,.int .i64 wd,.slice xa cl.length xc] 60)) #[.int .i64 0,.int .i64 0,.slice none 0 0] 60;rw[World.size_alloc]at Y1;have X4:=lhd Y1;have hz2:W.heap.size+1<((W.alloc (.cells #[.int .i64 kd,.int .i64 wd,.slice xa cl.length xc] 60)).alloc (.cells #[.int .i64 0,.int .i64 0,.slice none 0 0] 60)).heap.size:=by simp
 have HI:=lhd (h.next hb2);have HS:=lhd (hs.below hb2);have HB2:=lhd hb2;have HGL:=lhd ((hgl.below h.b).below hb2);have HV:=lhd (fun W=>zr1 kd wd W);have HAT:=lhd (fun(V:World) (hb:Below ((W.alloc (.cells #[.int .i64 kd,.int .i64 wd,.slice xa cl.length xc] 60)).alloc (.cells #[.int .i64 0,.int .i64 0,.slice none 0 0] 60)).heap.size ((W.alloc (.cells #[.int .i64 kd,.int .i64 wd,.slice xa cl.length xc] 60)).alloc (.cells #[.int .i64 0,.int .i64 0,.slice none 0 0] 60)) V) (z:Int)=>zoU kd wd (.slice xa cl.length xc) cl z V (((hgl.below h.b).below hb2).below hb) ((hs.below hb2).below hb) hf);have hen:∃e0,u.en=e0:=⟨_,rfl⟩;obtain⟨en0,hen⟩:=hen;have HEN:=lhd hen;obtain⟨pa,pc,ep,-,-⟩:=(SlR.of_own h.r).shape;have HEP:=lhd ep;have c16:=h.x.cell (j:=16) rfl;rw[ep]at c16;have hlow:=h.lt;obtain⟨i0,hi,iz0,iz1,iz2⟩:=info_parts (P:=Tryz.prog) zb5;obtain⟨X,hX⟩:∃X,X=vi kd wd:=⟨_,rfl⟩;rw[←hX,hen]at hT;rw[←hX]at HV;have HT:=lhd hT;clear h hgl hs hf hp hT hfT hb2 hen ep Y1 hX;go_enter Tryz.func156,Tryz.ntmps156;go_wp2_with fail;generalize (W.alloc (.cells #[.int .i64 kd,.int .i64 wd,.slice xa cl.length xc] 60)).alloc (.cells #[.int .i64 0,.int .i64 0,.slice none 0 0] 60)=W2 at*;clear c16 hlow;have HO0:=lhd (show OfI W2 [] (.slice none 0 0) W2 from⟨World.ownsRow_nil _ _ _ _,Below.refl _ _⟩);go_loopw [19,6,7] (fun i v_ j_ wr=>∃(k j:Nat) (acc:List Ch),k≤u.P.length∧i=.int .i64 k∧j_=.int .i64 j∧j≤cl.length∧acc.length≤2*k+j∧acc++offL X (fun t=>(atR kd wd cl t).1) en0 (u.P.drop k) (cl.drop j)=T∧OfI W2 acc v_ wr) (fun i _ _ _=>u.P.length-(intOf i).toNat)
 case atStart=>exact⟨0,0,[],Nat.zero_le _,rfl,rfl,Nat.zero_le _,Nat.le_refl _,HT.out.symm,HO0.out⟩
 case round=>
  obtain⟨k,j0,acc0,hk,rfl,rfl,hj0,ha0,hgo,hc⟩:=hrel;have HGO:=lhd hgo;have HC:=lhd hc;clear hgo hc;by_cases hlt:k<u.P.length
  ·have HI2:=lhd (HI.out.next HC.out.b);have hsq:=SlR.of_own HI2.out.r;rw[HEP.out]at hsq;obtain⟨gb,go_,rfl,hcell⟩:=hsq.gps hlt;have HDR:=lhd (List.drop_eq_getElem_cons hlt);have hpx:=HP.out _ (List.getElem_mem hlt);generalize u.P[k]=x at*;obtain⟨g1,g2⟩:=x;dsimp only at hpx;have d0:wr.cell? ⟨gb,go_+k*2,none⟩=some (.int .i64 g1):=hcell 0 _ rfl;have d1:wr.cell? ⟨gb,go_+k*2+1,none⟩=some (.int .i64 g2):=hcell 1 _ rfl;have HBX:=lhd (show Below wr.heap.size wr (wr.alloc (.cells #[.int .i64 g1,.int .i64 g2] 94))from(Below.refl _ _).alloc (Nat.le_refl _) _);have HXF:=lhd (zan.fresh wr #[.int .i64 g1,.int .i64 g2] 94);have hw5:wr.heap.size<(wr.alloc (.cells #[.int .i64 g1,.int .i64 g2] 94)).heap.size:=by simp
   have HC5:=lhd (show OgI W2 wr.heap.size g1 g2 acc0 _ _ from⟨HC.out.next HBX.out,HXF.out,fun e=>by have:=(zly HC.out.o e).2;omega,hw5⟩);have c17:=HI2.out.x.cell (j:=17) rfl;rw[HEN.out]at c17;have hlow:=HI2.out.lt;have hHT:=HGO.out;rw[HDR.out]at hHT;have HGO2:=lhd hHT;obtain⟨tt,hto⟩:∃tt,tt=zfU en0 (g1,g2):=⟨_,rfl⟩;clear hcell hsq hHT
   have hbr:(en0<g2∧tt=1099511627777)∨(¬en0<g2∧tt=g2):=by
    unfold zfU at hto;by_cases hh:en0<g2
    ·exact Or.inl ⟨hh,by rw[hto,if_pos hh]⟩
    ·exact Or.inr ⟨hh,by rw[hto,if_neg hh]⟩
   have HTO:=lhd hto;clear hto;go_upto_if 31 with fail
   generalize wr.alloc (.cells #[.int .i64 g1,.int .i64 g2] 94)=w5 at*;clear d0 d1;have c17:w5.cell? ⟨w.heap.size,17,none⟩=some (.int .i64 en0):=(HBX.out.cell (p:=⟨w.heap.size,17,none⟩) hlow).trans c17;go_cut [10]from 25 to 31 (fun u wc=>u=.int .i64 tt∧wc=w5)
   case first=>
    rcases hbr with⟨hh,htt⟩|⟨hh,htt⟩
    ·have bh:decide (en0<g2)=true:=by simpa using hh
     go_wp2_with fail;go_meet
     case rel=>exact⟨by rw[htt],rfl⟩
    ·have bh:decide (en0<g2)=false:=by simpa using hh
     go_wp2_with fail;go_meet
     case rel=>exact⟨by rw[htt],rfl⟩
   clear c17 hlow;obtain⟨rfl,hcw⟩:=hcut;obtain rfl:w5=wc:=hcw.symm;have HTB:=lhd (show tt≤1099511627777 by rcases hbr with⟨-,h⟩|⟨-,h⟩<;>omega);clear hbr hpx HI2;generalize wr.heap.size=bx at*;go_step
   go_step
   go_cut [6,7]from 32 to 57 (fun v_ j_ wcc=>∃(j:Nat) (acc:List Ch),j_=.int .i64 j∧j≤cl.length∧acc.length≤2*k+j∧acc++((g1,X)::((if tt≤1099511627776 then [(tt,(atR kd wd cl tt).1)]else [])++offL X (fun t=>(atR kd wd cl t).1) en0 (u.P.drop (k+1)) ((cl.drop j).dropWhile fun c=>decide (c.1≤tt))))=T∧OgI W2 bx g1 g2 acc v_ wcc)
   case first=>
    go_wp2_with fail;go_loopw [6,7] (fun v_ j_ wq=>∃(j:Nat) (acc:List Ch),j_=.int .i64 j∧j≤cl.length∧acc.length≤2*k+j∧acc++offL X (fun t=>(atR kd wd cl t).1) en0 ((g1,g2)::u.P.drop (k+1)) (cl.drop j)=T∧OgI W2 bx g1 g2 acc v_ wq) (fun _ j _=>cl.length-(intOf j).toNat)
    case atStart=>exact⟨j0,acc0,rfl,hj0,ha0,HGO2.out,HC5.out⟩
    case round=>
     obtain⟨j,acc,rfl,hj,ha,hgo,hc⟩:=hrel;have HG:=lhd hgo;have HC6:=lhd hc;have e0:=hc.x.cell (j:=0) rfl;have HX3:=lhd (X3.out.below hc.c.b (Nat.lt_of_succ_lt hz2));have e2:=HX3.out.cell (j:=2) rfl;have hj2:acc.length≤200000:=by omega
     clear hgo hc;by_cases hjl:j<cl.length
     ·obtain⟨cb,co,ecx,y0,y1⟩:=(HS.out.below HC6.out.c.b).ch hjl;subst ecx;have HCD:=lhd (List.drop_eq_getElem_cons hjl);generalize cl[j]=c at*;obtain⟨ct,cv⟩:=c;dsimp only at y0 y1;by_cases hcg:ct<g1
      ·have bc:decide (ct<g1)=true:=by simpa using hcg
       have HG2:=lhd (show(acc++ [(ct,cv)])++offL X (fun t=>(atR kd wd cl t).1) en0 ((g1,g2)::u.P.drop (k+1)) (cl.drop (j+1))=T by
        rw[←HG.out,HCD.out,zkD hcg];simp)
       go_wp2_with fail;go_quiet (fail);have hb6:Below wr.heap.size wr (wr.drewN nq):=za5 (Below.refl _ _) nq;have HC7:=lhd ((HC6).out.next hb6);have e0:=(World.cell?_drewN wr nq _).trans e0;have e2:=(World.cell?_drewN wr nq _).trans e2;have y0:=(World.cell?_drewN wr nq _).trans y0;have y1:=(World.cell?_drewN wr nq _).trans y1;have hcbz:=zbU y0;clear hb6;generalize wr.drewN nq=w6 at*;have HNW:=lhd (World.news_of_block (w:=(w6).alloc (.cells #[.int .i64 ct,.string cv] 57)) (cs:=#[.int .i64 ct,.string cv]) (t:=57) (fr:=(0,0)) (by exact heap_alloc_new _ _));have HCA:=lhd ((HC7.out).next (show Below (w6).heap.size w6 ((w6).alloc (.cells #[.int .i64 ct,.string cv] 57))from(Below.refl _ _).alloc (Nat.le_refl _) _));have hszA:=HCA.out.c.b.size;go_wp2_with (at_builtin;refine wpList_append_own_at _ rfl _ _ 58 rfl W2.heap.size 57 i0 (.agg #[.int .i64 0,.string ⟨#[]⟩]) 2 24 Tryz.underlying58 hi iz0 iz1 iz2 rfl (by decide) _ _ _ rfl HCA.out.c.o ⟨(w6).heap.size,0,none⟩ 1 1 [.int .i64 ct,.string cv] rfl rfl HNW.out (by simp[Value.oneCell']) (by unfold maxLen;omega) (by omega) (by omega) ?_)
       intro v8 w8 ho8 hg8 _ hat8;have HC8:=lhd (HCA.out.app (bs:=[(ct,cv)]) hg8 ho8 (by simp) (by rw[World.size_alloc];exact hat8));clear ho8 hg8 hat8 HNW HCA hszA;go_wp2_with fail;go_roundw;case rel=>exact⟨j+1,_,by go_num,hjl,by simp;omega,HG2.out,HC8.out⟩
       case measure=>simp[intOf];omega
      ·have bc:decide (ct<g1)=false:=by simpa using hcg
       have hst:=HG.out;rw[zkE (by intro c r e;rw[HCD.out]at e;injection e with e _;subst e;exact hcg),←HTO.out]at hst;have HST:=lhd hst;clear hst;go_wp2_with fail;go_quiet (fail);have hb6:Below wr.heap.size wr (wr.drewN nq):=za5 (Below.refl _ _) nq;have HC7:=lhd ((HC6).out.next hb6);have e0:=(World.cell?_drewN wr nq _).trans e0;have e2:=(World.cell?_drewN wr nq _).trans e2;have y0:=(World.cell?_drewN wr nq _).trans y0;have y1:=(World.cell?_drewN wr nq _).trans y1;have hcbz:=zbU y0;clear hb6;generalize wr.drewN nq=w6 at*;go_wp2_with fail;go_meet
       case rel=>exact⟨j,acc,rfl,hj,ha,HST.out,HC7.out⟩
     ·obtain rfl:j=cl.length:=by omega
      have hst:=HG.out;rw[zkE (by intro c r e;rw[List.drop_length]at e;cases e),←HTO.out]at hst;have HST:=lhd hst;have HCQ:=lhd (fun n=>HC6.out.next (za5 (Below.refl wr.heap.size wr) n));clear hst;go_wp2_with fail;go_quiet (fail);go_wp2_with fail;go_meet
      case rel=>exact⟨cl.length,acc,rfl,hj,ha,HST.out,HCQ.out nq⟩
   obtain⟨j,acc,rfl,hj,ha,hst,hc⟩:=hcut;have HST:=lhd hst;have HC6:=lhd hc;have e0:=hc.x.cell (j:=0) rfl;have HX3:=lhd (X3.out.below hc.c.b (Nat.lt_of_succ_lt hz2));have k0:=HX3.out.cell (j:=0) rfl;have k1:=HX3.out.cell (j:=1) rfl;have hbz:=hc.l;have hWz:W.heap.size<wc.heap.size:=zbU k0;have hj2:acc.length≤200000:=by omega
   obtain⟨wq,hwq⟩:∃wq,wq=wc:=⟨_,rfl⟩;rw[←hwq]at HC6 e0 HX3 k0 k1 hbz hWz⊢;clear hst hc HGO2 HC5 HXF HBX hwq;obtain⟨ua,uc,rfl,-,-⟩:=(SlR.of_own HC6.out.c.o).shape;go_upto_region 12 with fail;refine ztT (S:=fun w'=>w'.cell? ⟨bx,0,none⟩=some (.int .i64 g1)∧w'.cell? ⟨W.heap.size,0,none⟩=some (.int .i64 kd)∧w'.cell? ⟨W.heap.size,1,none⟩=some (.int .i64 wd)) (X:=fun _=>false) (by kernel_rfl) ?_;have HS1:=lhd (show wq.drew.cell? ⟨bx,0,none⟩=some (.int .i64 g1)∧wq.drew.cell? ⟨W.heap.size,0,none⟩=some (.int .i64 kd)∧wq.drew.cell? ⟨W.heap.size,1,none⟩=some (.int .i64 wd)from⟨e0,k0,k1⟩);refine tkX 0 (by go_simp) (v:=?_) ?_;simp only[tkS];refine tkX 1 (by go_simp) (v:=?_) ?_;simp only[tkS];refine tkX 2 (by go_simp) (v:=?_) ?_;simp only[tkS];refine tkX 3 (by go_simp) (v:=?_) ?_;simp only[tkS];refine tkX 4 (by go_simp) (v:=?_) ?_;simp only[tkS];refine tkX 5 (by go_simp) (v:=?_) ?_;simp only[tkS];refine tkX 6 (by go_simp) (v:=?_) ?_;simp only[tkS];refine ztL (i:=7) (by kernel_rfl) rfl (fun K hK=>?_);go_simp;refine(HV.out _).mono ?_;rintro e w7 ⟨rfl,hb7⟩;have HC7:=lhd (HC6.out.next ((Below.refl _ _).drew.trans hb7));have hz7:wq.heap.size≤w7.heap.size:=hb7.size;have e0:=(hb7.cell (p:=⟨bx,0,none⟩) hbz).trans e0;have k0:=(hb7.cell (p:=⟨W.heap.size,0,none⟩) hWz).trans k0;have k1:=(hb7.cell (p:=⟨W.heap.size,1,none⟩) hWz).trans k1;have hbz7:bx<w7.heap.size:=Nat.lt_of_lt_of_le hbz hz7;have hWz7:W.heap.size<w7.heap.size:=Nat.lt_of_lt_of_le hWz hz7;clear hb7;dsimp only;refine hK.out _ _ (fun _=>⟨e0,k0,k1⟩) ?_;clear hK;try simp only[tkS]
   refine ztL (i:=8) (by kernel_rfl) rfl (fun K hK=>?_);go_simp;refine hK.out _ _ (fun _=>⟨e0,k0,k1⟩) ?_;clear hK;try simp only[tkS]
   refine ztL (i:=9) (by kernel_rfl) rfl (fun K hK=>?_);go_simp;have HCA:=lhd (HC7.out.next (show Below w7.heap.size w7 (w7.alloc (.cells #[.int .i64 g1,.string X] 57))from(Below.refl _ _).alloc (Nat.le_refl _) _));have hszA:=HCA.out.c.b.size;refine hK.out _ _ (fun _=>by go_simp) ?_;clear hK;try simp only[tkS]
   refine ztL (i:=10) (by kernel_rfl) rfl (fun K hK=>?_);refine step_append_lies _ (by rfl) _ _ _ (by rfl) W2.heap.size 57 i0 _ 2 24 Tryz.underlying58 hi iz0 iz1 iz2 rfl (by omega) (.slice ua acc.length uc) acc.length (chs acc) (by rfl) (by exact HCA.out.c.o) ⟨w7.heap.size,0,none⟩ 1 1 [.int .i64 g1,.string X] (by rfl) (by rfl) (World.news_of_block (cs:=#[.int .i64 g1,.string X]) (t:=57) (fr:=(0,0)) (by exact heap_alloc_new _ _)) (by simp[Value.oneCell']) (by omega) (by unfold maxLen;omega) (by omega) (by omega) (w7.heap.size+1) (by simp) ?_;intro gg cap9 w9 ho9 hg9 hat hlt9
   have HC9:=lhd (HCA.out.app (bs:=[(g1,X)]) hg9 ho9 rfl (by
    rw[World.size_alloc];rcases hat with h|h
    ·exact Or.inl h.symm
    ·exact Or.inr (by rw[h];rfl)))
   have HX9:=lhd (X3.out.below HC9.out.c.b (Nat.lt_of_succ_lt hz2));clear ho9 hg9 hat hlt9 HCA hszA HC7 e0 k0 k1 HS1 hz7 hbz7 hWz7 hbz hWz;refine hK.out _ _ (fun _=>⟨HC9.out.x.cell (j:=0) rfl,HX9.out.cell (j:=0) rfl,HX9.out.cell (j:=1) rfl⟩) ?_;clear hK;try simp only[tkS]
   refine ztL (i:=11) (by kernel_rfl) rfl (fun K hK=>?_);go_simp;refine hK.out _ _ (fun _=>⟨HC9.out.x.cell (j:=0) rfl,HX9.out.cell (j:=0) rfl,HX9.out.cell (j:=1) rfl⟩) ?_;clear hK;try simp only[tkS]
   refine⟨by kernel_rfl,?_⟩;go_upto_if 70 with fail
   go_cut [6,11,12]from 69 to 82 (fun v_ x1 x2 we=>∃acc2:List Ch,acc2.length≤acc.length+2∧acc2++offL X (fun t=>(atR kd wd cl t).1) en0 (u.P.drop (k+1)) ((cl.drop j).dropWhile fun c=>decide (c.1≤tt))=T∧OgI W2 bx g1 g2 acc2 v_ we)
   case first=>
    by_cases htt:tt≤1099511627776
    ·have hb1:decide (tt≤1099511627776)=true:=by simpa using htt
     have hst:=HST.out;rw[if_pos htt]at hst;have HS2:=lhd (show((acc++ [(g1,X)])++ [(tt,(atR kd wd cl tt).1)])++offL X (fun t=>(atR kd wd cl t).1) en0 (u.P.drop (k+1)) ((cl.drop j).dropWhile fun c=>decide (c.1≤tt))=T by rw[←hst];simp);have k0:=HX9.out.cell (j:=0) rfl;have k1:=HX9.out.cell (j:=1) rfl;have k2:=HX9.out.cell (j:=2) rfl;have HA9:=lhd (HAT.out w9 HC9.out.c.b tt);have hj3:(acc++ [(g1,X)]).length≤200001:=by simp;omega
     clear hst;go_wp2_with fail;refine HA9.out.mono ?_;rintro e w10 ⟨rfl,hb10⟩;have HC10:=lhd (HC9.out.next hb10);clear hb10;generalize (atR kd wd cl tt).1=sx at*;have HNW:=lhd (World.news_of_block (w:=(w10).alloc (.cells #[.int .i64 tt,.string sx] 57)) (cs:=#[.int .i64 tt,.string sx]) (t:=57) (fr:=(0,0)) (by exact heap_alloc_new _ _));have HCA:=lhd ((HC10.out).next (show Below (w10).heap.size w10 ((w10).alloc (.cells #[.int .i64 tt,.string sx] 57))from(Below.refl _ _).alloc (Nat.le_refl _) _));have hszA:=HCA.out.c.b.size;go_wp2_with (at_builtin;refine wpList_append_own_at _ rfl _ _ 58 rfl W2.heap.size 57 i0 (.agg #[.int .i64 0,.string ⟨#[]⟩]) 2 24 Tryz.underlying58 hi iz0 iz1 iz2 rfl (by decide) _ _ _ rfl HCA.out.c.o ⟨(w10).heap.size,0,none⟩ 1 1 [.int .i64 tt,.string sx] rfl rfl HNW.out (by simp[Value.oneCell']) (by unfold maxLen;omega) (by omega) (by omega) ?_)
     intro v8 w8 ho8 hg8 _ hat8;have HC8:=lhd (HCA.out.app (bs:=[(tt,sx)]) hg8 ho8 (by simp) (by rw[World.size_alloc];exact hat8));clear ho8 hg8 hat8 HNW HCA hszA;go_wp2_with fail;go_meet
     case rel=>exact⟨_,by simp,HS2.out,HC8.out⟩
    ·have hb1:decide (tt≤1099511627776)=false:=by simpa using htt
     have hst:=HST.out;rw[if_neg htt]at hst;have HS2:=lhd (show(acc++ [(g1,X)])++offL X (fun t=>(atR kd wd cl t).1) en0 (u.P.drop (k+1)) ((cl.drop j).dropWhile fun c=>decide (c.1≤tt))=T by rw[←hst];simp);clear hst;go_wp2_with fail;go_meet
     case rel=>exact⟨_,by simp,HS2.out,HC9.out⟩
   obtain⟨acc2,ha2,hst,hc⟩:=hcut;have HS2:=lhd hst;have HC10:=lhd hc;clear hst hc HC9 HX9 HST;go_wp2_with fail;go_loopw [7] (fun j_ wr3=>∃j2:Nat,j_=.int .i64 j2∧j≤j2∧j2≤cl.length∧((cl.drop j2).dropWhile fun c=>decide (c.1≤tt))=((cl.drop j).dropWhile fun c=>decide (c.1≤tt))∧OfI W2 acc2 _ wr3) (fun j_ _=>cl.length-(intOf j_).toNat)
   case atStart=>exact⟨j,rfl,Nat.le_refl _,hj,rfl,HC10.out.c⟩
   case round=>
    obtain⟨j2,rfl,hj3,hj4,hdw,hc3⟩:=hrel;have HDW:=lhd hdw;have HC3:=lhd hc3;have HX3:=lhd (X3.out.below hc3.b (Nat.lt_of_succ_lt hz2));have e2:=HX3.out.cell (j:=2) rfl;clear hdw hc3;by_cases hjl:j2<cl.length
    ·obtain⟨cb,co,ecx,y0,y1⟩:=(HS.out.below HC3.out.b).ch hjl;subst ecx;have HCD:=lhd (List.drop_eq_getElem_cons hjl);generalize cl[j2]=c at*;obtain⟨ct,cv⟩:=c;dsimp only at y0 y1;clear y1;by_cases hcg:ct≤tt
     ·have bc:decide (ct≤tt)=true:=by simpa using hcg
      have HD2:=lhd (show((cl.drop (j2+1)).dropWhile fun c=>decide (c.1≤tt))=((cl.drop j).dropWhile fun c=>decide (c.1≤tt))by
       rw[←HDW.out,HCD.out,List.dropWhile_cons];simp[hcg])
      go_wp2_with fail;go_roundw;case rel=>exact⟨j2+1,by go_num,by omega,hjl,HD2.out,HC3.out⟩
      case measure=>simp[intOf];omega
     ·have bc:decide (ct≤tt)=false:=by simpa using hcg
      have HFN:=lhd (show acc2++offL X (fun t=>(atR kd wd cl t).1) en0 (u.P.drop (k+1)) (cl.drop j2)=T by
       rw[←HS2.out,←HDW.out,HCD.out,List.dropWhile_cons];simp[hcg])
      go_wp2_with fail;go_roundw;case rel=>exact⟨k+1,j2,acc2,hlt,by go_num,rfl,hj4,by omega,HFN.out,HC3.out⟩
      case measure=>simp[intOf];omega
    ·obtain rfl:j2=cl.length:=by omega
     have HFN:=lhd (show acc2++offL X (fun t=>(atR kd wd cl t).1) en0 (u.P.drop (k+1)) (cl.drop cl.length)=T by
      rw[←HS2.out,←HDW.out,List.drop_length];rfl)
     go_wp2_with fail;go_roundw;case rel=>exact⟨k+1,cl.length,acc2,hlt,by go_num,rfl,Nat.le_refl _,by omega,HFN.out,HC3.out⟩
     case measure=>simp[intOf];omega
  ·obtain rfl:k=u.P.length:=by omega
   have hfn:=HGO.out;rw[List.drop_length]at hfn;have HFN:=lhd (show acc0++cl.drop j0=T from hfn);have HX3:=lhd (X3.out.below HC.out.b (Nat.lt_of_succ_lt hz2));have HX4:=lhd (X4.out.below HC.out.b hz2);obtain⟨ta,tc,hsl,hslr⟩:=zpb xa xc cl j0 hj0;have HSR:=lhd (hslr wr.drew ((HS.out.below HC.out.b).below (Below.refl _ _).drew));have k0:=HX3.out.cell (j:=0) rfl;have k1:=HX3.out.cell (j:=1) rfl;have k2:=HX3.out.cell (j:=2) rfl;obtain⟨ua,uc,rfl,-,-⟩:=(SlR.of_own HC.out.o).shape;have hlR:(cl.drop j0).length≤100000:=by rw[List.length_drop];omega
   have HRL:=lhd (show(acc0++cl.drop j0).length≤400000 by rw[List.length_append];omega);have hac:acc0.length≤200000:=by omega
   have HCD:=lhd (show OfI W2 acc0 (.slice ua acc0.length uc) wr.drew from HC.out.next ((Below.refl _ _).drew));clear hfn hslr;rw[List.length_drop]at HSR hlR hsl;go_wp2_with fail;refine ztT (S:=fun w'=>w'.cell? ⟨W.heap.size,0,none⟩=some (.int .i64 kd)∧w'.cell? ⟨W.heap.size,1,none⟩=some (.int .i64 wd)∧w'.cell? ⟨W.heap.size,2,none⟩=some (.slice xa cl.length xc)) (X:=fun _=>false) (by kernel_rfl) ?_;refine tkX 0 (by go_simp) (v:=?_) ?_;simp only[tkS];refine tkX 1 (by go_simp) (v:=?_) ?_;simp only[tkS];refine tkX 2 (by go_simp) (v:=?_) ?_;simp only[tkS];refine tkX 3 (by go_simp) (v:=?_) ?_;simp only[tkS];refine tkX 4 (by go_simp) (v:=?_) ?_;simp only[tkS];refine tkX 5 (by go_simp) (v:=?_) ?_;simp only[tkS];refine tkX 6 (by go_simp) (v:=?_) ?_;simp only[tkS];refine tkX 7 (by go_simp) (v:=?_) ?_;simp only[tkS];refine ztL (i:=8) (by kernel_rfl) rfl (fun K hK=>?_);have hsl:=hsl wr.drew;go_simp;refine hK.out _ _ (fun _=>⟨k0,k1,k2⟩) ?_;clear hK;try simp only[tkS]
   refine ztL (i:=9) (by kernel_rfl) rfl (fun K hK=>?_);refine zpN _ (by rfl) _ _ _ (by rfl) W2.heap.size 57 i0 _ 2 24 Tryz.underlying58 hi iz0 iz1 iz2 rfl (by omega) (.slice ua acc0.length uc) acc0.length (chs acc0) (by rfl) (by exact HCD.out.o) ta (cl.length-j0) tc (chs (cl.drop j0)) (by rfl) HSR.out (by rw[zcj,List.length_drop];omega) (zcl _) (by unfold maxLen;omega) (by omega) (by have:=HCD.out.b.size;exact this) ?_;intro a9 c9 w9 ho9 hg9;have HC9:=lhd (HCD.out.app (bs:=cl.drop j0) hg9 ho9 (by rw[List.length_drop]));rw[HFN.out]at HC9;have hln:acc0.length+(cl.length-j0)=T.length:=by rw[←HFN.out,List.length_append,List.length_drop]
   rw[hln]at HC9⊢;have HX9:=lhd (X3.out.below HC9.out.b (Nat.lt_of_succ_lt hz2));have HX94:=lhd (X4.out.below HC9.out.b hz2);clear ho9 hg9 hln hsl k0 k1 k2 HCD HSR;refine hK.out _ _ (fun _=>⟨HX9.out.cell (j:=0) rfl,HX9.out.cell (j:=1) rfl,HX9.out.cell (j:=2) rfl⟩) ?_;clear hK;try simp only[tkS]
   refine ztL (i:=10) (by kernel_rfl) rfl (fun K hK=>?_);go_simp;refine(zoW kd wd _ T w9 (HGL.out.below HC9.out.b) (SlR.of_own HC9.out.o) HFT.out).mono ?_;rw[show zjT kd wd T=offF u.P u.en (kd,wd,cl)by rw[HTT.out];rfl];generalize offF u.P u.en (kd,wd,cl)=R at*;obtain⟨⟨ky,wy,ly⟩,cy⟩:=R;rintro e w10 ⟨v10,rfl,ho10,hb10⟩;dsimp only at ho10⊢;obtain⟨va,vc,rfl,-,-⟩:=(SlR.of_own ho10).shape;have HB10:=lhd (HC9.out.b.trans (hb10.mono HC9.out.b.size));have hz9:=HC9.out.b.size;have HX10:=lhd (X3.out.below HB10.out (Nat.lt_of_succ_lt hz2));have HX104:=lhd (X4.out.below HB10.out hz2);have HO10:=lhd (zlI (base':=W.heap.size+2) ho10 (by omega));have p0:=HX104.out.cell (j:=0) rfl;have p1:=HX104.out.cell (j:=1) rfl;have p2:=HX104.out.cell (j:=2) rfl;have f0:=HX104.out.free (j:=0) (by simp);have f1:=HX104.out.free (j:=1) (by simp);have f2:=HX104.out.free (j:=2) (by simp);have t0:=HX10.out.cell (j:=0) rfl;have t1:=HX10.out.cell (j:=1) rfl;have t2:=HX10.out.cell (j:=2) rfl;have HBW:=lhd (HB2.out.trans (HB10.out.mono HB2.out.size));clear ho10 hb10;refine hK.out _ _ (fun _=>⟨t0,t1,t2⟩) ?_;clear hK;try simp only[tkS]
   refine tkX 11 (by go_simp) (v:=?_) ?_;simp only[tkS];refine tkX 12 (by go_simp) (v:=?_) ?_;simp only[tkS];refine ztL (i:=13) (by kernel_rfl) rfl (fun K hK=>?_);go_simp;refine hK.out _ _ (fun _=>by go_simp) ?_;clear hK;try simp only[tkS]
   refine ztL (i:=14) (by kernel_rfl) rfl (fun K hK=>?_);go_simp;refine hK.out _ _ (fun _=>by go_simp) ?_;clear hK;try simp only[tkS]
   refine⟨by kernel_rfl,?_⟩;have HR:=lhd (((HX104.out.set (j:=0) (by simp) (.int .i64 ky)).set (j:=1) (by simp) (.int .i64 wy)).set (j:=2) (by simp) (.slice va ly.length vc));have HOR:=lhd (ownsRow_setCell_below (ownsRow_setCell_below (ownsRow_setCell_below HO10.out (a:=⟨W.heap.size+1,0,none⟩) (by show W.heap.size+1<_;omega) (.int .i64 ky)) (a:=⟨W.heap.size+1,1,none⟩) (by show W.heap.size+1<_;omega) (.int .i64 wy)) (a:=⟨W.heap.size+1,2,none⟩) (by show W.heap.size+1<_;omega) (.slice va ly.length vc));have HBR:=lhd (((HBW.out.setCell (p:=⟨W.heap.size+1,0,none⟩) (by show W.heap.size≤W.heap.size+1;omega) (.int .i64 ky)).setCell (p:=⟨W.heap.size+1,1,none⟩) (by show W.heap.size≤W.heap.size+1;omega) (.int .i64 wy)).setCell (p:=⟨W.heap.size+1,2,none⟩) (by show W.heap.size≤W.heap.size+1;omega) (.slice va ly.length vc));clear p0 p1 p2 f0 f1 f2 t0 t1 t2;generalize ((w10.setCell ⟨W.heap.size+1,0,none⟩ (.int .i64 ky)).setCell ⟨W.heap.size+1,1,none⟩ (.int .i64 wy)).setCell ⟨W.heap.size+1,2,none⟩ (.slice va ly.length vc)=Wf at*;have p0:=HR.out.cell (j:=0) rfl;have p1:=HR.out.cell (j:=1) rfl;have p2:=HR.out.cell (j:=2) rfl;go_wp2_with fail;refine bodyPost_ret (v:=.tuple #[.agg #[.int .i64 ky,.int .i64 wy,.slice va ly.length vc],.int .i64 cy]) (by simp[results,Tryz.results156,go_sem,p0,p1,p2]) rfl ?_;exact⟨_,rfl,zlI HOR.out (by omega),HBR.out⟩
end Go.Proofs.YtfppgpamkdkckaaGreatDoor
