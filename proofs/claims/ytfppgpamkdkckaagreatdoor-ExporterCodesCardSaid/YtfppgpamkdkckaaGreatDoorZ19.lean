import Derived.Test.YtfppgpamkdkckaaGreatDoorZ00
import Derived.Lib.IndexBytes
import Derived.Lib.Join
import Derived.Lib.SplitLaws
import Derived.Test.YtfppgpamkdkckaaGreatDoorZ14
import Derived.Test.YtfppgpamkdkckaaGreatDoorZ16
import Derived.Test.YtfppgpamkdkckaaGreatDoorZ18
set_option maxRecDepth 100000
set_option maxHeartbeats 16000000
namespace Go.Proofs.YtfppgpamkdkckaaGreatDoor
open Go.RowKit
set_option linter.unusedSimpArgs false
structure TP where
 vs:Value
 vv:Value
 vg:Value
 vp:Value
 M:List (Sg×Value)
def TP.v (p:TP) (t:Tr):Value:=.agg #[.int .i64 t.sc,.string (bsB t.dt),.string (bsB t.vn),.string (bsB t.cm),p.vs,p.vv,p.vg,p.vp,.int .i64 t.en]
structure TrM (w:World) (t:Tr) (p:TP):Prop where
 s:SlR w p.vs t.S.length (scs t.S)
 v:SlR w p.vv t.V.length (vrs t.V)
 g:Sigs w p.vg p.M
 q:SlR w p.vp t.P.length (gps t.P)
 m:p.M.map Prod.fst=t.G
theorem TrM.below {w W:World} {t:Tr} {p:TP} (h:TrM w t p) (hb:Below w.heap.size w W):TrM W t p:=⟨h.s.below hb,h.v.below hb,h.g.below hb,h.q.below hb,h.m⟩
theorem TrM.len {w:World} {t:Tr} {p:TP} (h:TrM w t p):p.M.length=t.G.length:=by rw[←h.m,List.length_map]
theorem zqV (n:Int) (w:World):Calls Tryz.prog 109 #[.int .i64 n] w fun e w'=>e=.returned (.int .i64 (zhW n))∧w=w':=by
 by_cases h3:n=3
 ·subst h3;go_enter Tryz.func109,Tryz.ntmps109;go_wp2_with fail;go_ret;exact⟨rfl,rfl⟩
 ·have b3:(n==3)=false:=by simpa using h3
  by_cases h4:n=4
  ·subst h4;go_enter Tryz.func109,Tryz.ntmps109;go_wp2_with fail;go_ret;exact⟨rfl,rfl⟩
  ·have b4:(n==4)=false:=by simpa using h4
   by_cases h6:n=6
   ·subst h6;go_enter Tryz.func109,Tryz.ntmps109;go_wp2_with fail;go_ret;exact⟨rfl,rfl⟩
   ·have b6:(n==6)=false:=by simpa using h6
    by_cases h0:n=0
    ·subst h0;go_enter Tryz.func109,Tryz.ntmps109;go_wp2_with fail;go_ret;exact⟨rfl,rfl⟩
    ·have b0:(n==0)=false:=by simpa using h0
     have HR:=lhd (show 0=zhW n by unfold zhW;rw[if_neg (by omega),if_neg h6,if_neg h0]);clear h3 h4 h6 h0;go_enter Tryz.func109,Tryz.ntmps109;go_wp2_with fail;go_ret;exact⟨znd HR.out,rfl⟩
theorem znz (x y:Sg):sEq x.1 x.2.1 x.2.2 y.1 y.2.1 y.2.2=decide (x=y):=by
 obtain⟨k,n,l⟩:=x;obtain⟨k2,n2,m⟩:=y;unfold sEq znE;rw[Bool.eq_iff_iff];simp only[Bool.and_eq_true,decide_eq_true_iff,Prod.mk.injEq]
theorem zeH (v u:Value) (L M:List (Sg×Value)) (w:World) (hs:Sigs w v L) (ht:Sigs w u M):
 Calls Tryz.prog 45 #[v,u,(.func (.func 46) #[] #[])] w fun e w'=>e=.returned (.bool (decide (L.map Prod.fst=M.map Prod.fst)))∧Below w.heap.size w w':=by
 obtain⟨a,cap,rfl,hc,hm⟩:=hs.s.shape;obtain⟨a2,cap2,rfl,hc2,hm2⟩:=ht.s.shape;unfold maxLen at hm hm2;have HS:=lhd hs;have HT:=lhd ht;clear hs ht;obtain⟨R,hR⟩:∃R,R=decide (L.map Prod.fst=M.map Prod.fst):=⟨_,rfl⟩;rw[←hR];by_cases hne:L.length≠M.length
 ·have E:=lhd (show R=false by rw[hR,decide_eq_false_iff_not];intro h;exact hne (by have:=congrArg List.length h;simpa using this));have hb:((L.length:Int) !=(M.length:Int))=true:=by rw[bne_iff_ne];omega
  clear hne hR;go_enter Tryz.func45,Tryz.ntmps45;go_wp2_with fail;go_ret;exact⟨znc E.out.symm,Below.refl _ _⟩
 have hlen:L.length=M.length:=by omega
 have HLEN:=lhd hlen;have HR:=lhd hR;have hb:((L.length:Int) !=(M.length:Int))=false:=by rw[hlen];simp
 clear hne hlen hR;go_enter Tryz.func45,Tryz.ntmps45;go_wp2_with fail
 go_loopw [17] (fun i wr=>∃(j:Nat),j≤L.length∧i=.int .i64 j∧(L.map Prod.fst).take j=(M.map Prod.fst).take j∧Below w.heap.size w wr)
  (fun i _=>L.length-(intOf i).toNat)
 case atStart=>exact⟨0,Nat.zero_le _,rfl,rfl,Below.refl _ _⟩
 case round=>
  obtain⟨j,hj,rfl,hgo,hbw⟩:=hrel;have HGO:=lhd hgo;have HB:=lhd hbw;clear hgo hbw;by_cases hlt:j<L.length
  ·have hlt2:j<M.length:=by have:=HLEN.out;omega
   obtain⟨b,o,rfl,d0,d1,d2,hd⟩:=(HS.out.below HB.out).at hlt;obtain⟨b2,o2,rfl,g0,g1,g2,hg⟩:=(HT.out.below HB.out).at hlt2
   have HGO2:=lhd (fun(h:L[j].1=M[j].1)=>(show(L.map Prod.fst).take (j+1)=(M.map Prod.fst).take (j+1)by
    rw[List.take_succ_eq_append_getElem (by simpa using hlt),List.take_succ_eq_append_getElem (by simpa using hlt2),HGO.out];simp[h]))
   have HNO:=lhd (fun(h:¬L[j].1=M[j].1)=>(show R=false by
    rw[HR.out,decide_eq_false_iff_not];intro h2;have h3:(L.map Prod.fst)[j]'(by simpa using hlt)=(M.map Prod.fst)[j]'(by simpa using hlt2):=by simp only[h2]
    simp at h3;exact h h3))
   have zb2:b2<wr.heap.size:=zbU g0;generalize L[j]=x at d0 d1 d2 hd HGO2 HNO;generalize M[j]=y at g0 g1 g2 hg HGO2 HNO;obtain⟨⟨k,n,l⟩,xv⟩:=x;obtain⟨⟨k2,n2,m⟩,yv⟩:=y;dsimp only at d0 d1 d2 hd g0 g1 g2 hg HGO2 HNO;obtain⟨xa,xc,rfl,-,-⟩:=hd.shape;obtain⟨ya,yc,rfl,-,-⟩:=hg.shape;have hb2:Below wr.heap.size wr ((wr.alloc (.cells #[.int .i64 k,.int .i64 n,.slice xa l.length xc] 60)).alloc (.cells #[.int .i64 k2,.int .i64 n2,.slice ya m.length yc] 60)):=((Below.refl _ _).alloc (Nat.le_refl _) _).alloc (by simp) _;have HE:=lhd (zoV k n k2 n2 _ _ l m _ (hd.below hb2) (hg.below hb2));have HB2:=lhd (HB.out.trans (hb2.mono HB.out.size));rw[show sEq k n l k2 n2 m=decide ((k,n,l)=(k2,n2,m))from znz (k,n,l) (k2,n2,m)]at HE;clear hd hg hb2;by_cases he:((k,n,l):Sg)=(k2,n2,m)
   ·have HG3:=lhd (HGO2.out he);rw[decide_eq_true he]at HE;clear he;go_wp2_with fail;refine HE.out.mono ?_;rintro e w1 ⟨rfl,hb1⟩;have HB3:=lhd (HB2.out.trans (hb1.mono HB2.out.size));clear hb1 d0 d1 d2 g0 g1 g2;go_wp2_with fail;go_roundw;case rel=>exact⟨j+1,by omega,by go_num,HG3.out,HB3.out⟩
    case measure=>simp[intOf];omega
   ·have HG3:=lhd (HNO.out he);rw[decide_eq_false he]at HE;clear he;go_wp2_with fail;refine HE.out.mono ?_;rintro e w1 ⟨rfl,hb1⟩;have HB3:=lhd (HB2.out.trans (hb1.mono HB2.out.size));clear hb1 d0 d1 d2 g0 g1 g2;go_wp2_with fail;go_ret;exact⟨znc HG3.out.symm,HB3.out⟩
  ·have hj':j=L.length:=by omega
   subst hj'
   have E2:=lhd (show R=true by
    rw[HR.out,decide_eq_true_iff];have:=HGO.out;rwa [List.take_of_length_le (by simp),List.take_of_length_le (by simp[HLEN.out])]at this)
   clear hlt;go_wp2_with fail;go_ret;exact⟨znc E2.out.symm,HB.out⟩
def eqT (t u:Tr):Bool:=decide (t.sc=u.sc)&&(decide (t.dt=u.dt)&&(decide (t.vn=u.vn)&&(decide (t.cm=u.cm)&&(decide (t.en=u.en)&&(decide (t.S=u.S)&&(decide (t.V=u.V)&&(decide (t.P=u.P)&&decide (t.G=u.G))))))))
theorem zeB {t u:Tr}:eqT t u=true↔t=u:=by
 unfold eqT;simp only[Bool.and_eq_true,decide_eq_true_iff];obtain⟨a1,a2,a3,a4,a5,a6,a7,a8,a9⟩:=t;obtain⟨b1,b2,b3,b4,b5,b6,b7,b8,b9⟩:=u;dsimp only;constructor
 ·rintro⟨rfl,rfl,rfl,rfl,rfl,rfl,rfl,rfl,rfl⟩;rfl
 ·intro h;injection h with h1 h2 h3 h4 h5 h6 h7 h8 h9;exact⟨h1,h2,h3,h4,h9,h5,h6,h8,h7⟩
theorem zqU (t u:Tr) (p q:TP) (w:World) (ht:TrM w t p) (hu:TrM w u q):Calls Tryz.prog 24 #[p.v t,q.v u] w fun e w'=>e=.returned (.bool (eqT t u))∧Below w.heap.size w w':=by
 obtain⟨hs,hv,hg,hq,hm⟩:=ht;obtain⟨hs2,hv2,hg2,hq2,hm2⟩:=hu;obtain⟨sc,dt,vn,cm,S,V,G,P,en⟩:=t;obtain⟨sc2,dt2,vn2,cm2,S2,V2,G2,P2,en2⟩:=u;obtain⟨ps,pv,pg,pp,M⟩:=p;obtain⟨qs,qv,qg,qp,M2⟩:=q;unfold TP.v;dsimp only at*;obtain⟨a1,c1,rfl,-,-⟩:=hs.shape;obtain⟨a2,c2,rfl,-,-⟩:=hv.shape;obtain⟨a3,c3,rfl,-,-⟩:=hg.s.shape;obtain⟨a4,c4,rfl,-,-⟩:=hq.shape;obtain⟨b1,e1,rfl,-,-⟩:=hs2.shape;obtain⟨b2,e2,rfl,-,-⟩:=hv2.shape;obtain⟨b3,e3,rfl,-,-⟩:=hg2.s.shape;obtain⟨b4,e4,rfl,-,-⟩:=hq2.shape;have hbw:Below w.heap.size w ((w.alloc (.cells #[.int .i64 sc,.string (bsB dt),.string (bsB vn),.string (bsB cm),.slice a1 S.length c1,.slice a2 V.length c2,.slice a3 M.length c3,.slice a4 P.length c4,.int .i64 en] 32)).alloc (.cells #[.int .i64 sc2,.string (bsB dt2),.string (bsB vn2),.string (bsB cm2),.slice b1 S2.length e1,.slice b2 V2.length e2,.slice b3 M2.length e3,.slice b4 P2.length e4,.int .i64 en2] 32)):=((Below.refl _ _).alloc (Nat.le_refl _) _).alloc (by simp) _;have HB:=lhd hbw;have HE:=lhd (show(decide (sc=sc2)&&(decide (dt=dt2)&&(decide (vn=vn2)&&(decide (cm=cm2)&&(decide (en=en2)&&(decide (S=S2)&&(decide (V=V2)&&(decide (P=P2)&&decide (G=G2)))))))))=eqT ⟨sc,dt,vn,cm,S,V,G,P,en⟩ ⟨sc2,dt2,vn2,cm2,S2,V2,G2,P2,en2⟩from rfl);generalize eqT ⟨sc,dt,vn,cm,S,V,G,P,en⟩ ⟨sc2,dt2,vn2,cm2,S2,V2,G2,P2,en2⟩=R at*;by_cases h1:sc=sc2
 rotate_left
 ·have b1:(sc==sc2)=false:=by simpa using h1
  have HR:=lhd (show false=R by rw[←HE.out,decide_eq_false h1];rfl);clear h1 hs hv hg hq hm hs2 hv2 hg2 hq2 hm2 hbw;go_enter Tryz.func24,Tryz.ntmps24;go_wp2_with fail;go_ret;exact⟨znc HR.out,HB.out⟩
 subst h1;by_cases h2:dt=dt2
 rotate_left
 ·have b2:=za2 (zbu h2);have HR:=lhd (show false=R by rw[←HE.out,decide_eq_false h2];simp);clear h2 hs hv hg hq hm hs2 hv2 hg2 hq2 hm2 hbw;go_enter Tryz.func24,Tryz.ntmps24;go_wp2_with fail;go_ret;exact⟨znc HR.out,HB.out⟩
 subst h2;by_cases h3:vn=vn2
 rotate_left
 ·have b2:=za2 (zbu h3);have HR:=lhd (show false=R by rw[←HE.out,decide_eq_false h3];simp);clear h3 hs hv hg hq hm hs2 hv2 hg2 hq2 hm2 hbw;go_enter Tryz.func24,Tryz.ntmps24;go_wp2_with fail;go_ret;exact⟨znc HR.out,HB.out⟩
 subst h3;by_cases h4:cm=cm2
 rotate_left
 ·have b2:=za2 (zbu h4);have HR:=lhd (show false=R by rw[←HE.out,decide_eq_false h4];simp);clear h4 hs hv hg hq hm hs2 hv2 hg2 hq2 hm2 hbw;go_enter Tryz.func24,Tryz.ntmps24;go_wp2_with fail;go_ret;exact⟨znc HR.out,HB.out⟩
 subst h4;by_cases h5:en=en2
 rotate_left
 ·have b1:(en==en2)=false:=by simpa using h5
  have HR:=lhd (show false=R by rw[←HE.out,decide_eq_false h5];simp);clear h5 hs hv hg hq hm hs2 hv2 hg2 hq2 hm2 hbw;go_enter Tryz.func24,Tryz.ntmps24;go_wp2_with fail;go_ret;exact⟨znc HR.out,HB.out⟩
 subst h5;have HE2:=lhd (show(decide (S=S2)&&(decide (V=V2)&&(decide (P=P2)&&decide (G=G2))))=R by rw[←HE.out];simp);have H6:=lhd (fun W hW=>zeF _ _ S S2 W (hs.below (HB.out.trans (hW:Below w.heap.size _ W))) (hs2.below (HB.out.trans hW)));have H7:=lhd (fun W hW=>zeG _ _ V V2 W (hv.below (HB.out.trans (hW:Below w.heap.size _ W))) (hv2.below (HB.out.trans hW)));have H8:=lhd (fun W hW=>zeE _ _ P P2 W (hq.below (HB.out.trans (hW:Below w.heap.size _ W))) (hq2.below (HB.out.trans hW)));have H9:=lhd (fun W hW=>zeH _ _ M M2 W (hg.below (HB.out.trans (hW:Below w.heap.size _ W))) (hg2.below (HB.out.trans hW)));rw[hm,hm2]at H9;clear hs hv hg hq hm hs2 hv2 hg2 hq2 hm2 hbw HE;generalize decide (S=S2)=r6 at*;generalize decide (V=V2)=r7 at*;generalize decide (P=P2)=r8 at*;generalize decide (G=G2)=r9 at*;have X1:=lhd ((zan.fresh w #[.int .i64 sc,.string (bsB dt),.string (bsB vn),.string (bsB cm),.slice a1 S.length c1,.slice a2 V.length c2,.slice a3 M.length c3,.slice a4 P.length c4,.int .i64 en] 32).below ((Below.refl _ _).alloc (Nat.le_refl _) (.cells #[.int .i64 sc,.string (bsB dt),.string (bsB vn),.string (bsB cm),.slice b1 S2.length e1,.slice b2 V2.length e2,.slice b3 M2.length e3,.slice b4 P2.length e4,.int .i64 en] 32)) (by simp));have Y1:=zan.fresh (w.alloc (.cells #[.int .i64 sc,.string (bsB dt),.string (bsB vn),.string (bsB cm),.slice a1 S.length c1,.slice a2 V.length c2,.slice a3 M.length c3,.slice a4 P.length c4,.int .i64 en] 32)) #[.int .i64 sc,.string (bsB dt),.string (bsB vn),.string (bsB cm),.slice b1 S2.length e1,.slice b2 V2.length e2,.slice b3 M2.length e3,.slice b4 P2.length e4,.int .i64 en] 32;rw[World.size_alloc]at Y1;have Y1:=lhd Y1;obtain⟨Wb,hWb⟩:∃X,(w.alloc (.cells #[.int .i64 sc,.string (bsB dt),.string (bsB vn),.string (bsB cm),.slice a1 S.length c1,.slice a2 V.length c2,.slice a3 M.length c3,.slice a4 P.length c4,.int .i64 en] 32)).alloc (.cells #[.int .i64 sc,.string (bsB dt),.string (bsB vn),.string (bsB cm),.slice b1 S2.length e1,.slice b2 V2.length e2,.slice b3 M2.length e3,.slice b4 P2.length e4,.int .i64 en] 32)=X:=⟨_,rfl⟩;have HZ:=lhd (show w.heap.size+1<Wb.heap.size by rw[←hWb];simp);rw[hWb]at X1 Y1 HB H6 H7 H8 H9;have HW:=lhd hWb;clear hWb;have H0:=lhd (Below.refl w.heap.size Wb);have c5:=X1.out.cell (j:=5) rfl;have c6:=X1.out.cell (j:=6) rfl;have c7:=X1.out.cell (j:=7) rfl;have g5:=Y1.out.cell (j:=5) rfl;have g6:=Y1.out.cell (j:=6) rfl;have g7:=Y1.out.cell (j:=7) rfl;go_enter Tryz.func24,Tryz.ntmps24;go_wp2_with fail;rw[HW.out];refine(H6.out _ H0.out).mono ?_;rintro e w6 ⟨rfl,hb8⟩;have HB6:=lhd ((show Below w.heap.size _ _ from H0.out).trans (hb8.mono (by have:=H0.out.size;have:=HZ.out;omega)));have X8:=lhd (X1.out.below hb8 (by have:=HZ.out;have:=H0.out.size;omega));have Y8:=lhd (Y1.out.below hb8 (by have:=HZ.out;have:=H0.out.size;omega));clear X1 Y1 c5 c6 c7 g5 g6 g7;have X1:=X8;have Y1:=Y8;clear X8 Y8 hb8;have c5:=X1.out.cell (j:=5) rfl;have c6:=X1.out.cell (j:=6) rfl;have c7:=X1.out.cell (j:=7) rfl;have g5:=Y1.out.cell (j:=5) rfl;have g6:=Y1.out.cell (j:=6) rfl;have g7:=Y1.out.cell (j:=7) rfl;cases r6
 ·have HR:=lhd (show false=R by rw[←HE2.out];rfl);go_wp2_with fail;go_ret;exact⟨znc HR.out,HB.out.trans HB6.out⟩
 go_wp2_with fail;refine(H7.out _ HB6.out).mono ?_;rintro e w7 ⟨rfl,hb8⟩;have HB7:=lhd ((show Below w.heap.size _ _ from HB6.out).trans (hb8.mono (by have:=HB6.out.size;have:=HZ.out;omega)));have X8:=lhd (X1.out.below hb8 (by have:=HZ.out;have:=HB6.out.size;omega));have Y8:=lhd (Y1.out.below hb8 (by have:=HZ.out;have:=HB6.out.size;omega));clear X1 Y1 c5 c6 c7 g5 g6 g7;have X1:=X8;have Y1:=Y8;clear X8 Y8 hb8;have c5:=X1.out.cell (j:=5) rfl;have c6:=X1.out.cell (j:=6) rfl;have c7:=X1.out.cell (j:=7) rfl;have g5:=Y1.out.cell (j:=5) rfl;have g6:=Y1.out.cell (j:=6) rfl;have g7:=Y1.out.cell (j:=7) rfl;cases r7
 ·have HR:=lhd (show false=R by rw[←HE2.out];rfl);go_wp2_with fail;go_ret;exact⟨znc HR.out,HB.out.trans HB7.out⟩
 go_wp2_with fail;refine(H8.out _ HB7.out).mono ?_;rintro e w8 ⟨rfl,hb8⟩;have HB8:=lhd ((show Below w.heap.size _ _ from HB7.out).trans (hb8.mono (by have:=HB7.out.size;have:=HZ.out;omega)));have X8:=lhd (X1.out.below hb8 (by have:=HZ.out;have:=HB7.out.size;omega));have Y8:=lhd (Y1.out.below hb8 (by have:=HZ.out;have:=HB7.out.size;omega));clear X1 Y1 c5 c6 c7 g5 g6 g7;have X1:=X8;have Y1:=Y8;clear X8 Y8 hb8;have c5:=X1.out.cell (j:=5) rfl;have c6:=X1.out.cell (j:=6) rfl;have c7:=X1.out.cell (j:=7) rfl;have g5:=Y1.out.cell (j:=5) rfl;have g6:=Y1.out.cell (j:=6) rfl;have g7:=Y1.out.cell (j:=7) rfl;cases r8
 ·have HR:=lhd (show false=R by rw[←HE2.out];rfl);go_wp2_with fail;go_ret;exact⟨znc HR.out,HB.out.trans HB8.out⟩
 go_wp2_with fail;refine(H9.out _ HB8.out).mono ?_;rintro e w9 ⟨rfl,hb8⟩;have HB9:=lhd ((show Below w.heap.size _ _ from HB8.out).trans (hb8.mono (by have:=HB8.out.size;have:=HZ.out;omega)));have X8:=lhd (X1.out.below hb8 (by have:=HZ.out;have:=HB8.out.size;omega));have Y8:=lhd (Y1.out.below hb8 (by have:=HZ.out;have:=HB8.out.size;omega));clear X1 Y1 c5 c6 c7 g5 g6 g7;have X1:=X8;have Y1:=Y8;clear X8 Y8 hb8;have c5:=X1.out.cell (j:=5) rfl;have c6:=X1.out.cell (j:=6) rfl;have c7:=X1.out.cell (j:=7) rfl;have g5:=Y1.out.cell (j:=5) rfl;have g6:=Y1.out.cell (j:=6) rfl;have g7:=Y1.out.cell (j:=7) rfl;have HR:=lhd (show r9=R by rw[←HE2.out];simp);go_wp2_with fail;go_ret;exact⟨znc HR.out,HB.out.trans HB9.out⟩
section
variable {P : Program} {ops : Array Oper} {Q : Exit → Act → World → Prop} {md : Region.Mode} {S : World → Prop} {X : Nat → Bool}
theorem ztJ {i:Nat} {oi:Oper} {v:Value} (hi:ops[i]? =some oi) (hsel:∀(j:Nat) (o:Oper) cs b,ops[j]? =some o→o.op≠ .select cs b)
 (hQ:∀c a w,Q (.panic c) (a.put oi.dst v) w→Q (.panic c) a w) (hX:X i=true):
 ∀(fuel:Nat) (listed:Array Bool) (a:Act) (w:World),
  (∀j oj,ops[j]? =some oj→j≠i→listed.getD j true=false→(∀e∈oj.after,Region.binds md e=true→e.on≠i)→oi.apart ops oj=true)→
  i∈Region.ready md ops listed→YieldsIf P ops (fun _=>True) oi v a→
  ztG P md ops Q S X fuel (listed.setIfInBounds i true) (a.put oi.dst v) w→ztG P md ops Q S X (fuel+1) listed a w:=by
 intro fuel;induction fuel with
 |zero=>
  intro listed a w _ hr hy H;refine⟨fun h=>(by rw[h]at hr;cases hr),fun j hj=>?_⟩;by_cases hji:j=i
  ·subst hji;exact hy.wpOp hi trivial ⟨fun h=>(by rw[hX]at h;cases h),H⟩
  ·have:=ready_mono hj hji;rw[H.1]at this;cases this
 |succ fuel ih=>
  intro listed a w hfree hr hy H;refine⟨fun h=>(by rw[h]at hr;cases hr),fun j hj=>?_⟩;by_cases hji:j=i
  ·subst hji;exact hy.wpOp hi trivial ⟨fun h=>(by rw[hX]at h;cases h),H⟩
  ·have h1:=H.2 j (ready_mono hj hji);obtain⟨hjun,oj,hoj,hall⟩:=mem_ready.1 hj
   have hnot:∀e∈oj.after,Region.binds md e=true→e.on≠i:=fun e he hb heq=>by
    have h1:=hall e he hb;have h0:=(mem_ready.1 hr).1;rw[heq]at h1;rcases Nat.lt_or_ge i listed.size with h'|h'
    ·simp[h']at h0 h1;rw[h0]at h1;cases h1
    ·simp[Array.getElem?_eq_none h']at h1
   have h2:=wpOp_putIf hoj (hfree j oj hoj hji hjun hnot) (fun cs b=>hsel i oi cs b hi) (fun cs b=>hsel j oj cs b hoj) hQ hy h1
   have hfree':∀k ok,ops[k]? =some ok→k≠i→(listed.setIfInBounds j true).getD k true=false→
    (∀e∈ok.after,Region.binds md e=true→e.on≠i)→oi.apart ops ok=true:=fun k ok hk hki hun hno=>by
    refine hfree k ok hk hki ?_ hno;by_cases hjk:j=k
    ·subst hjk;exact hjun
    ·rw[getD_set_ne true hjk]at hun;exact hun
   refine wpOp_mono (fun a' w' h3=>⟨h3.2.1,ih (listed.setIfInBounds j true) a' w' hfree' (ready_mono hr (Ne.symm hji)) h3.1 ?_⟩) h2;rw[Array.setIfInBounds_comm _ _ hji];exact h3.2.2
theorem ztK {i:Nat} {oi:Oper} {v:Value} {fuel:Nat} {listed:Array Bool} {a:Act} {w:World} (hi:ops[i]? =some oi)
 (hs:Region.noSelect ops=true) (hf:Region.free md ops listed i=true) (hr:(Region.ready md ops listed).contains i=true) (hX:X i=true)
 (hQ:∀c a w,Q (.panic c) (a.put oi.dst v) w→Q (.panic c) a w) (hy:YieldsIf P ops (fun _=>True) oi v a)
 (h:ztG P md ops Q S X fuel (listed.setIfInBounds i true) (a.put oi.dst v) w):ztG P md ops Q S X (fuel+1) listed a w:=
 ztJ hi (Region.noSelect_spec hs) hQ hX fuel listed a w (Region.free_spec hi hf) (by simpa using hr) hy h
end
theorem za8 {w w':World} {B e size n:Nat} {v:Value} {xs:List Value} (h:w.ownsRow B e size v n xs) (hb:Below w.heap.size w w'):w'.ownsRow B e size v n xs:=zlD h (Same0.of_below hb)
theorem zan.other {w:World} {b:Nat} {xs:List Value} (h:zan w b xs) {a:Addr} (hne:a.block≠b) (u:Value):zan (w.setCell a u) b xs:=by
 intro i v hi;refine⟨?_,by rw[World.frozen?_setCell];exact(h i v hi).2⟩;rw[World.cell?_setCell_other (h:=by rintro rfl;exact hne rfl)];exact(h i v hi).1
theorem zly {w:World} {B e size n:Nat} {v:Value} {xs:List Value} (h:w.ownsRow B e size v n xs) {g:Nat} (hg:v.ownBlock=some g):B≤g∧g<w.heap.size:=by
 rcases h.2 with⟨rfl,-⟩|⟨g',cap,cur,rfl,hb,hh,-⟩
 ·cases hg
 ·obtain rfl:g'=g:=by simpa[Value.ownBlock] using hg
  exact⟨hb,(Array.getElem?_eq_some_iff.1 hh).1⟩
theorem zlA {w:World} {B B' e e' size size' n n' g:Nat} {v v':Value} {xs xs':List Value} (h:w.ownsRow B e size v n xs) (h':w.ownsRow B' e' size' v' n' xs') (hne:e≠e') (hg:v'.ownBlock=some g):v.ownBlock≠some g:=by
 intro h0;rcases zlo h h' hne with h1|h1
 ·rw[h1]at h0;cases h0
 ·exact h1 (h0.trans hg.symm)
structure TrO (B:Nat) (w:World) (t:Tr) (p:TP):Prop where
 s:w.ownsRow B 66 3 p.vs t.S.length (scs t.S)
 v:w.ownsRow B 55 7 p.vv t.V.length (vrs t.V)
 g:w.ownsRow B 60 3 p.vg p.M.length (sgs p.M)
 c:∀x∈p.M,w.ownsRow B 57 2 x.2 x.1.2.2.length (chs x.1.2.2)
 q:w.ownsRow B 94 2 p.vp t.P.length (gps t.P)
 m:p.M.map Prod.fst=t.G
theorem TrO.m0 {B:Nat} {w:World} {t:Tr} {p:TP} (h:TrO B w t p):TrM w t p:=⟨SlR.of_own h.s,SlR.of_own h.v,⟨SlR.of_own h.g,fun x hx=>SlR.of_own (h.c x hx)⟩,SlR.of_own h.q,h.m⟩
def FitT (t:Tr):Prop:=t.S.length≤1000∧t.V.length≤1000∧t.G.length≤1000∧t.P.length≤1000∧∀s∈t.G,s.2.2.length≤100000
def set9 (W:World) (b:Nat) (u0 u1 u2 u3 u4 u5 u6 u7 u8:Value):World:=((((((((W.setCell ⟨b,0,none⟩ u0).setCell ⟨b,1,none⟩ u1).setCell ⟨b,2,none⟩ u2).setCell ⟨b,3,none⟩ u3).setCell ⟨b,4,none⟩ u4).setCell ⟨b,5,none⟩ u5).setCell ⟨b,6,none⟩ u6).setCell ⟨b,7,none⟩ u7).setCell ⟨b,8,none⟩ u8
theorem zoA {W:World} {b:Nat} {z0 z1 z2 z3 z4 z5 z6 z7 z8:Value} (h:zan W b [z0,z1,z2,z3,z4,z5,z6,z7,z8]) (u0 u1 u2 u3 u4 u5 u6 u7 u8:Value):zan (set9 W b u0 u1 u2 u3 u4 u5 u6 u7 u8) b [u0,u1,u2,u3,u4,u5,u6,u7,u8]:=
 ((((((((h.set (j:=0) (by simp) u0).set (j:=1) (by simp) u1).set (j:=2) (by simp) u2).set (j:=3) (by simp) u3).set (j:=4) (by simp) u4).set (j:=5) (by simp) u5).set (j:=6) (by simp) u6).set (j:=7) (by simp) u7).set (j:=8) (by simp) u8
theorem zoz {W:World} {b B e size n:Nat} {v:Value} {xs:List Value} (h:W.ownsRow B e size v n xs) (hb:b<B) (u0 u1 u2 u3 u4 u5 u6 u7 u8:Value):(set9 W b u0 u1 u2 u3 u4 u5 u6 u7 u8).ownsRow B e size v n xs:=
 ownsRow_setCell_below (ownsRow_setCell_below (ownsRow_setCell_below (ownsRow_setCell_below (ownsRow_setCell_below (ownsRow_setCell_below (ownsRow_setCell_below (ownsRow_setCell_below (ownsRow_setCell_below h hb u0) hb u1) hb u2) hb u3) hb u4) hb u5) hb u6) hb u7) hb u8
theorem zoy {B:Nat} {w W:World} {b:Nat} (h:Below B w W) (hb:B≤b) (u0 u1 u2 u3 u4 u5 u6 u7 u8:Value):Below B w (set9 W b u0 u1 u2 u3 u4 u5 u6 u7 u8):=
 ((((((((h.setCell hb u0).setCell hb u1).setCell hb u2).setCell hb u3).setCell hb u4).setCell hb u5).setCell hb u6).setCell hb u7).setCell hb u8
theorem zpi:∀(s:Bs),∃a r,spl s []=a::r∧(∀cur,spl s cur=(cur++a)::r)∧a++Lib.joinTail [32] r=s
 | []=>⟨[],[],rfl,fun cur=>by simp[spl],rfl⟩
 |c::t=>by
  obtain⟨a,r,h1,h2,h3⟩:=zpi t;by_cases hc:c=32
  ·subst hc;refine⟨[],a::r,by rw[spl,if_pos rfl,h1],fun cur=>by rw[spl,if_pos rfl,h1,List.append_nil],?_⟩;show []++(32::a++Lib.joinTail [32] r)=_;simp[h3]
  ·refine⟨c::a,r,by rw[spl,if_neg hc,h2];rfl,fun cur=>by rw[spl,if_neg hc,h2,List.append_assoc];rfl,?_⟩;rw[List.cons_append,h3]
theorem zpj (s:Bs):Lib.join (spl s []) [32]=s:=by
 obtain⟨a,r,h1,-,h3⟩:=zpi s;rw[h1,Lib.join_cons,h3]
theorem zhA (t:Bs):Lib.index (32::t) [32]=0:=by rw[Lib.index_one];rfl
theorem zhB {c:UInt8} (hc:c≠32) (t:Bs):Lib.index (c::t) [32]=if Lib.index t [32]= -1 then-1 else Lib.index t [32]+1:=by
 rw[Lib.index_one,Lib.index_one,Lib.indexByte,if_neg (by simpa using hc)];simp
theorem zhH {t:Bs} (h:t.count 32≠0):0≤Lib.index t [32]:=by
 induction t with
 |nil=>simp at h
 |cons c t ih=>
  by_cases hc:c=32
  ·subst hc;rw[zhA];omega
  ·rw[List.count_cons_of_ne (by simpa using hc)]at h;have:=ih h;rw[zhB hc,if_neg (by omega)];omega
theorem zpo:∀(s:Bs),Lib.splitK [32] 0 (s.count 32) s=spl s []
 | []=>rfl
 |c::t=>by
  have ih:=zpo t;obtain⟨a,r,h1,h2,-⟩:=zpi t;by_cases hc:c=32
  ·subst hc;rw[List.count_cons_self,Lib.splitK,if_neg (by rw[zhA];decide),zhA,spl,if_pos rfl,←ih];rfl
  ·rw[List.count_cons_of_ne (by simpa using hc),spl,if_neg hc,h2];rw[h1]at ih;cases hk:t.count 32 with
   |zero=>
    rw[hk,Lib.splitK]at ih;injection ih with e1 e2;subst e1 e2;rfl
   |succ k=>
    have hi:=zhH (t:=t) (by omega);rw[hk,Lib.splitK,if_neg (by rw[beq_iff_eq];omega)]at ih;injection ih with e1 e2;have hx:Lib.index (c::t) [32]=Lib.index t [32]+1:=by rw[zhB hc,if_neg (by omega)]
    rw[Lib.splitK,hx,if_neg (by rw[beq_iff_eq];omega)];obtain⟨i,hi2⟩:=Int.eq_ofNat_of_zero_le hi;rw[hi2]at e1 e2⊢;subst e1 e2;rw[show((i:Int)+1).toNat=i+1 by omega,Int.toNat_natCast];show(c::t).take (i+1)::Lib.splitK [32] 0 k ((c::t).drop (i+1+1))=_;rw[List.take_succ_cons,List.drop_succ_cons];rfl
theorem zpn (s:Bs):(Lib.splitB ⟨#[32]⟩ 0 (Lib.countB (bsB s) ⟨#[32]⟩) (bsB s)).map (fun x=>x.data.toList)=spl s []:=by
 rw[Lib.splitB_data]
 have e1:Lib.countB (bsB s) ⟨#[32]⟩=s.count 32:=by
  show Lib.count (bsB s).data.toList [32]=_;rw[Lib.count_one];simp[bsB]
 rw[e1];show Lib.splitK [32] 0 (s.count 32) (bsB s).data.toList=_;rw[show(bsB s).data.toList=s by simp[bsB],zpo]
theorem zpm (s:Bs):(Lib.splitB ⟨#[32]⟩ 0 (Lib.countB (bsB s) ⟨#[32]⟩) (bsB s))=(spl s []).map bsB:=by
 rw[←zpn,List.map_map];conv=>lhs;rw[←List.map_id (Lib.splitB ⟨#[32]⟩ 0 (Lib.countB (bsB s) ⟨#[32]⟩) (bsB s))]
 exact List.map_congr_left fun x _=>by
  obtain⟨⟨l⟩⟩:=x;rfl
theorem zpl (s:Bs):(spl s []).length=s.count 32+1:=by
 have:=Lib.splitB_all ⟨#[32]⟩ (by decide) 0 _ (bsB s) rfl;rw[zpm,List.length_map]at this;rw[this];congr 1
 show Lib.count (bsB s).data.toList [32]=_;rw[Lib.count_one];simp[bsB]
open Go.RowKit
set_option linter.unusedSimpArgs false
def Glm (w:World):Prop:=∃m,w.cell? ⟨1,0,none⟩=some (.int .i64 m)
theorem Glm.below {w w':World} (h:Glm w) (hb:Below w.heap.size w w'):Glm w':=by
 obtain⟨m,hm⟩:=h;exact⟨m,(hb.cell (p:=⟨1,0,none⟩) (zbU hm)).trans hm⟩
theorem zmG (s:ByteArray) (w:World) (hm:s.size≤2000000):Calls Tryz.prog 278 #[.string s] w fun e w'=>e=.returned (.bool (ztz s.data.toList))∧Below w.heap.size w w':=by
 have hP:=lhd (zmQ s);by_cases h0:s.size=0
 ·have HR:=lhd (show false=ztz s.data.toList by
   have:s.data.toList=[]:=by rw[←List.length_eq_zero_iff];simpa using h0
   rw[this];rfl)
  have hb:(s==(⟨#[]⟩:ByteArray))=true:=by
   have:s=⟨#[]⟩:=by cases s with|mk d=>congr;exact Array.eq_empty_of_size_eq_zero h0
   rw[this];rfl
  obtain rfl:s=⟨#[]⟩:=by cases s with|mk d=>congr;exact Array.eq_empty_of_size_eq_zero h0
  go_enter Tryz.func278,Tryz.ntmps278;go_wp2_with fail;go_ret;exact⟨znc HR.out,Below.refl _ _⟩
 ·have hne:decide (s=(⟨#[]⟩:ByteArray))=false:=by
   rw[decide_eq_false_iff_not];rintro rfl;exact h0 rfl
  have hlt:0<s.size:=by omega
  have hte:=zqR h0;have htn:¬s.toList=[]:=by intro h;rw[h]at hte;cases hte
  have hW:ztz s.data.toList=(!decide (s[0]'hlt=36)&&s.data.toList.all prn):=by
   unfold ztz
   have h1:s.data.toList≠ []:=by
    intro h;apply h0;have:=congrArg List.length h;simpa using this
   rw[decide_eq_false h1]
   have h2:s.data.toList.head? =some (s[0]'hlt):=by
    rw[List.head?_eq_getElem?,List.getElem?_eq_getElem (by simpa using hlt)];rfl
   rw[h2];simp
  have hu:(((s[0]'hlt).toNat:Int)==36)=decide (s[0]'hlt=36):=zrl (s[0]'hlt) 36 (by omega);by_cases hc:s[0]'hlt=36
  ·have HR:=lhd (show false=ztz s.data.toList by rw[hW,decide_eq_true hc];rfl);rw[decide_eq_true hc]at hu;have hcn:(s[0]'hlt).toNat=36:=by rw[hc];rfl
   clear hW hc;go_enter Tryz.func278,Tryz.ntmps278;go_wp2_with fail;go_ret;exact⟨znc HR.out,Below.refl _ _⟩
  ·have HR:=lhd (show s.data.toList.all prn=ztz s.data.toList by rw[hW,decide_eq_false hc];rfl);rw[decide_eq_false hc]at hu;have hcn:¬((s[0]'hlt).toNat:Int)=36:=by simpa using hu
   clear hW hc;go_enter Tryz.func278,Tryz.ntmps278;go_wp2_with fail;refine(hP.out _).mono ?_;rintro e w1 ⟨rfl,hb⟩;rw[HR.out];go_wp2_with fail;go_ret;exact⟨znc (by simp[bne,hu]),hb⟩
theorem zpk:∀(s cur:Bs),∀y∈spl s cur,y.length≤cur.length+s.length
 | [],cur,y,h=>by
   rw[show spl [] cur=[cur]from rfl,List.mem_singleton]at h;subst h;simp
 |c::t,cur,y,h=>by
  unfold spl at h;split at h
  ·rcases List.mem_cons.1 h with rfl|h
   ·omega
   ·have:=zpk t [] y h;simp at this⊢;omega
  ·have:=zpk t _ y h;simp at this⊢;omega
def zhM (L:List ByteArray):Int:=if L.all (fun x=>ztz x.data.toList)=true then if 200<(Lib.join (L.map (·.data.toList)) [32]).length then 9 else 0 else 3
theorem zmD (g:Nat) (L:List ByteArray) (w:World) (hc:∀(j:Nat) x,L[j]? =some x→w.cell? ⟨g,j,none⟩=some (.string x)) (hg:g<w.heap.size) (hL:L.length≤1000000)
 (hx:∀x∈L,x.size≤1000000) (hz:(Lib.join (L.map (·.data.toList)) [32]).length≤1000000):
 Calls Tryz.prog 212 #[.slice (some ⟨g,0,none⟩) L.length L.length] w fun e w'=>
  (∃s,e=.returned (.tuple #[.string s,.int .i64 (zhM L)]))∧Below w.heap.size w w':=by
 have HC:=lhd hc;have HX:=lhd hx;obtain⟨J,hJ⟩:∃J,J=Lib.join (L.map (·.data.toList)) [32]:=⟨_,rfl⟩;rw[←hJ]at hz;have HJ:=lhd hJ
 have HJoin:=lhd (fun(W:World) (hb:Below w.heap.size w W)=>Tryz.strings_Join g 0 L.length L ⟨#[32]⟩ W (fun j x h=>by rw[Nat.zero_add];exact(hb.cell (p:=⟨g,j,none⟩) hg).trans (hc j x h)) (Nat.lt_of_lt_of_le hg hb.size) (by omega) (Nat.le_refl _) (by
  show(Lib.join (L.map (·.data.toList)) [32]).length≤_;rw[←hJ];omega))
 clear hc hx hJ;have HB0:=lhd (Below.refl w.heap.size w);go_enter Tryz.func212,Tryz.ntmps212;go_wp2_with fail;go_loopw [9] (fun i wr=>∃k:Nat,k≤L.length∧i=.int .i64 k∧(L.take k).all (fun x=>ztz x.data.toList)=true∧Below w.heap.size w wr) (fun i _=>L.length-(intOf i).toNat)
 case atStart=>exact⟨0,Nat.zero_le _,rfl,rfl,HB0.out⟩
 case round=>
  obtain⟨k,hk,rfl,hal,hb⟩:=hrel;have HB:=lhd hb;have HA:=lhd hal;clear hal hb;by_cases hlt:k<L.length
  ·have d0:wr.cell? ⟨g,k,none⟩=some (.string L[k]):=(HB.out.cell (p:=⟨g,k,none⟩) hg).trans (HC.out k _ (List.getElem?_eq_getElem hlt));have HW:=lhd (zmG L[k] wr (Nat.le_trans (HX.out _ (List.getElem_mem hlt)) (by decide)));by_cases hw:ztz L[k].data.toList=true
   ·rw[hw]at HW
    have HA2:=lhd (show(L.take (k+1)).all (fun x=>ztz x.data.toList)=true by
     rw[List.take_succ_eq_append_getElem hlt,List.all_append,HA.out];simp[hw])
    clear hw;generalize L[k]=x at*;go_wp2_with fail;refine HW.out.mono ?_;rintro e w1 ⟨rfl,hb1⟩;have HB1:=lhd (HB.out.trans (hb1.mono HB.out.size));clear hb1;go_wp2_with fail;go_roundw;case rel=>exact⟨k+1,hlt,by go_num,HA2.out,HB1.out⟩
    case measure=>simp[intOf];omega
   ·have hwf:ztz L[k].data.toList=false:=by simpa using hw
    rw[hwf]at HW
    have HR:=lhd (show(3:Int)=zhM L by
     unfold zhM;rw[←HJ.out];rw[if_neg];intro h;rw[List.all_eq_true]at h;exact hw (h _ (List.getElem_mem hlt)))
    clear hw hwf;generalize L[k]=x at*;go_wp2_with fail;refine HW.out.mono ?_;rintro e w1 ⟨rfl,hb1⟩;have HB1:=lhd (HB.out.trans (hb1.mono HB.out.size));clear hb1;go_wp2_with fail;refine bodyPost_ret (v:=.tuple #[.string ⟨#[]⟩,.int .i64 3]) (by simp[results,Tryz.results212,go_sem]) rfl ?_;exact⟨⟨_,by rw[←HR.out]⟩,HB1.out⟩
  ·obtain rfl:k=L.length:=by omega
   have hal:L.all (fun x=>ztz x.data.toList)=true:=by have:=HA.out;rwa [List.take_length]at this
   have HAL:=lhd hal;clear hal hlt;obtain⟨SS,hSS⟩:∃SS:ByteArray,SS=⟨(Lib.join (L.map (·.data.toList)) [32]).toArray⟩:=⟨_,rfl⟩;have hsz:SS.size=J.length:=by rw[hSS,HJ.out];rfl
   have HJN:=HJoin.out wr HB.out;rw[show(Lib.join (L.map (·.data.toList)) (⟨#[32]⟩:ByteArray).data.toList)=(Lib.join (L.map (·.data.toList)) [32])from rfl,←hSS]at HJN;have HJN:=lhd HJN;clear hSS;by_cases h200:200<J.length
   ·have h2:(200:Int)<(SS.size:Int):=by omega
    have HR:=lhd (show(9:Int)=zhM L by
     unfold zhM;rw[←HJ.out];rw[if_pos HAL.out,if_pos h200])
    clear h200 hsz;go_wp2_with fail;refine HJN.out.mono ?_;rintro e w1 ⟨rfl,hb1⟩;have HB1:=lhd (HB.out.trans (hb1.mono HB.out.size));clear hb1;go_wp2_with fail;refine bodyPost_ret (v:=.tuple #[.string ⟨#[]⟩,.int .i64 9]) (by simp[results,Tryz.results212,go_sem]) rfl ?_;exact⟨⟨_,by rw[←HR.out]⟩,HB1.out⟩
   ·have h2:¬(200:Int)<(SS.size:Int):=by omega
    have HR:=lhd (show(0:Int)=zhM L by
     unfold zhM;rw[←HJ.out];rw[if_pos HAL.out,if_neg h200])
    clear h200 hsz;go_wp2_with fail;refine HJN.out.mono ?_;rintro e w1 ⟨rfl,hb1⟩;have HB1:=lhd (HB.out.trans (hb1.mono HB.out.size));clear hb1;go_wp2_with fail;refine bodyPost_ret (v:=.tuple #[.string SS,.int .i64 0]) (by simp[results,Tryz.results212,go_sem]) rfl ?_;exact⟨⟨_,by rw[←HR.out]⟩,HB1.out⟩
theorem zmF (s:ByteArray) (w:World) (hm:s.size≤100000) (hg:Glm w):Calls Tryz.prog 157 #[.string s] w fun e w'=>
 (∃v,e=.returned v∧((s.data.toList≠ []∧ztA s.data.toList=true∧∃g n,v=.slice (some ⟨g,0,none⟩) (n+1) (n+1))∨(v=.slice none 0 0∧(s.data.toList=[]∨ztA s.data.toList=false))))∧Below w.heap.size w w':=by
 by_cases h0:s.size=0
 ·obtain rfl:s=⟨#[]⟩:=by cases s with|mk d=>congr;exact Array.eq_empty_of_size_eq_zero h0
  go_enter Tryz.func157,Tryz.ntmps157;go_wp2_with fail;go_ret;exact⟨⟨_,rfl,Or.inr ⟨rfl,by simp⟩⟩,Below.refl _ _⟩
 ·have hte:=zqR h0;have htn:¬s.toList=[]:=by intro h;rw[h]at hte;cases hte
  have hne:¬s=(⟨#[]⟩:ByteArray):=by rintro rfl;exact h0 rfl
  obtain⟨m,hm0⟩:=hg;have HSP:=lhd (Tryz.strings_Split s ⟨#[32]⟩ m w (by omega) hm0 (by decide))
  have hl0:s.data.toList≠ []:=by
   intro h;apply h0;have:=congrArg List.length h;simpa using this
  have HL0:=lhd hl0;have hs:s=bsB s.data.toList:=by obtain⟨⟨l⟩⟩:=s;rfl
  have hall:Lib.splitB ⟨#[32]⟩ 0 (Lib.countB s ⟨#[32]⟩) s=(spl s.data.toList []).map bsB:=by
   conv=>lhs;rw[hs]
   exact zpm s.data.toList
  have hct:Lib.countB s ⟨#[32]⟩+1=(spl s.data.toList []).length:=by
   rw[←Lib.splitB_all ⟨#[32]⟩ (by decide) 0 _ s rfl,hall,List.length_map]
  rw[hall,hct]at HSP;obtain⟨L,hL⟩:∃L,L=(spl s.data.toList []).map bsB:=⟨_,rfl⟩;have hll:(spl s.data.toList []).length=L.length:=by rw[hL,List.length_map]
  rw[hll,←hL]at HSP
  have hlm:L.map (·.data.toList)=spl s.data.toList []:=by
   rw[hL,List.map_map];conv=>rhs;rw[←List.map_id (spl s.data.toList [])]
   rfl
  have hjn:Lib.join (L.map (·.data.toList)) [32]=s.data.toList:=by rw[hlm,zpj]
  have hE:zhM L=0↔ztA s.data.toList=true:=by
   unfold zhM ztA;rw[hjn,decide_eq_false hl0,Bool.false_or,hL,List.all_map];have e1:((fun x=>ztz x.data.toList)∘bsB)=ztz:=by funext x;rfl
   rw[e1];by_cases h1:(spl s.data.toList []).all ztz=true
   ·rw[if_pos h1,h1];by_cases h2:200<s.data.toList.length
    ·rw[if_pos h2];simp;simpa using h2
    ·rw[if_neg h2];simp;simpa using h2
   ·rw[if_neg h1];simp[h1]
  have HE:=lhd hE;have hlen:L.length=s.data.toList.count 32+1:=by rw[←hll,zpl]
  have hcz:s.data.toList.count 32≤s.size:=Nat.le_trans List.count_le_length (by simp);obtain⟨n,hn⟩:∃n,L.length=n+1:=⟨_,hlen⟩;have HN:=lhd hn
  have HJN:=lhd (fun(W:World)=>zmD w.heap.size L (w.alloc (.cells (L.map Value.string).toArray 9)) (fun j x h=>by
   have:=(zan.fresh w (L.map Value.string).toArray 9).cell (j:=j) (v:=.string x) (by simp[h])
   exact this) (by simp) (by omega) (fun x hx=>by
    rw[hL]at hx;obtain⟨y,hy,rfl⟩:=List.mem_map.1 hx;have:=zpk _ _ y hy;have h2:(bsB y).size=y.length:=rfl;rw[h2];have h3:s.data.toList.length=s.size:=rfl;simp at this;omega) (by rw[hjn];simpa using (show s.size≤1000000 by omega)))
  have HNE:=lhd hlen;clear hE hlen hcz hjn hlm hll hL hct hall hs hl0 hn hm0;go_enter Tryz.func157,Tryz.ntmps157;go_wp2_with fail;refine HSP.out.mono ?_;rintro e w1 ⟨rfl,rfl⟩;have HB0:=lhd (show Below w.heap.size w (w.alloc (.cells (L.map Value.string).toArray 9))from(Below.refl _ _).alloc (Nat.le_refl _) _);have HJ1:=lhd (HJN.out w);clear HSP HJN;rw[HN.out];generalize w.alloc (.cells (L.map Value.string).toArray 9)=w1 at*;rw[HN.out]at HJ1;by_cases hw:ztA s.data.toList=true
  ·have hj:=HE.out.2 hw;rw[hj]at HJ1;have HW:=lhd hw;clear hw hj;go_wp2_with fail;refine HJ1.out.mono ?_;rintro e w2 ⟨⟨x,rfl⟩,hb⟩;have HB:=lhd (HB0.out.trans (hb.mono HB0.out.size));clear hb;go_wp2_with fail;go_ret;exact⟨⟨_,rfl,Or.inl ⟨HL0.out,HW.out,_,_,rfl⟩⟩,HB.out⟩
  ·have hj:¬zhM L=0:=fun h=>hw (HE.out.1 h);have hj2:(zhM L==0)=false:=by simpa using hj
   have HW:=lhd (show ztA s.data.toList=false by simpa using hw);clear hw;generalize zhM L=q at*;go_wp2_with fail;refine HJ1.out.mono ?_;rintro e w2 ⟨⟨x,rfl⟩,hb⟩;have HB:=lhd (HB0.out.trans (hb.mono HB0.out.size));clear hb;go_wp2_with fail;go_ret;exact⟨⟨_,rfl,Or.inr ⟨rfl,Or.inr HW.out⟩⟩,HB.out⟩
theorem zmE (s:ByteArray) (w:World) (hm:s.size≤100000) (hg:Glm w):Calls Tryz.prog 107 #[.string s] w fun e w'=>e=.returned (.bool (ztA s.data.toList))∧Below w.heap.size w w':=by
 have HWD:=lhd (zmF s w hm hg);by_cases h0:s.size=0
 ·obtain rfl:s=⟨#[]⟩:=by cases s with|mk d=>congr;exact Array.eq_empty_of_size_eq_zero h0
  go_enter Tryz.func107,Tryz.ntmps107;go_wp2_with fail;go_ret;exact⟨rfl,Below.refl _ _⟩
 ·have hte:=zqR h0;have htn:¬s.toList=[]:=by intro h;rw[h]at hte;cases hte
  have hne:¬s=(⟨#[]⟩:ByteArray):=by rintro rfl;exact h0 rfl
  have hl0:s.data.toList≠ []:=by
   intro h;apply h0;have:=congrArg List.length h;simpa using this
  have HL:=lhd hl0;clear hl0;go_enter Tryz.func107,Tryz.ntmps107;go_wp2_with fail;refine HWD.out.mono ?_;rintro e w1 ⟨⟨v,rfl,hv⟩,hb⟩;have HB:=lhd hb;clear hb;rcases hv with⟨-,hv,g,n,rfl⟩|⟨rfl,hv⟩
  ·have HV:=lhd hv;clear hv;have hn:(0:Int)<((n+1:Nat):Int):=by omega
   have hn1:decide ((0:Int)<(n:Int)+1)=true:=by rw[decide_eq_true_iff];omega
   go_wp2_with fail;go_ret;exact⟨znc HV.out.symm,HB.out⟩
  ·have HV:=lhd (show ztA s.data.toList=false by rcases hv with hv|hv;exact absurd hv HL.out;exact hv);clear hv;go_wp2_with fail;go_ret;exact⟨znc HV.out.symm,HB.out⟩
end Go.Proofs.YtfppgpamkdkckaaGreatDoor
