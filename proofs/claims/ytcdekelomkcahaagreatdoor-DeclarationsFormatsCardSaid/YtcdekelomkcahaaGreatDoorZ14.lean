import Derived.Test.YtcdekelomkcahaaGreatDoorZ00
import Derived.Deep.CutRange
import Derived.Test.YtcdekelomkcahaaGreatDoorZ09
import Derived.Test.YtcdekelomkcahaaGreatDoorZ12
set_option maxRecDepth 100000
set_option maxHeartbeats 16000000
namespace Go.Proofs.YtcdekelomkcahaaGreatDoor
open Go.RowKit
set_option linter.unusedSimpArgs false
def behP (p:Int×Int×Int) (c:UInt8):Int×Int×Int:=if c=10 then(p.1+1,p.2.1+1,1)else(p.1+1,p.2.1,p.2.2+1)
abbrev plV (p:Int×Int×Int):Value:=.agg #[.int .i64 p.1,.int .i64 p.2.1,.int .i64 p.2.2]
theorem zgI (a b d:Int) (c:UInt8) (w:World) (ha:0≤a∧a≤1000000) (hb:0≤b∧b≤1000000) (hd:0≤d∧d≤1000000):
 Calls Tryz.prog 116 #[plV (a,b,d),.int .u8 (c.toNat:Int)] w fun e w'=>e=.returned (plV (behP (a,b,d) c))∧Below w.heap.size w w':=by
 obtain⟨ha1,ha2⟩:=ha;obtain⟨hb1,hb2⟩:=hb;obtain⟨hd1,hd2⟩:=hd;by_cases hc:c=10
 ·subst hc;go_enter Tryz.func116,Tryz.ntmps116;go_wp2_with fail;have hrow:=zaq.fresh (w.alloc (.cells #[.int .i64 a,.int .i64 b,.int .i64 d] 113)) #[.int .i64 (a+1),.int .i64 (b+1),.int .i64 1] 113;simp only[World.size_alloc]at hrow;have g0:=hrow.cell (j:=0) rfl;have g1:=hrow.cell (j:=1) rfl;have g2:=hrow.cell (j:=2) rfl;refine bodyPost_ret (v:=.agg #[.int .i64 (a+1),.int .i64 (b+1),.int .i64 1]) (by simp[results,Tryz.results116,go_sem,g0,g1,g2]) rfl ⟨by rw[show plV (behP (a,b,d) _)=.agg #[.int .i64 (a+1),.int .i64 (b+1),.int .i64 1]from by(first|rfl|(unfold behP;rw[if_neg HC.out]))],((Below.refl w.heap.size w).alloc (Nat.le_refl _) _).alloc (by simp) _⟩
 ·have HC:=lhd hc
  have h1:((c.toNat:Int)==10)=false:=by
   rw[beq_eq_false_iff_ne];intro e;exact hc (UInt8.toNat_inj.1 (by have:(10:UInt8).toNat=10:=rfl;omega))
  go_enter Tryz.func116,Tryz.ntmps116;go_wp2_with fail;have hrow:=zaq.fresh (w.alloc (.cells #[.int .i64 a,.int .i64 b,.int .i64 d] 113)) #[.int .i64 (a+1),.int .i64 b,.int .i64 (d+1)] 113;simp only[World.size_alloc]at hrow;have g0:=hrow.cell (j:=0) rfl;have g1:=hrow.cell (j:=1) rfl;have g2:=hrow.cell (j:=2) rfl;refine bodyPost_ret (v:=.agg #[.int .i64 (a+1),.int .i64 b,.int .i64 (d+1)]) (by simp[results,Tryz.results116,go_sem,g0,g1,g2]) rfl ⟨by rw[show plV (behP (a,b,d) _)=.agg #[.int .i64 (a+1),.int .i64 b,.int .i64 (d+1)]from by(first|rfl|(unfold behP;rw[if_neg HC.out]))],((Below.refl w.heap.size w).alloc (Nat.le_refl _) _).alloc (by simp) _⟩
theorem znd (base g c a m:Nat) (l P A S:List Vr) (y:Vr) (w:World) (hg:SO base g l.length c w l) (hl:l=P++(A++(y::S))) (hp:P.length=a) (hA:a+A.length=m) (h2A:2≤A.length) (hs:Srt vk A) (hn:l.length≤1000):
 Calls Tryz.prog 151 #[.slice (some ⟨g,0,none⟩) l.length c,.int .i64 a,.int .i64 m,.int .i64 ((m:Int)+1),(.func (.func 57) #[] #[])] w fun e w'=>
  e=.returned (.tuple #[])∧SO base g l.length c w' (P++(mrg vk A [y]++S))∧Below base w w':=by
 have H0:=lhd (show SO base g l.length c w (P++(A++(y::S)))by rw[←hl];exact hg);have hlen:l.length=m+1+S.length:=by rw[hl,←hA,←hp];simp only[List.length_append,List.length_cons];omega
 have HL:=lhd (And.intro hp (And.intro hA (And.intro hlen hn)));have HSR:=lhd hs;have hw0:IntKind.i64.wrap ((m:Int)+1-(m:Int))=1:=by rw[IntWalk.i64_in _ (by omega)];omega
 obtain⟨r,hr⟩:∃r:Int,IntKind.i64.wrap ((m:Int)-(a:Int))=r:=⟨_,rfl⟩;have hr1:(r==1)=false:=by rw[beq_eq_false_iff_ne,←hr,IntWalk.i64_in _ (by omega)];omega
 have ham:a≤m:=by omega
 have HAM:=lhd ham;generalize l.length=n at*;clear hg hl hp hA hs hlen hn h2A ham;go_enter Tryz.func151,Tryz.ntmps151;go_wp2_with fail;clear hw0 hr hr1;go_loopw [14,15] (fun vi vj wr=>∃i j:Nat,vi=.int .i64 i∧vj=.int .i64 j∧a≤i∧i≤j∧j≤m∧(∀t (h:t<A.length),a+t<i→vk A[t]≤vk y)∧(∀t (h:t<A.length),j≤a+t→vk y<vk A[t])∧SO base g n c wr (P++(A++(y::S)))∧Below base w wr) (fun vi vj _=>(intOf vj).toNat-(intOf vi).toNat)
 case atStart=>
  have h9:=HL.out;exact⟨a,m,rfl,rfl,Nat.le_refl _,HAM.out,Nat.le_refl _,fun t h h2=>by omega,fun t h h2=>by omega,H0.out,Below.refl _ _⟩
 case round=>
  obtain⟨i,j,rfl,rfl,h1,h2,h3,hlt1,hge1,hs,hbw⟩:=hrel;have HB:=lhd hbw;have HS:=lhd hs;have H1:=lhd hlt1;have H2:=lhd hge1;clear hbw hs hlt1 hge1;by_cases hij:i<j
  ·have hbn:=HL.out.2.1;have hnn:=HL.out.2.2;obtain⟨h,hh⟩:∃h,(i+j)/2=h:=⟨_,rfl⟩;have MID:=lhd (zhh (i:=i) (j:=j) (h:=h) (by omega) (by omega) hh);have hhi:i≤h∧h<j:=by omega
   have hlt:h-a<A.length:=by omega
   have hsA:A=A.take (h-a)++A[h-a]::A.drop (h-a+1):=by rw[←List.drop_eq_getElem_cons hlt,List.take_append_drop]
   have HCM:=lhd (fun(hc:¬vk y<vk A[h-a]) t (ht:t<A.length) (h2:a+t<h+1)=>(show vk A[t]≤vk y from Int.le_trans (zm1 HSR.out (show t≤h-a by omega) hlt) (Int.not_lt.1 hc)));have HCN:=lhd (fun(hc:vk y<vk A[h-a]) t (ht:t<A.length) (h2:h≤a+t)=>(show vk y<vk A[t]from Int.lt_of_lt_of_le hc (zm1 HSR.out (show h-a≤t by omega) ht)))
   have e1:P++(A++(y::S))=(P++A.take (h-a))++A[h-a]::(A.drop (h-a+1)++(y::S)):=by
    conv=>lhs;rw[hsA]
    simp only[List.append_assoc,List.cons_append]
   have e2:P++(A++(y::S))=(P++A)++y::S:=by rw[List.append_assoc]
   have hz:=(show SO base g n c wr ((P++A)++y::S)from e2▸HS.out).at;rw[show(P++A).length=m by rw[List.length_append,HL.out.1];omega]at hz;have hz2:=(show SO base g n c wr ((P++A.take (h-a))++A[h-a]::(A.drop (h-a+1)++(y::S)))from e1▸HS.out).at;rw[show(P++A.take (h-a)).length=h by rw[List.length_append,List.length_take,HL.out.1];omega]at hz2;have n1:(0:Int)≤(h:Int):=by omega
   have n2:(h:Int)<(n:Int):=by omega
   have n3:(0:Int)≤(m:Int):=by omega
   have n4:(m:Int)<(n:Int):=by omega
   have HLO:=lhd (show base≤wr.drew.heap.size from Nat.le_of_lt (Nat.lt_of_le_of_lt HS.out.lo.1 HS.out.lo.2));have HN:=lhd (show a≤i∧i≤h∧h<j∧j≤m from⟨h1,hhi.1,hhi.2,h3⟩);generalize A[h-a]=z at hz2 HCM HCN;obtain⟨y0,y1,y2,y3,y4,y5,y6⟩:=hz;obtain⟨z0,z1,z2,z3,z4,z5,z6⟩:=hz2;clear hbn hnn hsA e1 e2 hlt hhi hh h1 h2 h3;by_cases hc:vk y<vk z
   ·have HC:=lhd (show decide (vk y<vk z)=true from decide_eq_true hc);have HM:=lhd (HCN.out hc);obtain⟨m1,m2,m3,m4,m5⟩:=MID.out;clear hc;go_wp2_with fail;clear m1 m2 m3 m4
    go_region_held3 (fun w'=>w'.cell? ⟨g,m*7,none⟩=some (.string (bsB y.nm))∧w'.cell? ⟨g,m*7+1,none⟩=some (.int .i64 y.ty)∧w'.cell? ⟨g,m*7+2,none⟩=some (.int .i64 y.sc)∧w'.cell? ⟨g,m*7+3,none⟩=some (.int .i64 y.sg)∧w'.cell? ⟨g,m*7+4,none⟩=some (.bool y.rg)∧w'.cell? ⟨g,m*7+5,none⟩=some (.int .i64 y.mb)∧w'.cell? ⟨g,m*7+6,none⟩=some (.int .i64 y.lb)∧w'.cell? ⟨g,h*7,none⟩=some (.string (bsB z.nm))∧w'.cell? ⟨g,h*7+1,none⟩=some (.int .i64 z.ty)∧w'.cell? ⟨g,h*7+2,none⟩=some (.int .i64 z.sc)∧w'.cell? ⟨g,h*7+3,none⟩=some (.int .i64 z.sg)∧w'.cell? ⟨g,h*7+4,none⟩=some (.bool z.rg)∧w'.cell? ⟨g,h*7+5,none⟩=some (.int .i64 z.mb)∧w'.cell? ⟨g,h*7+6,none⟩=some (.int .i64 z.lb))
     (first|exact⟨y0,y1,y2,y3,y4,y5,y6,z0,z1,z2,z3,z4,z5,z6⟩|exact⟨u0,u1,u2,u3,u4,u5,u6,v0,v1,v2,v3,v4,v5,v6⟩|go_keep)
     (first
       |(go_at_call 57;refine(zm2 y z _).mono ?_;rintro e w2 ⟨r,rfl,hz,hb2⟩;rw[HC.out]at hz;have hs2:=SO.after HS.out.drew hb2;have HS2:=lhd hs2;have HB2:=lhd (HB.out.drew.trans (hb2.mono HLO.out));obtain⟨u0,u1,u2,u3,u4,u5,u6⟩:=(⟨(hb2.cell (p:=⟨g,m*7,none⟩) (zbA (show wr.drew.cell? _=some _ from y0))).trans y0,(hb2.cell (p:=⟨g,m*7+1,none⟩) (zbA (show wr.drew.cell? _=some _ from y1))).trans y1,(hb2.cell (p:=⟨g,m*7+2,none⟩) (zbA (show wr.drew.cell? _=some _ from y2))).trans y2,(hb2.cell (p:=⟨g,m*7+3,none⟩) (zbA (show wr.drew.cell? _=some _ from y3))).trans y3,(hb2.cell (p:=⟨g,m*7+4,none⟩) (zbA (show wr.drew.cell? _=some _ from y4))).trans y4,(hb2.cell (p:=⟨g,m*7+5,none⟩) (zbA (show wr.drew.cell? _=some _ from y5))).trans y5,(hb2.cell (p:=⟨g,m*7+6,none⟩) (zbA (show wr.drew.cell? _=some _ from y6))).trans y6⟩:_∧_∧_∧_∧_∧_∧_);obtain⟨v0,v1,v2,v3,v4,v5,v6⟩:=(⟨(hb2.cell (p:=⟨g,h*7,none⟩) (zbA (show wr.drew.cell? _=some _ from z0))).trans z0,(hb2.cell (p:=⟨g,h*7+1,none⟩) (zbA (show wr.drew.cell? _=some _ from z1))).trans z1,(hb2.cell (p:=⟨g,h*7+2,none⟩) (zbA (show wr.drew.cell? _=some _ from z2))).trans z2,(hb2.cell (p:=⟨g,h*7+3,none⟩) (zbA (show wr.drew.cell? _=some _ from z3))).trans z3,(hb2.cell (p:=⟨g,h*7+4,none⟩) (zbA (show wr.drew.cell? _=some _ from z4))).trans z4,(hb2.cell (p:=⟨g,h*7+5,none⟩) (zbA (show wr.drew.cell? _=some _ from z5))).trans z5,(hb2.cell (p:=⟨g,h*7+6,none⟩) (zbA (show wr.drew.cell? _=some _ from z6))).trans z6⟩:_∧_∧_∧_∧_∧_∧_);clear hb2 hs2)
       |fail "no arm")
    go_wp2_with fail;clear m5;go_roundw
    case rel=>
     have h9:=HN.out;exact⟨i,h,rfl,rfl,by omega,by omega,by omega,H1.out,HM.out,HS2.out,HB2.out⟩
    case measure=>
     have h9:=HN.out;simp[intOf];omega
   ·have HC:=lhd (show decide (vk y<vk z)=false from decide_eq_false hc);have HM:=lhd (HCM.out hc);obtain⟨m1,m2,m3,m4,m5⟩:=MID.out;clear hc;go_wp2_with fail;clear m1 m2 m3 m4
    go_region_held3 (fun w'=>w'.cell? ⟨g,m*7,none⟩=some (.string (bsB y.nm))∧w'.cell? ⟨g,m*7+1,none⟩=some (.int .i64 y.ty)∧w'.cell? ⟨g,m*7+2,none⟩=some (.int .i64 y.sc)∧w'.cell? ⟨g,m*7+3,none⟩=some (.int .i64 y.sg)∧w'.cell? ⟨g,m*7+4,none⟩=some (.bool y.rg)∧w'.cell? ⟨g,m*7+5,none⟩=some (.int .i64 y.mb)∧w'.cell? ⟨g,m*7+6,none⟩=some (.int .i64 y.lb)∧w'.cell? ⟨g,h*7,none⟩=some (.string (bsB z.nm))∧w'.cell? ⟨g,h*7+1,none⟩=some (.int .i64 z.ty)∧w'.cell? ⟨g,h*7+2,none⟩=some (.int .i64 z.sc)∧w'.cell? ⟨g,h*7+3,none⟩=some (.int .i64 z.sg)∧w'.cell? ⟨g,h*7+4,none⟩=some (.bool z.rg)∧w'.cell? ⟨g,h*7+5,none⟩=some (.int .i64 z.mb)∧w'.cell? ⟨g,h*7+6,none⟩=some (.int .i64 z.lb))
     (first|exact⟨y0,y1,y2,y3,y4,y5,y6,z0,z1,z2,z3,z4,z5,z6⟩|exact⟨u0,u1,u2,u3,u4,u5,u6,v0,v1,v2,v3,v4,v5,v6⟩|go_keep)
     (first
       |(go_at_call 57;refine(zm2 y z _).mono ?_;rintro e w2 ⟨r,rfl,hz,hb2⟩;rw[HC.out]at hz;have hs2:=SO.after HS.out.drew hb2;have HS2:=lhd hs2;have HB2:=lhd (HB.out.drew.trans (hb2.mono HLO.out));obtain⟨u0,u1,u2,u3,u4,u5,u6⟩:=(⟨(hb2.cell (p:=⟨g,m*7,none⟩) (zbA (show wr.drew.cell? _=some _ from y0))).trans y0,(hb2.cell (p:=⟨g,m*7+1,none⟩) (zbA (show wr.drew.cell? _=some _ from y1))).trans y1,(hb2.cell (p:=⟨g,m*7+2,none⟩) (zbA (show wr.drew.cell? _=some _ from y2))).trans y2,(hb2.cell (p:=⟨g,m*7+3,none⟩) (zbA (show wr.drew.cell? _=some _ from y3))).trans y3,(hb2.cell (p:=⟨g,m*7+4,none⟩) (zbA (show wr.drew.cell? _=some _ from y4))).trans y4,(hb2.cell (p:=⟨g,m*7+5,none⟩) (zbA (show wr.drew.cell? _=some _ from y5))).trans y5,(hb2.cell (p:=⟨g,m*7+6,none⟩) (zbA (show wr.drew.cell? _=some _ from y6))).trans y6⟩:_∧_∧_∧_∧_∧_∧_);obtain⟨v0,v1,v2,v3,v4,v5,v6⟩:=(⟨(hb2.cell (p:=⟨g,h*7,none⟩) (zbA (show wr.drew.cell? _=some _ from z0))).trans z0,(hb2.cell (p:=⟨g,h*7+1,none⟩) (zbA (show wr.drew.cell? _=some _ from z1))).trans z1,(hb2.cell (p:=⟨g,h*7+2,none⟩) (zbA (show wr.drew.cell? _=some _ from z2))).trans z2,(hb2.cell (p:=⟨g,h*7+3,none⟩) (zbA (show wr.drew.cell? _=some _ from z3))).trans z3,(hb2.cell (p:=⟨g,h*7+4,none⟩) (zbA (show wr.drew.cell? _=some _ from z4))).trans z4,(hb2.cell (p:=⟨g,h*7+5,none⟩) (zbA (show wr.drew.cell? _=some _ from z5))).trans z5,(hb2.cell (p:=⟨g,h*7+6,none⟩) (zbA (show wr.drew.cell? _=some _ from z6))).trans z6⟩:_∧_∧_∧_∧_∧_∧_);clear hb2 hs2)
       |fail "no arm")
    go_wp2_with fail;clear m5;go_roundw
    case rel=>
     have h9:=HN.out;exact⟨h+1,j,by simp,rfl,by omega,by omega,by omega,HM.out,H2.out,HS2.out,HB2.out⟩
    case measure=>
     have h9:=HN.out;simp[intOf];omega
  ·obtain rfl:i=j:=by omega
   obtain⟨d,hd⟩:∃d,i=a+d:=⟨i-a,by omega⟩;have hdA:d≤A.length:=by have:=HL.out.2.1;omega
   have HF:=lhd (show mrg vk A [y]=A.take d++y::A.drop d by
    conv=>lhs;rw[←List.take_append_drop d A]
    refine zht (by rw[List.take_append_drop];exact HSR.out) (fun x hx=>?_) (fun x hx=>?_)
    ·obtain⟨t,ht,rfl⟩:=List.mem_iff_getElem.1 hx;rw[List.length_take]at ht;rw[List.getElem_take];exact H1.out t (by omega) (by omega)
    ·obtain⟨t,ht,rfl⟩:=List.mem_iff_getElem.1 hx;rw[List.length_drop]at ht;rw[List.getElem_drop];exact H2.out (d+t) (by omega) (by omega))
   have HD:=lhd (And.intro hdA hd);clear h1 h2 h3 hij hd hdA;go_wp2_with fail;go_loopw [17] (fun vk2 wj=>∃k t:Nat,vk2=.int .i64 (k:Int)∧k=a+t∧d≤t∧t≤A.length∧SO base g n c wj (P++(A.take t++y::(A.drop t++S)))∧Below base w wj) (fun vk2 _=>(intOf vk2).toNat-a)
   case atStart=>
    have h9:=HL.out;exact⟨m,A.length,rfl,by omega,HD.out.1,Nat.le_refl _,by simpa using HS.out,HB.out⟩
   case round=>
    obtain⟨k,t,rfl,hk,htd,htA,hs,hbj⟩:=hrel;have HBJ:=lhd hbj;clear hbj;by_cases hlt:d<t
    ·have hd1:decide ((i:Int)<(k:Int))=true:=by have:=HD.out.2;rw[decide_eq_true_iff];omega
     have hd2:i<k:=by have:=HD.out.2;omega
     obtain⟨s,rfl⟩:∃s,t=s+1:=⟨t-1,by omega⟩;obtain⟨q,rfl⟩:∃q,k=q+1:=⟨k-1,by omega⟩;have hsA:s<A.length:=by omega
     have hL:=HL.out;have HN:=lhd (show A.drop s=A[s]::A.drop (s+1)from List.drop_eq_getElem_cons hsA);rw[List.take_succ_eq_append_getElem hsA]at hs;generalize A[s]=z at hs HN;rw[show P++((A.take s++ [z])++y::(A.drop (s+1)++S))=(P++A.take s)++z::([]++y::(A.drop (s+1)++S))by simp]at hs;have hPA:(P++A.take s).length=q:=by rw[List.length_append,List.length_take];omega
     have hz:=hs.at;have hs':=hs;rw[show(P++A.take s)++z::([]++y::(A.drop (s+1)++S))=(P++(A.take s++ [z]))++y::(A.drop (s+1)++S)by simp]at hs';have hz':=hs'.at;rw[show(P++(A.take s++ [z])).length=q+1 by simp only[List.length_append,List.length_singleton]at hPA⊢;omega]at hz';rw[hPA]at hz;obtain⟨x0,x1,x2,x3,x4,x5,x6⟩:=hz;obtain⟨y0,y1,y2,y3,y4,y5,y6⟩:=hz';have HSW:=lhd (hs.swap2 (p:=q) (q:=q+1) hPA (by rw[hPA];rfl));have hfz:=zjj hs;have n1:(0:Int)≤(q:Int):=by omega
     have n2:(q:Int)<(n:Int):=by omega
     have n3:(0:Int)≤(q:Int)+1:=by omega
     have n4:(q:Int)+1<(n:Int):=by omega
     have n5:((q:Int)+1).toNat=q+1:=by omega
     have hab:¬q+1=q:=by omega
     have hba:¬q=q+1:=by omega
     have HK:=lhd (And.intro hk (And.intro htd (And.intro hlt htA)));have m1:IntKind.i64.wrap ((q:Int)+1-1)=(q:Int):=by rw[IntWalk.i64_in _ (by omega)];omega
     have m2:IntKind.i64.wrap (q:Int)=(q:Int):=IntWalk.i64_in _ (by omega);clear hs hs' hPA hL hsA hk htd hlt htA;go_upto_region 23 with fail;go_region
     clear x0 x1 x2 x3 x4 x5 x6 y0 y1 y2 y3 y4 y5 y6 hfz hab hba n1 n2 n3 n4 n5;go_wp2_with fail;clear m1 m2;go_roundw
     case rel=>
      have h9:=HK.out;refine⟨q,s,rfl,by omega,by omega,by omega,?_,(HBJ.out.trans HSW.out.2).drew⟩;have h8:=HSW.out.1.drew;rw[show(P++A.take s)++y::([]++z::(A.drop (s+1)++S))=P++(A.take s++y::((z::A.drop (s+1))++S))by simp,←HN.out]at h8;exact h8
     case measure=>
      have h9:=HK.out;simp[intOf];omega
    ·have hd1:decide ((i:Int)<(k:Int))=false:=by have:=HD.out.2;rw[decide_eq_false_iff_not];omega
     have hd2:¬i<k:=by have:=HD.out.2;omega
     obtain rfl:t=d:=by omega
     have HFF:=lhd (show SO base g n c wr (P++(mrg vk A [y]++S))by rw[HF.out];simpa using hs);clear hs hk;go_wp2_with fail;refine bodyPost_ret (v:=.tuple #[]) (by simp[results,Tryz.results151,go_sem]) rfl ?_;exact⟨rfl,HFF.out,HBJ.out⟩
def zaA (base g c q:Nat):Prop:=∀(n a m b:Nat) (P A B S:List Vr) (w:World),A.length+B.length≤q→SO base g n c w (P++(A++(B++S)))→P.length=a→a+A.length=m→m+B.length=b→0<A.length→0<B.length→Srt vk A→Srt vk B→n≤1000→
 Calls Tryz.prog 151 #[.slice (some ⟨g,0,none⟩) n c,.int .i64 a,.int .i64 m,.int .i64 b,(.func (.func 57) #[] #[])] w fun e w'=>
  e=.returned (.tuple #[])∧SO base g n c w' (P++(mrg vk A B++S))∧Below base w w'
theorem znv {a m b d:Nat} (hd:(a+b)/2=d) (h1:a+2≤m) (h2:m+2≤b):
 ∃s0 r0,a≤s0∧s0≤r0∧r0≤m∧r0≤d∧d≤s0+(b-m)∧(s0=a∨d=s0+(b-m))∧(r0=m∨r0=d)∧(d<m→s0=d+m-b∧r0=d)∧(¬d<m→s0=a∧r0=m):=by
 by_cases h:d<m
 ·exact⟨d+m-b,d,by omega,by omega,by omega,by omega,by omega,Or.inr (by omega),Or.inr rfl,fun _=>⟨rfl,rfl⟩,fun h'=>absurd h h'⟩
 ·exact⟨a,m,by omega,by omega,by omega,by omega,by omega,Or.inl rfl,Or.inl rfl,fun h'=>absurd h' h,fun _=>⟨rfl,rfl⟩⟩
theorem zaC {x y:Nat} (hx:x+y≤1000000):IntKind.i64.wrap ((x:Int)+(y:Int))=((x+y:Nat):Int):=by rw[IntWalk.i64_in _ (by omega)];omega
theorem zm6 (base g c n s m en:Nat) (P X1 X2 Y1 Y2 S:List Vr) (w:World) (hg:SO base g n c w (P++(X1++(X2++(Y1++(Y2++S)))))) (hp:P.length+X1.length=s) (hA:s+X2.length=m) (hB:m+Y1.length=en) (h0:0<X2.length) (h1:0<Y1.length) (hn:n≤1000):
 Calls Tryz.prog 179 #[.slice (some ⟨g,0,none⟩) n c,.int .i64 s,.int .i64 m,.int .i64 en,(.func (.func 57) #[] #[])] w fun e w'=>
  e=.returned (.tuple #[])∧SO base g n c w' (P++(X1++(Y1++(X2++(Y2++S)))))∧Below base w w':=by
 have h6:=hg.len;have h5:=zm7 base g c s m en (P++(X1++(X2++(Y1++(Y2++S))))) (P++X1) X2 Y1 (Y2++S) w (by rw[h6];exact hg) (by rw[List.append_assoc]) (by rw[List.length_append];exact hp) hA hB h0 h1 (by rw[h6];exact hn);rw[h6,List.append_assoc]at h5;exact h5
theorem zlm {P X1 X2 Y1 Y2 S:List Vr} {s m en:Nat} (h8:¬(s<m∧m<en)) (h1:s+X2.length=m) (h2:m+Y1.length=en):P++(X1++(Y1++(X2++(Y2++S))))=P++(X1++(X2++(Y1++(Y2++S)))):=by
 by_cases k1:s<m
 ·obtain rfl:Y1=[]:=List.length_eq_zero_iff.1 (by omega);rfl
 ·obtain rfl:X2=[]:=List.length_eq_zero_iff.1 (by omega);rfl
theorem zhk {X Y:List Vr} {a s d:Nat} (h:¬(a<s∧s<d)) (h1:a+X.length=s) (h2:s+Y.length=d) (hs:Srt vk X):mrg vk X Y=X++Y:=by
 by_cases k:a<s
 ·obtain rfl:Y=[]:=List.length_eq_zero_iff.1 (by omega);rw[zhr hs,List.append_nil]
 ·obtain rfl:X=[]:=List.length_eq_zero_iff.1 (by omega);rfl
theorem zne (base g c q n a m b:Nat) (P A B S:List Vr) (w:World) (IH:zaA base g c q) (hq:A.length+B.length≤q+1) (hg:SO base g n c w (P++(A++(B++S)))) (hp:P.length=a) (hA:a+A.length=m) (hB:m+B.length=b)
 (h2A:2≤A.length) (h2B:2≤B.length) (hsA:Srt vk A) (hsB:Srt vk B) (hn:n≤1000):
 Calls Tryz.prog 151 #[.slice (some ⟨g,0,none⟩) n c,.int .i64 a,.int .i64 m,.int .i64 b,(.func (.func 57) #[] #[])] w fun e w'=>
  e=.returned (.tuple #[])∧SO base g n c w' (P++(mrg vk A B++S))∧Below base w w':=by
 have H0:=lhd hg;have hlen:n=b+S.length:=by have:=hg.len;simp only[List.length_append]at this;omega
 have HL:=lhd (show P.length=a∧a+A.length=m∧m+B.length=b∧n=b+S.length∧n≤1000∧2≤A.length∧2≤B.length∧A.length+B.length≤q+1 from⟨hp,hA,hB,hlen,hn,h2A,h2B,hq⟩);have HSA:=lhd hsA;have HSB:=lhd hsB;have HI:=lhd IH;obtain⟨d,hd⟩:∃d,(a+b)/2=d:=⟨_,rfl⟩;obtain⟨s0,r0,f1,f2,f3,f4,f5,f6,f7,f8,f9⟩:=znv hd (show a+2≤m by omega) (show m+2≤b by omega);have HF:=lhd (show(a+b)/2=d∧a≤s0∧s0≤r0∧r0≤m∧r0≤d∧d≤s0+(b-m)∧(s0=a∨d=s0+(b-m))∧(r0=m∨r0=d)from⟨hd,f1,f2,f3,f4,f5,f6,f7⟩);have HC1:=lhd f8;have HC2:=lhd f9;obtain⟨nn,hnn⟩:∃nn,d+m=nn:=⟨_,rfl⟩;obtain⟨p,hpp⟩:∃p,nn=p+1:=⟨nn-1,by omega⟩;have HN:=lhd (show d+m=nn∧nn=p+1∧d≤1000∧m≤1000∧b≤1000 from⟨hnn,hpp,by omega,by omega,by omega⟩);have MID:=lhd (zhh (i:=a) (j:=b) (h:=d) (by omega) (by omega) hd);obtain⟨q1,w1⟩:∃q1:Int,IntKind.i64.wrap ((m:Int)-(a:Int))=q1:=⟨_,rfl⟩;obtain⟨q2,w2⟩:∃q2:Int,IntKind.i64.wrap ((b:Int)-(m:Int))=q2:=⟨_,rfl⟩;have w1n:(q1==1)=false:=by rw[beq_eq_false_iff_ne,←w1,IntWalk.i64_in _ (by omega)];omega
 have w2n:(q2==1)=false:=by rw[beq_eq_false_iff_ne,←w2,IntWalk.i64_in _ (by omega)];omega
 have w3:IntKind.i64.wrap ((d:Int)+(m:Int))=(nn:Int):=by rw[←hnn];exact zaC (by omega)
 have w4:IntKind.i64.wrap ((nn:Int)-1)=(p:Int):=by rw[IntWalk.i64_in _ (by omega)];omega
 clear IH hg hp hA hB h2A h2B hsA hsB hn hq hlen f1 f2 f3 f4 f5 f6 f7 f8 f9 hd hnn hpp;go_enter Tryz.func151,Tryz.ntmps151;obtain⟨m1,m2,m3,m4,m5⟩:=MID.out;clear m5;go_upto_region 24 with fail;clear w1 w2 w1n w2n;go_cut [18]from 129 to 134 (fun u wc=>u=.int .i64 d∧wc=w)
 case first=>
  go_wp2_with fail;go_meet
  case rel=>exact⟨by rw[MID.out.2.2.2.1],rfl⟩
 clear m1 m2 m3 m4;obtain⟨rfl,hcw⟩:=hcut;obtain rfl:w=wc:=hcw.symm;go_upto_if 140 with fail
 clear w3;go_cut [20,21]from 138 to 146 (fun u v wc=>u=.int .i64 s0∧v=.int .i64 r0∧wc=w)
 case first=>
  by_cases hdm:d<m
  ·have h8:=HC1.out hdm
   have w5:IntKind.i64.wrap ((nn:Int)-(b:Int))=(s0:Int):=by
    have h9:=HN.out;have h7:=HF.out;rw[IntWalk.i64_in _ (by omega)];omega
   obtain⟨-,h8⟩:=h8;clear w4;go_wp2_with fail;go_meet
   case rel=>exact⟨rfl,by rw[h8],rfl⟩
  ·obtain⟨h8,h9⟩:=HC2.out hdm;clear w4;go_wp2_with fail;go_meet
   case rel=>exact⟨by rw[h8],by rw[h9],rfl⟩
 case rest=>
  obtain⟨rfl,rfl,hcw⟩:=hcut;obtain rfl:w=wc:=hcw.symm;go_wp2_with fail;clear w4;go_loopw [20,21] (fun vs vr wr=>∃s r:Nat,vs=.int .i64 s∧vr=.int .i64 r∧s0≤s∧s≤r∧r≤r0∧(∀i u (hi:i<A.length) (hu:u<B.length),s0≤a+i→a+i<s→a+i+u+1=d→vk A[i]≤vk B[u])∧(∀i u (hi:i<A.length) (hu:u<B.length),r≤a+i→a+i<r0→a+i+u+1=d→vk B[u]<vk A[i])∧SO base g n c wr (P++(A++(B++S)))∧Below base w wr) (fun vs vr _=>(intOf vr).toNat-(intOf vs).toNat)
  case atStart=>
   have h9:=HF.out;exact⟨s0,r0,rfl,rfl,Nat.le_refl _,by omega,Nat.le_refl _,fun i u _ _ h1 h2 _=>by omega,fun i u _ _ h1 h2 _=>by omega,H0.out,Below.refl _ _⟩
  case round=>
   obtain⟨s,r,rfl,rfl,h1,h2,h3,hlt1,hge1,hs,hbw⟩:=hrel;have HB:=lhd hbw;have HS:=lhd hs;have H1:=lhd hlt1;have H2:=lhd hge1;clear hbw hs hlt1 hge1;by_cases hsr:s<r
   ·obtain⟨h,hh⟩:∃h,(s+r)/2=h:=⟨_,rfl⟩;have hL:=HL.out;have hF:=HF.out;have hN:=HN.out;have MD:=lhd (zhh (i:=s) (j:=r) (h:=h) (by omega) (by omega) hh);have hhi:s≤h∧h<r:=by omega
    obtain⟨i0,hi0⟩:∃i0,a+i0=h:=⟨h-a,by omega⟩;obtain⟨u0,hu0⟩:∃u0,h+u0+1=d:=⟨d-1-h,by omega⟩;obtain⟨pc,hpc⟩:∃pc,m+u0=pc:=⟨_,rfl⟩;have hiA:i0<A.length:=by omega
    have huB:u0<B.length:=by omega
    have W6:=lhd (show IntKind.i64.wrap ((p:Int)-(h:Int))=(pc:Int)by rw[IntWalk.i64_in _ (by omega)];omega);have hAA:A=A.take i0++A[i0]::A.drop (i0+1):=by rw[←List.drop_eq_getElem_cons hiA,List.take_append_drop]
    have hBB:B=B.take u0++B[u0]::B.drop (u0+1):=by rw[←List.drop_eq_getElem_cons huB,List.take_append_drop]
    have HCM:=lhd (fun(hc:¬vk B[u0]<vk A[i0]) i u (hi:i<A.length) (hu:u<B.length) (k1:s0≤a+i) (k2:a+i<h+1) (k3:a+i+u+1=d)=>(show vk A[i]≤vk B[u]from Int.le_trans (zm1 HSA.out (show i≤i0 by omega) hiA) (Int.le_trans (Int.not_lt.1 hc) (zm1 HSB.out (show u0≤u by omega) hu))));have HCN:=lhd (fun(hc:vk B[u0]<vk A[i0]) i u (hi:i<A.length) (hu:u<B.length) (k1:h≤a+i) (k2:a+i<r0) (k3:a+i+u+1=d)=>(show vk B[u]<vk A[i]from Int.lt_of_le_of_lt (zm1 HSB.out (show u≤u0 by omega) huB) (Int.lt_of_lt_of_le hc (zm1 HSA.out (show i0≤i by omega) hi))))
    have e1:P++(A++(B++S))=(P++A.take i0)++A[i0]::(A.drop (i0+1)++(B++S)):=by
     conv=>lhs;rw[hAA]
     simp only[List.append_assoc,List.cons_append]
    have e2:P++(A++(B++S))=(P++(A++B.take u0))++B[u0]::(B.drop (u0+1)++S):=by
     conv=>lhs;rw[hBB]
     simp only[List.append_assoc,List.cons_append]
    have hz:=(show SO base g n c wr ((P++(A++B.take u0))++B[u0]::(B.drop (u0+1)++S))from e2▸HS.out).at;rw[show(P++(A++B.take u0)).length=pc by rw[List.length_append,List.length_append,List.length_take];omega]at hz;have hz2:=(show SO base g n c wr ((P++A.take i0)++A[i0]::(A.drop (i0+1)++(B++S)))from e1▸HS.out).at;rw[show(P++A.take i0).length=h by rw[List.length_append,List.length_take];omega]at hz2;have n1:(0:Int)≤(h:Int):=by omega
    have n2:(h:Int)<(n:Int):=by omega
    have n3:(0:Int)≤(pc:Int):=by omega
    have n4:(pc:Int)<(n:Int):=by omega
    have HLO:=lhd (show base≤wr.drew.heap.size from Nat.le_of_lt (Nat.lt_of_le_of_lt HS.out.lo.1 HS.out.lo.2));have HX:=lhd (show s0≤s∧s≤h∧h<r∧r≤r0 from⟨h1,hhi.1,hhi.2,h3⟩);generalize A[i0]=z at hz2 HCM HCN;generalize B[u0]=y at hz HCM HCN;obtain⟨y0,y1,y2,y3,y4,y5,y6⟩:=hz;obtain⟨z0,z1,z2,z3,z4,z5,z6⟩:=hz2;clear hL hF hN hAA hBB e1 e2 hiA huB hhi hh hi0 hu0 hpc h1 h2 h3;by_cases hc:vk y<vk z
    ·have HC:=lhd (show decide (vk y<vk z)=true from decide_eq_true hc);have HM:=lhd (HCN.out hc);obtain⟨m1,m2,m3,m4,m5⟩:=MD.out;have w6:=W6.out;clear hc;go_wp2_with fail;clear m1 m2 m3 m4
     go_region_held3 (fun w'=>w'.cell? ⟨g,pc*7,none⟩=some (.string (bsB y.nm))∧w'.cell? ⟨g,pc*7+1,none⟩=some (.int .i64 y.ty)∧w'.cell? ⟨g,pc*7+2,none⟩=some (.int .i64 y.sc)∧w'.cell? ⟨g,pc*7+3,none⟩=some (.int .i64 y.sg)∧w'.cell? ⟨g,pc*7+4,none⟩=some (.bool y.rg)∧w'.cell? ⟨g,pc*7+5,none⟩=some (.int .i64 y.mb)∧w'.cell? ⟨g,pc*7+6,none⟩=some (.int .i64 y.lb)∧w'.cell? ⟨g,h*7,none⟩=some (.string (bsB z.nm))∧w'.cell? ⟨g,h*7+1,none⟩=some (.int .i64 z.ty)∧w'.cell? ⟨g,h*7+2,none⟩=some (.int .i64 z.sc)∧w'.cell? ⟨g,h*7+3,none⟩=some (.int .i64 z.sg)∧w'.cell? ⟨g,h*7+4,none⟩=some (.bool z.rg)∧w'.cell? ⟨g,h*7+5,none⟩=some (.int .i64 z.mb)∧w'.cell? ⟨g,h*7+6,none⟩=some (.int .i64 z.lb))
      (first|exact⟨y0,y1,y2,y3,y4,y5,y6,z0,z1,z2,z3,z4,z5,z6⟩|exact⟨u0,u1,u2,u3,u4,u5,u6,v0,v1,v2,v3,v4,v5,v6⟩|go_keep)
      (first
        |(go_at_call 57;refine(zm2 y z _).mono ?_;rintro e w2 ⟨rz,rfl,hz,hb2⟩;rw[HC.out]at hz;have hs2:=SO.after HS.out.drew hb2;have HS2:=lhd hs2;have HB2:=lhd (HB.out.drew.trans (hb2.mono HLO.out));obtain⟨u0,u1,u2,u3,u4,u5,u6⟩:=(⟨(hb2.cell (p:=⟨g,pc*7,none⟩) (zbA (show wr.drew.cell? _=some _ from y0))).trans y0,(hb2.cell (p:=⟨g,pc*7+1,none⟩) (zbA (show wr.drew.cell? _=some _ from y1))).trans y1,(hb2.cell (p:=⟨g,pc*7+2,none⟩) (zbA (show wr.drew.cell? _=some _ from y2))).trans y2,(hb2.cell (p:=⟨g,pc*7+3,none⟩) (zbA (show wr.drew.cell? _=some _ from y3))).trans y3,(hb2.cell (p:=⟨g,pc*7+4,none⟩) (zbA (show wr.drew.cell? _=some _ from y4))).trans y4,(hb2.cell (p:=⟨g,pc*7+5,none⟩) (zbA (show wr.drew.cell? _=some _ from y5))).trans y5,(hb2.cell (p:=⟨g,pc*7+6,none⟩) (zbA (show wr.drew.cell? _=some _ from y6))).trans y6⟩:_∧_∧_∧_∧_∧_∧_);obtain⟨v0,v1,v2,v3,v4,v5,v6⟩:=(⟨(hb2.cell (p:=⟨g,h*7,none⟩) (zbA (show wr.drew.cell? _=some _ from z0))).trans z0,(hb2.cell (p:=⟨g,h*7+1,none⟩) (zbA (show wr.drew.cell? _=some _ from z1))).trans z1,(hb2.cell (p:=⟨g,h*7+2,none⟩) (zbA (show wr.drew.cell? _=some _ from z2))).trans z2,(hb2.cell (p:=⟨g,h*7+3,none⟩) (zbA (show wr.drew.cell? _=some _ from z3))).trans z3,(hb2.cell (p:=⟨g,h*7+4,none⟩) (zbA (show wr.drew.cell? _=some _ from z4))).trans z4,(hb2.cell (p:=⟨g,h*7+5,none⟩) (zbA (show wr.drew.cell? _=some _ from z5))).trans z5,(hb2.cell (p:=⟨g,h*7+6,none⟩) (zbA (show wr.drew.cell? _=some _ from z6))).trans z6⟩:_∧_∧_∧_∧_∧_∧_);clear hb2 hs2)
        |fail "no arm")
     go_wp2_with fail;clear m5 w6;go_roundw
     case rel=>
      have h9:=HX.out;exact⟨s,h,rfl,rfl,by omega,by omega,by omega,H1.out,HM.out,HS2.out,HB2.out⟩
     case measure=>
      have h9:=HX.out;simp[intOf];omega
    ·have HC:=lhd (show decide (vk y<vk z)=false from decide_eq_false hc);have HM:=lhd (HCM.out hc);obtain⟨m1,m2,m3,m4,m5⟩:=MD.out;have w6:=W6.out;clear hc;go_wp2_with fail;clear m1 m2 m3 m4
     go_region_held3 (fun w'=>w'.cell? ⟨g,pc*7,none⟩=some (.string (bsB y.nm))∧w'.cell? ⟨g,pc*7+1,none⟩=some (.int .i64 y.ty)∧w'.cell? ⟨g,pc*7+2,none⟩=some (.int .i64 y.sc)∧w'.cell? ⟨g,pc*7+3,none⟩=some (.int .i64 y.sg)∧w'.cell? ⟨g,pc*7+4,none⟩=some (.bool y.rg)∧w'.cell? ⟨g,pc*7+5,none⟩=some (.int .i64 y.mb)∧w'.cell? ⟨g,pc*7+6,none⟩=some (.int .i64 y.lb)∧w'.cell? ⟨g,h*7,none⟩=some (.string (bsB z.nm))∧w'.cell? ⟨g,h*7+1,none⟩=some (.int .i64 z.ty)∧w'.cell? ⟨g,h*7+2,none⟩=some (.int .i64 z.sc)∧w'.cell? ⟨g,h*7+3,none⟩=some (.int .i64 z.sg)∧w'.cell? ⟨g,h*7+4,none⟩=some (.bool z.rg)∧w'.cell? ⟨g,h*7+5,none⟩=some (.int .i64 z.mb)∧w'.cell? ⟨g,h*7+6,none⟩=some (.int .i64 z.lb))
      (first|exact⟨y0,y1,y2,y3,y4,y5,y6,z0,z1,z2,z3,z4,z5,z6⟩|exact⟨u0,u1,u2,u3,u4,u5,u6,v0,v1,v2,v3,v4,v5,v6⟩|go_keep)
      (first
        |(go_at_call 57;refine(zm2 y z _).mono ?_;rintro e w2 ⟨rz,rfl,hz,hb2⟩;rw[HC.out]at hz;have hs2:=SO.after HS.out.drew hb2;have HS2:=lhd hs2;have HB2:=lhd (HB.out.drew.trans (hb2.mono HLO.out));obtain⟨u0,u1,u2,u3,u4,u5,u6⟩:=(⟨(hb2.cell (p:=⟨g,pc*7,none⟩) (zbA (show wr.drew.cell? _=some _ from y0))).trans y0,(hb2.cell (p:=⟨g,pc*7+1,none⟩) (zbA (show wr.drew.cell? _=some _ from y1))).trans y1,(hb2.cell (p:=⟨g,pc*7+2,none⟩) (zbA (show wr.drew.cell? _=some _ from y2))).trans y2,(hb2.cell (p:=⟨g,pc*7+3,none⟩) (zbA (show wr.drew.cell? _=some _ from y3))).trans y3,(hb2.cell (p:=⟨g,pc*7+4,none⟩) (zbA (show wr.drew.cell? _=some _ from y4))).trans y4,(hb2.cell (p:=⟨g,pc*7+5,none⟩) (zbA (show wr.drew.cell? _=some _ from y5))).trans y5,(hb2.cell (p:=⟨g,pc*7+6,none⟩) (zbA (show wr.drew.cell? _=some _ from y6))).trans y6⟩:_∧_∧_∧_∧_∧_∧_);obtain⟨v0,v1,v2,v3,v4,v5,v6⟩:=(⟨(hb2.cell (p:=⟨g,h*7,none⟩) (zbA (show wr.drew.cell? _=some _ from z0))).trans z0,(hb2.cell (p:=⟨g,h*7+1,none⟩) (zbA (show wr.drew.cell? _=some _ from z1))).trans z1,(hb2.cell (p:=⟨g,h*7+2,none⟩) (zbA (show wr.drew.cell? _=some _ from z2))).trans z2,(hb2.cell (p:=⟨g,h*7+3,none⟩) (zbA (show wr.drew.cell? _=some _ from z3))).trans z3,(hb2.cell (p:=⟨g,h*7+4,none⟩) (zbA (show wr.drew.cell? _=some _ from z4))).trans z4,(hb2.cell (p:=⟨g,h*7+5,none⟩) (zbA (show wr.drew.cell? _=some _ from z5))).trans z5,(hb2.cell (p:=⟨g,h*7+6,none⟩) (zbA (show wr.drew.cell? _=some _ from z6))).trans z6⟩:_∧_∧_∧_∧_∧_∧_);clear hb2 hs2)
        |fail "no arm")
     go_wp2_with fail;clear m5 w6;go_roundw
     case rel=>
      have h9:=HX.out;exact⟨h+1,r,by simp,rfl,by omega,by omega,by omega,HM.out,H2.out,HS2.out,HB2.out⟩
     case measure=>
      have h9:=HX.out;simp[intOf];omega
   ·obtain rfl:s=r:=by omega
    have hL:=HL.out;have hF:=HF.out;have hN:=HN.out
    obtain⟨X1,X2,Y1,Y2,eA,eB,l1,l2⟩:∃X1 X2 Y1 Y2:List Vr,A=X1++X2∧B=Y1++Y2∧X1.length=s-a∧Y1.length=d-s:=
     ⟨A.take (s-a),A.drop (s-a),B.take (d-s),B.drop (d-s),(List.take_append_drop _ _).symm,(List.take_append_drop _ _).symm,by rw[List.length_take];omega,by rw[List.length_take];omega⟩
    have HM:=lhd (show mrg vk A B=mrg vk X1 Y1++mrg vk X2 Y2 by
     have h8:=znw (k:=vk) HSA.out HSB.out (s:=s-a) (e:=d-s) (by omega) (by omega)
      (fun k1 k2=>H1.out _ _ (by omega) (by omega) (by omega) (by omega) (by omega))
      (fun k1 k2=>H2.out _ _ (by omega) (by omega) (by omega) (by omega) (by omega))
     rw[h8,eA,eB,List.take_left' l1,List.drop_left' l1,List.take_left' l2,List.drop_left' l2])
    have sA:=HSA.out;have sB:=HSB.out;rw[eA]at sA;rw[eB]at sB;have HSX:=lhd (List.pairwise_append.1 sA);have HSY:=lhd (List.pairwise_append.1 sB)
    have HG:=lhd (show SO base g n c wr (P++(X1++(X2++(Y1++(Y2++S)))))by
     have:=HS.out;rw[eA,eB]at this;simpa using this)
    have lA:A.length=X1.length+X2.length:=by rw[eA,List.length_append]
    have lB:B.length=Y1.length+Y2.length:=by rw[eB,List.length_append]
    obtain⟨en,hen⟩:∃en,m+Y1.length=en:=⟨_,rfl⟩;have HP:=lhd (show P.length=a∧a+X1.length=s∧s+X2.length=m∧m+Y1.length=en∧en+Y2.length=b∧s+Y1.length=d∧d+X2.length=en∧n≤1000∧X1.length+Y1.length≤q∧X2.length+Y2.length≤q from⟨hL.1,by omega,by omega,hen,by omega,by omega,by omega,by omega,by omega,by omega⟩);have w7:IntKind.i64.wrap ((nn:Int)-(s:Int))=(en:Int):=by rw[IntWalk.i64_in _ (by omega)];omega
    clear hL hF hN eA eB l1 l2 sA sB lA lB hen h1 h2 h3 H1 H2 HS hsr;go_upto_region 39 with fail;clear w7;go_cut [185]from 178 to 185 (fun u wd=>u=.bool (decide (s<m∧m<en))∧wd=wr)
    case first=>
     by_cases q1:s<m
     ·by_cases q2:m<en
      ·go_wp2_with fail;go_meet
       case rel=>exact⟨by simp[q1,q2],rfl⟩
      ·go_wp2_with fail;go_meet
       case rel=>exact⟨by simp[q1,q2],rfl⟩
     ·go_wp2_with fail;go_meet
      case rel=>exact⟨by simp[q1],rfl⟩
    case rest=>
     obtain⟨rfl,hcw⟩:=hcut;obtain rfl:wr=wc:=hcw.symm;obtain⟨T,hT⟩:∃T,decide (s<m∧m<en)=T:=⟨_,rfl⟩;rw[hT];have HT:=lhd hT;clear hT;go_upto_if 185 with fail
     go_cut []from 186 to 191 (fun wd=>SO base g n c wd (P++(X1++(Y1++(X2++(Y2++S)))))∧Below base w wd)
     case first=>
      cases T
      ·have h9:=HP.out;have HE:=lhd (zlm (P:=P) (X1:=X1) (Y2:=Y2) (S:=S) (of_decide_eq_false HT.out) h9.2.2.1 h9.2.2.2.1);clear h9;go_wp2_with fail;go_meet
       case rel=>exact⟨by rw[HE.out];exact HG.out,HB.out⟩
      ·have h8:=of_decide_eq_true HT.out;have h9:=HP.out;have HR:=lhd (zm6 base g c n s m en P X1 X2 Y1 Y2 S wr HG.out (by omega) (by omega) (by omega) (by omega) (by omega) (by omega));clear h8 h9;go_wp2_with fail;refine HR.out.mono ?_;rintro e w1 ⟨rfl,hs1,hb1⟩;have HS1:=lhd hs1;have HB1:=lhd (HB.out.trans hb1);clear hs1 hb1;go_wp2_with fail;go_meet
       case rel=>exact⟨HS1.out,HB1.out⟩
     case rest=>
      obtain⟨hs2,hb2⟩:=hcut;obtain⟨wd,rfl⟩:∃wd,wd=wc:=⟨_,rfl⟩;have HG2:=lhd hs2;have HB2:=lhd hb2;clear hs2 hb2 HG HB;go_upto_region 41 with fail;go_cut [199]from 192 to 199 (fun u we=>u=.bool (decide (a<s∧s<d))∧we=wd)
      case first=>
       by_cases q1:a<s
       ·by_cases q2:s<d
        ·go_wp2_with fail;go_meet
         case rel=>exact⟨by simp[q1,q2],rfl⟩
        ·go_wp2_with fail;go_meet
         case rel=>exact⟨by simp[q1,q2],rfl⟩
       ·go_wp2_with fail;go_meet
        case rel=>exact⟨by simp[q1],rfl⟩
      case rest=>
       obtain⟨rfl,hcw⟩:=hcut;obtain rfl:wd=wc:=hcw.symm;obtain⟨T,hT⟩:∃T,decide (a<s∧s<d)=T:=⟨_,rfl⟩;rw[hT];have HT:=lhd hT;clear hT;go_upto_if 199 with fail
       go_cut []from 200 to 205 (fun we=>SO base g n c we ((P++mrg vk X1 Y1)++(X2++(Y2++S)))∧Below base w we)
       case first=>
        have h9:=HP.out;cases T
        ·have HE:=lhd (zhk (of_decide_eq_false HT.out) h9.2.1 h9.2.2.2.2.2.1 HSX.out.1);clear h9;go_wp2_with fail;go_meet
         case rel=>exact⟨by rw[HE.out];simpa using HG2.out,HB2.out⟩
        ·have h8:=of_decide_eq_true HT.out;have HR:=lhd (HI.out n a s d P X1 Y1 (X2++(Y2++S)) wd (by omega) HG2.out h9.1 h9.2.1 h9.2.2.2.2.2.1 (by omega) (by omega) HSX.out.1 HSY.out.1 (by omega));clear h8 h9;go_wp2_with fail;refine HR.out.mono ?_;rintro e w1 ⟨rfl,hs1,hb1⟩;have HS1:=lhd hs1;have HB1:=lhd (HB2.out.trans hb1);clear hs1 hb1;go_wp2_with fail;go_meet
         case rel=>exact⟨by simpa using HS1.out,HB1.out⟩
       case rest=>
        obtain⟨hs3,hb3⟩:=hcut;obtain⟨we,rfl⟩:∃we,we=wc:=⟨_,rfl⟩;have HG3:=lhd hs3;have HB3:=lhd hb3;clear hs3 hb3 HG2 HB2 HT;by_cases q1:d<en∧en<b
        ·have h9:=HP.out;have hlm:=zho (k:=vk) Y1 X1;have HR:=lhd (HI.out n d en b (P++mrg vk X1 Y1) X2 Y2 S we (by omega) HG3.out (by rw[List.length_append];omega) h9.2.2.2.2.2.2.1 h9.2.2.2.2.1 (by omega) (by omega) HSX.out.2.1 HSY.out.2.1 (by omega));obtain⟨q1,q2⟩:=q1;clear h9 hlm;go_wp2_with fail;refine HR.out.mono ?_;rintro e w1 ⟨rfl,hs1,hb1⟩;have HS1:=lhd hs1;have HB1:=lhd (HB3.out.trans hb1);clear hs1 hb1;go_wp2_with fail;go_end0
         exact⟨rfl,by rw[HM.out];simpa using HS1.out,HB1.out⟩
        ·have h9:=HP.out;have HE:=lhd (zhk q1 h9.2.2.2.2.2.2.1 h9.2.2.2.2.1 HSX.out.2.1);clear h9;by_cases q2:d<en
         ·have q3:¬en<b:=fun h=>q1 ⟨q2,h⟩;clear q1;go_wp2_with fail;go_end0
          exact⟨rfl,by rw[HM.out,HE.out];simpa using HG3.out,HB3.out⟩
         ·clear q1;go_wp2_with fail;go_end0
          exact⟨rfl,by rw[HM.out,HE.out];simpa using HG3.out,HB3.out⟩
theorem znb (base g c:Nat):∀q,zaA base g c q
 |0=>fun n a m b P A B S w hq _ _ _ _ h1 h2=>by omega
 |q+1=>fun n a m b P A B S w hq hg hp hA hB h1 h2 hsA hsB hn=>by
  have h6:=hg.len;by_cases k1:A.length=1
  ·obtain⟨x,rfl⟩:=List.length_eq_one_iff.1 k1;have h5:=znc base g c a b (P++([x]++(B++S))) P B S x w (by rw[h6];exact hg) rfl hp (by simp at hA;omega) hsB (by rw[h6];exact hn);rw[h6]at h5;obtain rfl:m=a+1:=by simp at hA;omega
   exact_mod_cast h5
  by_cases k2:B.length=1
  ·obtain⟨y,rfl⟩:=List.length_eq_one_iff.1 k2;have h5:=znd base g c a m (P++(A++([y]++S))) P A S y w (by rw[h6];exact hg) rfl hp hA (by omega) hsA (by rw[h6];exact hn);rw[h6]at h5;obtain rfl:b=m+1:=by simp at hB;omega
   exact_mod_cast h5
  exact zne base g c q n a m b P A B S w (znb base g c q) hq hg hp hA hB (by omega) (by omega) hsA hsB hn
end Go.Proofs.YtcdekelomkcahaaGreatDoor
