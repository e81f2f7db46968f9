import Derived.Test.YtcdekelomkcahaaGreatDoorZ00
import Derived.Test.YtcdekelomkcahaaGreatDoorZ07
set_option maxRecDepth 100000
set_option maxHeartbeats 16000000
namespace Go.Proofs.YtcdekelomkcahaaGreatDoor
open Go.RowKit
set_option linter.unusedSimpArgs false
theorem znd (base g c a m:Nat) (l P A S:List Vr) (y:Vr) (w:World) (hg:SO base g l.length c w l) (hl:l=P++(A++(y::S))) (hp:P.length=a) (hA:a+A.length=m) (h2A:2≤A.length) (hs:Srt vk A) (hn:l.length≤1000):
 Calls Tryz.prog 151 #[.slice (some ⟨g,0,none⟩) l.length c,.int .i64 a,.int .i64 m,.int .i64 ((m:Int)+1),(.func (.func 57) #[] #[])] w fun e w'=>
  e=.returned (.tuple #[])∧SO base g l.length c w' (P++(mrg vk A [y]++S))∧Below base w w':=by
 have H0:=lhd (show SO base g l.length c w (P++(A++(y::S)))by rw[←hl];exact hg);have hlen:l.length=m+1+S.length:=by rw[hl,←hA,←hp];simp only[List.length_append,List.length_cons];omega
 have HL:=lhd (And.intro hp (And.intro hA (And.intro hlen hn)));have HSR:=lhd hs;have hw0:IntKind.i64.wrap ((m:Int)+1-(m:Int))=1:=by rw[IntWalk.i64_in _ (by omega)];omega
 obtain⟨r,hr⟩:∃r:Int,IntKind.i64.wrap ((m:Int)-(a:Int))=r:=⟨_,rfl⟩;have hr1:(r==1)=false:=by rw[beq_eq_false_iff_ne,←hr,IntWalk.i64_in _ (by omega)];omega
 have ham:a≤m:=by omega
 have HAM:=lhd ham;generalize l.length=n at*;clear hg hl hp hA hs hlen hn h2A ham;go_enter Tryz.func151,Tryz.ntmps151;go_wp2_with fail;clear hw0 hr hr1;go_loopw [14,15] (fun vi vj wr=>∃i j:Nat,vi=.int .i64 i∧vj=.int .i64 j∧a≤i∧i≤j∧j≤m∧(∀t (h:t<A.length),a+t<i→vk A[t]≤vk y)∧(∀t (h:t<A.length),j≤a+t→vk y<vk A[t])∧SO base g n c wr (P++(A++(y::S)))∧Below base w wr) (fun vi vj _=>(intOf vj).toNat-(intOf vi).toNat)
 case atStart=>
  have h9:=HL.out;exact⟨a,m,rfl,rfl,Nat.le_refl _,HAM.out,Nat.le_refl _,fun t h h2=>by omega,fun t h h2=>by omega,H0.out,Below.refl _ _⟩
 case round=>
  obtain⟨i,j,rfl,rfl,h1,h2,h3,hlt1,hge1,hs,hbw⟩:=hrel;have HB:=lhd hbw;have HS:=lhd hs;have H1:=lhd hlt1;have H2:=lhd hge1;clear hbw hs hlt1 hge1;by_cases hij:i<j
  ·have hbn:=HL.out.2.1;have hnn:=HL.out.2.2;obtain⟨h,hh⟩:∃h,(i+j)/2=h:=⟨_,rfl⟩;have MID:=lhd (zhh (i:=i) (j:=j) (h:=h) (by omega) (by omega) hh);have hhi:i≤h∧h<j:=by omega
   have hlt:h-a<A.length:=by omega
   have hsA:A=A.take (h-a)++A[h-a]::A.drop (h-a+1):=by rw[←List.drop_eq_getElem_cons hlt,List.take_append_drop]
   have HCM:=lhd (fun(hc:¬vk y<vk A[h-a]) t (ht:t<A.length) (h2:a+t<h+1)=>(show vk A[t]≤vk y from Int.le_trans (zm1 HSR.out (show t≤h-a by omega) hlt) (Int.not_lt.1 hc)));have HCN:=lhd (fun(hc:vk y<vk A[h-a]) t (ht:t<A.length) (h2:h≤a+t)=>(show vk y<vk A[t]from Int.lt_of_lt_of_le hc (zm1 HSR.out (show h-a≤t by omega) ht)))
   have e1:P++(A++(y::S))=(P++A.take (h-a))++A[h-a]::(A.drop (h-a+1)++(y::S)):=by
    conv=>lhs;rw[hsA]
    simp only[List.append_assoc,List.cons_append]
   have e2:P++(A++(y::S))=(P++A)++y::S:=by rw[List.append_assoc]
   have hz:=(show SO base g n c wr ((P++A)++y::S)from e2▸HS.out).at;rw[show(P++A).length=m by rw[List.length_append,HL.out.1];omega]at hz;have hz2:=(show SO base g n c wr ((P++A.take (h-a))++A[h-a]::(A.drop (h-a+1)++(y::S)))from e1▸HS.out).at;rw[show(P++A.take (h-a)).length=h by rw[List.length_append,List.length_take,HL.out.1];omega]at hz2;have n1:(0:Int)≤(h:Int):=by omega
   have n2:(h:Int)<(n:Int):=by omega
   have n3:(0:Int)≤(m:Int):=by omega
   have n4:(m:Int)<(n:Int):=by omega
   have HLO:=lhd (show base≤wr.drew.heap.size from Nat.le_of_lt (Nat.lt_of_le_of_lt HS.out.lo.1 HS.out.lo.2));have HN:=lhd (show a≤i∧i≤h∧h<j∧j≤m from⟨h1,hhi.1,hhi.2,h3⟩);generalize A[h-a]=z at hz2 HCM HCN;obtain⟨y0,y1,y2,y3,y4,y5,y6⟩:=hz;obtain⟨z0,z1,z2,z3,z4,z5,z6⟩:=hz2;clear hbn hnn hsA e1 e2 hlt hhi hh h1 h2 h3;by_cases hc:vk y<vk z
   ·have HC:=lhd (show decide (vk y<vk z)=true from decide_eq_true hc);have HM:=lhd (HCN.out hc);obtain⟨m1,m2,m3,m4,m5⟩:=MID.out;clear hc;go_wp2_with fail;clear m1 m2 m3 m4
    go_region_held3 (fun w'=>w'.cell? ⟨g,m*7,none⟩=some (.string (bsB y.nm))∧w'.cell? ⟨g,m*7+1,none⟩=some (.int .i64 y.ty)∧w'.cell? ⟨g,m*7+2,none⟩=some (.int .i64 y.sc)∧w'.cell? ⟨g,m*7+3,none⟩=some (.int .i64 y.sg)∧w'.cell? ⟨g,m*7+4,none⟩=some (.bool y.rg)∧w'.cell? ⟨g,m*7+5,none⟩=some (.int .i64 y.mb)∧w'.cell? ⟨g,m*7+6,none⟩=some (.int .i64 y.lb)∧w'.cell? ⟨g,h*7,none⟩=some (.string (bsB z.nm))∧w'.cell? ⟨g,h*7+1,none⟩=some (.int .i64 z.ty)∧w'.cell? ⟨g,h*7+2,none⟩=some (.int .i64 z.sc)∧w'.cell? ⟨g,h*7+3,none⟩=some (.int .i64 z.sg)∧w'.cell? ⟨g,h*7+4,none⟩=some (.bool z.rg)∧w'.cell? ⟨g,h*7+5,none⟩=some (.int .i64 z.mb)∧w'.cell? ⟨g,h*7+6,none⟩=some (.int .i64 z.lb))
     (first|exact⟨y0,y1,y2,y3,y4,y5,y6,z0,z1,z2,z3,z4,z5,z6⟩|exact⟨u0,u1,u2,u3,u4,u5,u6,v0,v1,v2,v3,v4,v5,v6⟩|go_keep)
     (first
       |(go_at_call 57;refine(zm2 y z _).mono ?_;rintro e w2 ⟨r,rfl,hz,hb2⟩;rw[HC.out]at hz;have hs2:=SO.after HS.out.drew hb2;have HS2:=lhd hs2;have HB2:=lhd (HB.out.drew.trans (hb2.mono HLO.out));obtain⟨u0,u1,u2,u3,u4,u5,u6⟩:=(⟨(hb2.cell (p:=⟨g,m*7,none⟩) (zbA (show wr.drew.cell? _=some _ from y0))).trans y0,(hb2.cell (p:=⟨g,m*7+1,none⟩) (zbA (show wr.drew.cell? _=some _ from y1))).trans y1,(hb2.cell (p:=⟨g,m*7+2,none⟩) (zbA (show wr.drew.cell? _=some _ from y2))).trans y2,(hb2.cell (p:=⟨g,m*7+3,none⟩) (zbA (show wr.drew.cell? _=some _ from y3))).trans y3,(hb2.cell (p:=⟨g,m*7+4,none⟩) (zbA (show wr.drew.cell? _=some _ from y4))).trans y4,(hb2.cell (p:=⟨g,m*7+5,none⟩) (zbA (show wr.drew.cell? _=some _ from y5))).trans y5,(hb2.cell (p:=⟨g,m*7+6,none⟩) (zbA (show wr.drew.cell? _=some _ from y6))).trans y6⟩:_∧_∧_∧_∧_∧_∧_);obtain⟨v0,v1,v2,v3,v4,v5,v6⟩:=(⟨(hb2.cell (p:=⟨g,h*7,none⟩) (zbA (show wr.drew.cell? _=some _ from z0))).trans z0,(hb2.cell (p:=⟨g,h*7+1,none⟩) (zbA (show wr.drew.cell? _=some _ from z1))).trans z1,(hb2.cell (p:=⟨g,h*7+2,none⟩) (zbA (show wr.drew.cell? _=some _ from z2))).trans z2,(hb2.cell (p:=⟨g,h*7+3,none⟩) (zbA (show wr.drew.cell? _=some _ from z3))).trans z3,(hb2.cell (p:=⟨g,h*7+4,none⟩) (zbA (show wr.drew.cell? _=some _ from z4))).trans z4,(hb2.cell (p:=⟨g,h*7+5,none⟩) (zbA (show wr.drew.cell? _=some _ from z5))).trans z5,(hb2.cell (p:=⟨g,h*7+6,none⟩) (zbA (show wr.drew.cell? _=some _ from z6))).trans z6⟩:_∧_∧_∧_∧_∧_∧_);clear hb2 hs2)
       |fail "no arm")
    go_wp2_with fail;clear m5;go_roundw
    case rel=>
     have h9:=HN.out;exact⟨i,h,rfl,rfl,by omega,by omega,by omega,H1.out,HM.out,HS2.out,HB2.out⟩
    case measure=>
     have h9:=HN.out;simp[intOf];omega
   ·have HC:=lhd (show decide (vk y<vk z)=false from decide_eq_false hc);have HM:=lhd (HCM.out hc);obtain⟨m1,m2,m3,m4,m5⟩:=MID.out;clear hc;go_wp2_with fail;clear m1 m2 m3 m4
    go_region_held3 (fun w'=>w'.cell? ⟨g,m*7,none⟩=some (.string (bsB y.nm))∧w'.cell? ⟨g,m*7+1,none⟩=some (.int .i64 y.ty)∧w'.cell? ⟨g,m*7+2,none⟩=some (.int .i64 y.sc)∧w'.cell? ⟨g,m*7+3,none⟩=some (.int .i64 y.sg)∧w'.cell? ⟨g,m*7+4,none⟩=some (.bool y.rg)∧w'.cell? ⟨g,m*7+5,none⟩=some (.int .i64 y.mb)∧w'.cell? ⟨g,m*7+6,none⟩=some (.int .i64 y.lb)∧w'.cell? ⟨g,h*7,none⟩=some (.string (bsB z.nm))∧w'.cell? ⟨g,h*7+1,none⟩=some (.int .i64 z.ty)∧w'.cell? ⟨g,h*7+2,none⟩=some (.int .i64 z.sc)∧w'.cell? ⟨g,h*7+3,none⟩=some (.int .i64 z.sg)∧w'.cell? ⟨g,h*7+4,none⟩=some (.bool z.rg)∧w'.cell? ⟨g,h*7+5,none⟩=some (.int .i64 z.mb)∧w'.cell? ⟨g,h*7+6,none⟩=some (.int .i64 z.lb))
     (first|exact⟨y0,y1,y2,y3,y4,y5,y6,z0,z1,z2,z3,z4,z5,z6⟩|exact⟨u0,u1,u2,u3,u4,u5,u6,v0,v1,v2,v3,v4,v5,v6⟩|go_keep)
     (first
       |(go_at_call 57;refine(zm2 y z _).mono ?_;rintro e w2 ⟨r,rfl,hz,hb2⟩;rw[HC.out]at hz;have hs2:=SO.after HS.out.drew hb2;have HS2:=lhd hs2;have HB2:=lhd (HB.out.drew.trans (hb2.mono HLO.out));obtain⟨u0,u1,u2,u3,u4,u5,u6⟩:=(⟨(hb2.cell (p:=⟨g,m*7,none⟩) (zbA (show wr.drew.cell? _=some _ from y0))).trans y0,(hb2.cell (p:=⟨g,m*7+1,none⟩) (zbA (show wr.drew.cell? _=some _ from y1))).trans y1,(hb2.cell (p:=⟨g,m*7+2,none⟩) (zbA (show wr.drew.cell? _=some _ from y2))).trans y2,(hb2.cell (p:=⟨g,m*7+3,none⟩) (zbA (show wr.drew.cell? _=some _ from y3))).trans y3,(hb2.cell (p:=⟨g,m*7+4,none⟩) (zbA (show wr.drew.cell? _=some _ from y4))).trans y4,(hb2.cell (p:=⟨g,m*7+5,none⟩) (zbA (show wr.drew.cell? _=some _ from y5))).trans y5,(hb2.cell (p:=⟨g,m*7+6,none⟩) (zbA (show wr.drew.cell? _=some _ from y6))).trans y6⟩:_∧_∧_∧_∧_∧_∧_);obtain⟨v0,v1,v2,v3,v4,v5,v6⟩:=(⟨(hb2.cell (p:=⟨g,h*7,none⟩) (zbA (show wr.drew.cell? _=some _ from z0))).trans z0,(hb2.cell (p:=⟨g,h*7+1,none⟩) (zbA (show wr.drew.cell? _=some _ from z1))).trans z1,(hb2.cell (p:=⟨g,h*7+2,none⟩) (zbA (show wr.drew.cell? _=some _ from z2))).trans z2,(hb2.cell (p:=⟨g,h*7+3,none⟩) (zbA (show wr.drew.cell? _=some _ from z3))).trans z3,(hb2.cell (p:=⟨g,h*7+4,none⟩) (zbA (show wr.drew.cell? _=some _ from z4))).trans z4,(hb2.cell (p:=⟨g,h*7+5,none⟩) (zbA (show wr.drew.cell? _=some _ from z5))).trans z5,(hb2.cell (p:=⟨g,h*7+6,none⟩) (zbA (show wr.drew.cell? _=some _ from z6))).trans z6⟩:_∧_∧_∧_∧_∧_∧_);clear hb2 hs2)
       |fail "no arm")
    go_wp2_with fail;clear m5;go_roundw
    case rel=>
     have h9:=HN.out;exact⟨h+1,j,by simp,rfl,by omega,by omega,by omega,HM.out,H2.out,HS2.out,HB2.out⟩
    case measure=>
     have h9:=HN.out;simp[intOf];omega
  ·obtain rfl:i=j:=by omega
   obtain⟨d,hd⟩:∃d,i=a+d:=⟨i-a,by omega⟩;have hdA:d≤A.length:=by have:=HL.out.2.1;omega
   have HF:=lhd (show mrg vk A [y]=A.take d++y::A.drop d by
    conv=>lhs;rw[←List.take_append_drop d A]
    refine zht (by rw[List.take_append_drop];exact HSR.out) (fun x hx=>?_) (fun x hx=>?_)
    ·obtain⟨t,ht,rfl⟩:=List.mem_iff_getElem.1 hx;rw[List.length_take]at ht;rw[List.getElem_take];exact H1.out t (by omega) (by omega)
    ·obtain⟨t,ht,rfl⟩:=List.mem_iff_getElem.1 hx;rw[List.length_drop]at ht;rw[List.getElem_drop];exact H2.out (d+t) (by omega) (by omega))
   have HD:=lhd (And.intro hdA hd);clear h1 h2 h3 hij hd hdA;go_wp2_with fail;go_loopw [17] (fun vk2 wj=>∃k t:Nat,vk2=.int .i64 (k:Int)∧k=a+t∧d≤t∧t≤A.length∧SO base g n c wj (P++(A.take t++y::(A.drop t++S)))∧Below base w wj) (fun vk2 _=>(intOf vk2).toNat-a)
   case atStart=>
    have h9:=HL.out;exact⟨m,A.length,rfl,by omega,HD.out.1,Nat.le_refl _,by simpa using HS.out,HB.out⟩
   case round=>
    obtain⟨k,t,rfl,hk,htd,htA,hs,hbj⟩:=hrel;have HBJ:=lhd hbj;clear hbj;by_cases hlt:d<t
    ·have hd1:decide ((i:Int)<(k:Int))=true:=by have:=HD.out.2;rw[decide_eq_true_iff];omega
     have hd2:i<k:=by have:=HD.out.2;omega
     obtain⟨s,rfl⟩:∃s,t=s+1:=⟨t-1,by omega⟩;obtain⟨q,rfl⟩:∃q,k=q+1:=⟨k-1,by omega⟩;have hsA:s<A.length:=by omega
     have hL:=HL.out;have HN:=lhd (show A.drop s=A[s]::A.drop (s+1)from List.drop_eq_getElem_cons hsA);rw[List.take_succ_eq_append_getElem hsA]at hs;generalize A[s]=z at hs HN;rw[show P++((A.take s++ [z])++y::(A.drop (s+1)++S))=(P++A.take s)++z::([]++y::(A.drop (s+1)++S))by simp]at hs;have hPA:(P++A.take s).length=q:=by rw[List.length_append,List.length_take];omega
     have hz:=hs.at;have hs':=hs;rw[show(P++A.take s)++z::([]++y::(A.drop (s+1)++S))=(P++(A.take s++ [z]))++y::(A.drop (s+1)++S)by simp]at hs';have hz':=hs'.at;rw[show(P++(A.take s++ [z])).length=q+1 by simp only[List.length_append,List.length_singleton]at hPA⊢;omega]at hz';rw[hPA]at hz;obtain⟨x0,x1,x2,x3,x4,x5,x6⟩:=hz;obtain⟨y0,y1,y2,y3,y4,y5,y6⟩:=hz';have HSW:=lhd (hs.swap2 (p:=q) (q:=q+1) hPA (by rw[hPA];rfl));have hfz:=zjj hs;have n1:(0:Int)≤(q:Int):=by omega
     have n2:(q:Int)<(n:Int):=by omega
     have n3:(0:Int)≤(q:Int)+1:=by omega
     have n4:(q:Int)+1<(n:Int):=by omega
     have n5:((q:Int)+1).toNat=q+1:=by omega
     have hab:¬q+1=q:=by omega
     have hba:¬q=q+1:=by omega
     have HK:=lhd (And.intro hk (And.intro htd (And.intro hlt htA)));have m1:IntKind.i64.wrap ((q:Int)+1-1)=(q:Int):=by rw[IntWalk.i64_in _ (by omega)];omega
     have m2:IntKind.i64.wrap (q:Int)=(q:Int):=IntWalk.i64_in _ (by omega);clear hs hs' hPA hL hsA hk htd hlt htA;go_upto_region 23 with fail;go_region
     clear x0 x1 x2 x3 x4 x5 x6 y0 y1 y2 y3 y4 y5 y6 hfz hab hba n1 n2 n3 n4 n5;go_wp2_with fail;clear m1 m2;go_roundw
     case rel=>
      have h9:=HK.out;refine⟨q,s,rfl,by omega,by omega,by omega,?_,(HBJ.out.trans HSW.out.2).drew⟩;have h8:=HSW.out.1.drew;rw[show(P++A.take s)++y::([]++z::(A.drop (s+1)++S))=P++(A.take s++y::((z::A.drop (s+1))++S))by simp,←HN.out]at h8;exact h8
     case measure=>
      have h9:=HK.out;simp[intOf];omega
    ·have hd1:decide ((i:Int)<(k:Int))=false:=by have:=HD.out.2;rw[decide_eq_false_iff_not];omega
     have hd2:¬i<k:=by have:=HD.out.2;omega
     obtain rfl:t=d:=by omega
     have HFF:=lhd (show SO base g n c wr (P++(mrg vk A [y]++S))by rw[HF.out];simpa using hs);clear hs hk;go_wp2_with fail;refine bodyPost_ret (v:=.tuple #[]) (by simp[results,Tryz.results151,go_sem]) rfl ?_;exact⟨rfl,HFF.out,HBJ.out⟩
end Go.Proofs.YtcdekelomkcahaaGreatDoor
