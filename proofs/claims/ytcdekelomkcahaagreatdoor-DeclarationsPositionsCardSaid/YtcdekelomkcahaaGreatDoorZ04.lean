import Derived.Test.YtcdekelomkcahaaGreatDoorZ00
import Derived.Deep.Cut
import Derived.Deep.CutRange
import Derived.Maps.OwnIn
import Derived.Test.YtcdekelomkcahaaGreatDoorZ01
set_option maxRecDepth 100000
set_option maxHeartbeats 16000000
namespace Go.Proofs.YtcdekelomkcahaaGreatDoor
open Go.RowKit
set_option linter.unusedSimpArgs false
theorem zna (base g c a b m:Nat) (l X A Y B Z:List Vr) (w:World) (hg:SO base g l.length c w l) (hl:l=X++(A++(Y++(B++Z)))) (hA:A.length=m) (hB:B.length=m) (ha:X.length=a) (hb:X.length+A.length+Y.length=b) (hn:l.length≤1000):
 Calls Tryz.prog 216 #[.slice (some ⟨g,0,none⟩) l.length c,.int .i64 a,.int .i64 b,.int .i64 m,(.func (.func 57) #[] #[])] w fun e w'=>
  e=.returned (.tuple #[])∧SO base g l.length c w' (X++(B++(Y++(A++Z))))∧Below base w w':=by
 have hlen:l.length=X.length+A.length+Y.length+B.length+Z.length:=by rw[hl];simp only[List.length_append];omega
 have hlo:=hg.lo;have HCAP:=lhd hg.cap;have H0:=lhd (show SO base g l.length c w (swpd X A Y B Z 0)by rw[znu,←hl];exact hg);have hAB:A.length=B.length:=by omega
 generalize hN:l.length=n at*;clear hg hl;go_enter Tryz.func216,Tryz.ntmps216;go_wp2_with fail;go_loopw [10] (fun i wr=>∃j:Nat,j≤m∧i=.int .i64 j∧SO base g n c wr (swpd X A Y B Z j)∧Below base w wr) (fun i _=>m-(intOf i).toNat)
 case atStart=>exact⟨0,Nat.zero_le _,rfl,H0.out,Below.refl _ _⟩
 case round=>
  obtain⟨j,hj,rfl,hs,hbw⟩:=hrel;have HB:=lhd hbw;clear hbw;by_cases hlt:j<m
  ·obtain⟨X1,Y1,Z1,e1,e2,e3,e4⟩:=znt (X:=X) (Y:=Y) (Z:=Z) hAB (i:=j) (by omega);rw[e3]at hs;have HE4:=lhd e4;generalize A[j]'(by omega)=x at hs HE4;generalize B[j]'(by omega)=y at hs HE4;have HSW:=lhd (hs.swap (p:=a+j) (q:=b+j) (by omega) (by omega));have hz1:=hs.at;rw[show X1++x::(Y1++y::Z1)=(X1++x::Y1)++y::Z1 by simp]at hs;have hz2:=hs.at;rw[List.length_append,List.length_cons,show X1.length+(Y1.length+1)=b+j by omega]at hz2;rw[show X1.length=a+j by omega]at hz1;obtain⟨p0,p1,p2,p3,p4,p5,p6⟩:=hz1;obtain⟨q0,q1,q2,q3,q4,q5,q6⟩:=hz2;have HS:=lhd hs;have hfz:=zjj hs;have hw1:IntKind.i64.wrap ((a:Int)+(j:Int))=(a:Int)+(j:Int):=IntWalk.i64_in _ (by omega);have hw2:IntKind.i64.wrap ((b:Int)+(j:Int))=(b:Int)+(j:Int):=IntWalk.i64_in _ (by omega);have hw3:IntKind.i64.wrap ((j:Int)+1)=(j:Int)+1:=IntWalk.i64_in _ (by omega);have h1:(0:Int)≤(a:Int)+(j:Int):=by omega
   have h2:(0:Int)≤(b:Int)+(j:Int):=by omega
   have h3:(a:Int)+(j:Int)<(n:Int):=by omega
   have h4:(b:Int)+(j:Int)<(n:Int):=by omega
   have h5:((a:Int)+(j:Int)).toNat=a+j:=by omega
   have h6:((b:Int)+(j:Int)).toNat=b+j:=by omega
   have HE:=lhd (And.intro e1 e2);have hab:¬a=b:=by omega
   have hba:¬b=a:=by omega
   clear hs e1 e2 e3 e4 hAB hA hB ha hb hlen;go_upto_region 3 with fail;go_region
   clear p0 p1 p2 p3 p4 p5 p6 q0 q1 q2 q3 q4 q5 q6 hw1 hw2 h1 h2 h3 h4 h5 h6 hab hba hfz;go_wp2_with fail;go_roundw;case rel=>exact⟨j+1,by omega,by go_num,by rw[HE4.out];exact HSW.out.1.drew,(HB.out.trans HSW.out.2).drew⟩
   case measure=>simp[intOf];omega
  ·obtain rfl:j=m:=by omega
   have HF:=lhd (show SO base g n c wr (X++(B++(Y++(A++Z))))by rw[←hA,zns hAB]at hs;exact hs);clear hs;go_wp2_with fail;go_end0
   exact⟨rfl,HF.out,HB.out⟩
theorem zm7 (base g c a m b:Nat) (l P A B S:List Vr) (w:World) (hg:SO base g l.length c w l) (hl:l=P++(A++(B++S))) (hp:P.length=a) (hA:a+A.length=m) (hB:m+B.length=b) (h0:0<A.length) (h1:0<B.length) (hn:l.length≤1000):
 Calls Tryz.prog 179 #[.slice (some ⟨g,0,none⟩) l.length c,.int .i64 a,.int .i64 m,.int .i64 b,(.func (.func 57) #[] #[])] w fun e w'=>
  e=.returned (.tuple #[])∧SO base g l.length c w' (P++(B++(A++S)))∧Below base w w':=by
 have hlen:l.length=P.length+A.length+B.length+S.length:=by rw[hl];simp only[List.length_append];omega
 have hR:Rot m A.length B.length l (P++(B++(A++S))):=⟨P,A,B,S,hl,rfl,by omega,rfl,rfl⟩;have HT:=lhd (show(P++(B++(A++S))).length=l.length by rw[hlen];simp only[List.length_append];omega);have e1:IntKind.i64.wrap ((m:Int)-(a:Int))=(A.length:Int):=by rw[IntWalk.i64_in _ (by omega)];omega
 have e2:IntKind.i64.wrap ((b:Int)-(m:Int))=(B.length:Int):=by rw[IntWalk.i64_in _ (by omega)];omega
 have h2:m≤1000:=by omega
 have h3:B.length≤1000:=by omega
 have h4:A.length≤m:=by omega
 have HR0:=lhd hR;have H0:=lhd hg;generalize hN:l.length=n at*;generalize P++(B++(A++S))=t at*;generalize A.length=i0 at*;generalize B.length=j0 at*;clear hg hl hlen hR hp hA hB;go_enter Tryz.func179,Tryz.ntmps179;go_wp2_with fail;clear e1 e2;go_loopw [10,11] (fun vi vj wr=>∃(i j:Nat) (l2:List Vr),vi=.int .i64 i∧vj=.int .i64 j∧0<i∧0<j∧i≤m∧j≤1000∧Rot m i j l2 t∧SO base g n c wr l2∧Below base w wr) (fun vi vj _=>(intOf vi).toNat+(intOf vj).toNat)
 case atStart=>exact⟨i0,j0,l,rfl,rfl,h0,h1,h4,h3,HR0.out,H0.out,Below.refl _ _⟩
 case round=>
  obtain⟨i,j,l2,rfl,rfl,hi,hj,him,hj1,hr,hs,hb⟩:=hrel;have HB:=lhd hb;have hl2:=hs.len;clear hb;by_cases hij:i=j
  ·subst hij;obtain⟨X,A',B',Z,f1,f2,f3,f4,f5⟩:=hr.last;have hne:((i:Int) !=(i:Int))=false:=by simp
   have hw1:IntKind.i64.wrap ((m:Int)-(i:Int))=((m-i:Nat):Int):=by rw[IntWalk.i64_in _ (by omega)];omega
   have HS:=lhd (zna base g c (m-i) m i l2 X A' [] B' Z wr (by rw[hl2];exact hs) f1 f3 f4 (by omega) (by simp;omega) (by omega));rw[hl2,←f5]at HS;clear hr hs f1 f2 f3 f4 f5 hl2;go_wp2_with fail;refine HS.out.mono ?_;rintro e w1 ⟨rfl,hs1,hb1⟩;have H1:=lhd hs1;have HB1:=lhd (HB.out.trans hb1);clear hs1 hb1;go_wp2_with fail;go_end0
   exact⟨rfl,H1.out,HB1.out⟩
  ·have hne:((i:Int) !=(j:Int))=true:=by rw[bne_iff_ne];omega
   have hw1:IntKind.i64.wrap ((m:Int)-(i:Int))=((m-i:Nat):Int):=by rw[IntWalk.i64_in _ (by omega)];omega
   by_cases hlt:j<i
   ·obtain⟨X,A',Y,B',Z,f1,f2,f3,f4,f5,f6⟩:=hr.more hlt;have hd:decide ((j:Int)<(i:Int))=true:=by rw[decide_eq_true_iff];omega
    have hw2:IntKind.i64.wrap ((i:Int)-(j:Int))=((i-j:Nat):Int):=by rw[IntWalk.i64_in _ (by omega)];omega
    have HS:=lhd (zna base g c (m-i) m j l2 X A' Y B' Z wr (by rw[hl2];exact hs) f1 f3 f4 (by omega) (by omega) (by omega));rw[hl2]at HS;have HR:=lhd f6;clear hr hs f1 f2 f3 f4 f5 f6 hl2 hij;go_wp2_with fail;refine HS.out.mono ?_;rintro e w1 ⟨rfl,hs1,hb1⟩;have H1:=lhd hs1;have HB1:=lhd (HB.out.trans hb1);clear hs1 hb1;go_wp2_with fail;go_roundw;case rel=>exact⟨i-j,j,_,rfl,rfl,by omega,hj,by omega,hj1,HR.out,H1.out,HB1.out⟩
    case measure=>simp[intOf];omega
   ·have hlt2:i<j:=by omega
    obtain⟨X,A',Y,B',Z,f1,f2,f3,f4,f5,f6⟩:=hr.less hlt2;have hd:decide ((j:Int)<(i:Int))=false:=by rw[decide_eq_false_iff_not];omega
    have hw2:IntKind.i64.wrap ((j:Int)-(i:Int))=((j-i:Nat):Int):=by rw[IntWalk.i64_in _ (by omega)];omega
    have hw3:IntKind.i64.wrap ((m:Int)+(j:Int))=(m:Int)+(j:Int):=IntWalk.i64_in _ (by omega);have hw4:IntKind.i64.wrap ((m:Int)+(j:Int)-(i:Int))=(m:Int)+(j:Int)-(i:Int):=IntWalk.i64_in _ (by omega);have HS:=lhd (zna base g c (m-i) (m+j-i) i l2 X A' Y B' Z wr (by rw[hl2];exact hs) f1 f3 f4 (by omega) (by omega) (by omega));rw[hl2,show((m+j-i:Nat):Int)=(m:Int)+(j:Int)-(i:Int)by omega]at HS;have HR:=lhd f6;clear hr hs f1 f2 f3 f4 f5 f6 hl2 hij;go_wp2_with fail;refine HS.out.mono ?_;rintro e w1 ⟨rfl,hs1,hb1⟩;have H1:=lhd hs1;have HB1:=lhd (HB.out.trans hb1);clear hs1 hb1;go_wp2_with fail;go_roundw;case rel=>exact⟨i,j-i,_,rfl,rfl,hi,by omega,him,by omega,HR.out,H1.out,HB1.out⟩
    case measure=>simp[intOf];omega
def vk (v:Vr):Int:=v.sc
theorem SO.drw {base g n c:Nat} {w:World} {l:List Vr} (h:SO base g n c w l) (m:Nat):SO base g n c (w.drewN m) l:=h
theorem za2 {B:Nat} {a w:World} (h:RowKit.Below B a w) (m:Nat):RowKit.Below B a (w.drewN m):=⟨h.os,h.tape,h.output,h.size,h.block⟩
def zac (x y:Vr) (w:World) (e:Ending) (w':World):Prop:=∃z:Int,e=.returned (.int .i64 z)∧decide (z<0)=decide (vk x<vk y)∧Below w.heap.size w w'
theorem zbW (x y:Int):decide (Lib.compareInt x y<0)=decide (x<y):=by
 unfold Lib.compareInt;split
 ·rename_i h;rw[decide_eq_true h];rfl
 ·rename_i h
  rw[decide_eq_false h];split<;>rfl
theorem zm2 (x y:Vr) (w:World):Calls Tryz.prog 57 #[vrV x,vrV y] w (zac x y w):=by
 have hb:Below w.heap.size w ((w.alloc (.cells #[.string (bsB x.nm),.int .i64 x.ty,.int .i64 x.sc,.int .i64 x.sg,.bool x.rg,.int .i64 x.mb,.int .i64 x.lb] 48)).alloc (.cells #[.string (bsB y.nm),.int .i64 y.ty,.int .i64 y.sc,.int .i64 y.sg,.bool y.rg,.int .i64 y.mb,.int .i64 y.lb] 48)):=((Below.refl _ _).alloc (Nat.le_refl _) _).alloc (by simp) _;have HB:=lhd hb;clear hb;go_enter Tryz.func57,Tryz.ntmps57;go_wp2_with fail;refine(Tryz.cmp_Compare_int _ _ _).mono ?_;rintro e w1 ⟨rfl,hw⟩;have hw':=hw.symm;subst hw';go_wp2_with fail;go_ret;exact⟨_,rfl,zbW _ _,HB.out⟩
theorem zfw {Q A1 A2:List Vr} {x:Vr} (hQ:Srt vk Q) (h:Q=A1++A2) (h2:∀y∈A2,vk x<vk y) (h1:∀A y,A1=A++ [y]→¬vk x<vk y):mrg vk Q [x]=A1++x::A2:=by
 subst h;refine zht hQ (fun y hy=>?_) h2;obtain⟨A,z,rfl⟩:∃A z,A1=A++ [z]:=⟨A1.dropLast,A1.getLast (fun e=>by rw[e]at hy;cases hy),(List.dropLast_concat_getLast _).symm⟩;have h3:=h1 A z rfl;have hp:=(List.pairwise_append.1 hQ).1;rcases List.mem_append.1 hy with hy|hy
 ·have:=(List.pairwise_append.1 hp).2.2 y hy z (by simp);omega
 ·rw[List.mem_singleton]at hy;subst hy;omega
theorem zfQ (M:List Vr):zfL vk (M.take 1)=M.take 1:=by
 cases M with
 |nil=>rfl
 |cons x l=>rfl
theorem zm4 (base g c a b:Nat) (l P M S:List Vr) (w:World) (hg:SO base g l.length c w l) (hl:l=P++(M++S)) (hp:P.length=a) (hM:a+M.length=b) (hn:l.length≤1000):
 Calls Tryz.prog 150 #[.slice (some ⟨g,0,none⟩) l.length c,.int .i64 a,.int .i64 b,(.func (.func 57) #[] #[])] w fun e w'=>
  e=.returned (.tuple #[])∧SO base g l.length c w' (P++(zfL vk M++S))∧Below base w w':=by
 have hlen:l.length=P.length+M.length+S.length:=by rw[hl];simp only[List.length_append];omega
 have H0:=lhd (show SO base g l.length c w (P++(zfL vk (M.take 1)++(M.drop 1++S)))by rw[zfQ,←List.append_assoc (M.take 1),List.take_append_drop,←hl];exact hg);have hw0:IntKind.i64.wrap ((a:Int)+1)=(a:Int)+1:=IntWalk.i64_in _ (by omega);have HCAP:=lhd hg.cap;generalize hN:l.length=n at*;clear hg hl;go_enter Tryz.func150,Tryz.ntmps150;go_wp2_with fail;clear hw0;go_loopw [8] (fun vi wr=>∃q:Nat,vi=.int .i64 ((a:Int)+(q:Int))∧1≤q∧(q≤M.length∨q=1)∧SO base g n c wr (P++(zfL vk (M.take q)++(M.drop q++S)))∧Below base w wr) (fun vi _=>b-(intOf vi).toNat)
 case atStart=>exact⟨1,by simp,Nat.le_refl _,.inr rfl,H0.out,Below.refl _ _⟩
 case round=>
  obtain⟨q,rfl,hq1,hq2,hs,hbw⟩:=hrel;have HB:=lhd hbw;clear hbw;by_cases hlt:q<M.length
  ·have hd0:decide ((a:Int)+(q:Int)<(b:Int))=true:=by rw[decide_eq_true_iff];omega
   have hwq:IntKind.i64.wrap ((a:Int)+(q:Int)+1)=(a:Int)+(q:Int)+1:=IntWalk.i64_in _ (by omega);rw[List.drop_eq_getElem_cons hlt]at hs;have HX:=lhd (show zfL vk (M.take (q+1))=mrg vk (zfL vk (M.take q)) [M[q]]by rw[List.take_succ_eq_append_getElem hlt];exact zfS _ _);have HQS:=lhd (zfT (k:=vk) (M.take q));have hQl:(zfL vk (M.take q)).length=q:=by rw[zfO,List.length_take];omega
   generalize M[q]=x at hs HX;generalize zfL vk (M.take q)=Q at hs HX HQS hQl;have H1:=lhd hs;have hzl:=hs.len;simp only[List.length_append,List.length_cons]at hzl;clear hs;go_wp2_with fail;clear hd0;go_loopw [9] (fun vj wj=>∃(j:Nat) (A1 A2:List Vr),vj=.int .i64 (j:Int)∧a+A1.length=j∧Q=A1++A2∧(∀y∈A2,vk x<vk y)∧SO base g n c wj (P++(A1++x::(A2++(M.drop (q+1)++S))))∧Below base w wj) (fun vj _=>(intOf vj).toNat-a)
   case atStart=>exact⟨a+q,Q,[],by simp,by rw[hQl],by simp,by simp,by simpa using H1.out,HB.out⟩
   case round=>
    obtain⟨j,A1,A2,rfl,hj,hsp,hgt,hs,hbj⟩:=hrel;have HBJ:=lhd hbj;have HSP:=lhd hsp;have HGT:=lhd hgt;clear hbj hsp hgt;by_cases hA:A1=[]
    ·subst hA;have hja:j=a:=by simpa using hj.symm
     subst hja;have hdj:decide ((j:Int)<(j:Int))=false:=by simp
     have HF:=lhd (show SO base g n c wr (P++(zfL vk (M.take (q+1))++(M.drop (q+1)++S)))by
      rw[HX.out,zfw HQS.out HSP.out HGT.out (fun A y e=>by simp at e)];simpa using hs)
     clear hs;go_wp2_with fail;go_quiet (fail);go_wp2_with fail;go_roundw;case rel=>exact⟨q+1,by simp;omega,by omega,.inl (by omega),SO.drw HF.out _,za2 HBJ.out _⟩
     case measure=>simp[intOf];omega
    ·obtain⟨A,y,rfl⟩:∃A y,A1=A++ [y]:=⟨A1.dropLast,A1.getLast hA,(List.dropLast_concat_getLast _).symm⟩;rw[List.length_append,List.length_singleton]at hj;obtain⟨k,rfl⟩:∃k,j=k+1:=⟨j-1,by omega⟩;clear hA;rw[show P++(A++ [y]++x::(A2++(M.drop (q+1)++S)))=(P++A)++y::([]++x::(A2++(M.drop (q+1)++S)))by simp]at hs;have hPA:(P++A).length=k:=by rw[List.length_append];omega
     have hkn:k+1<n:=by have:=hs.len;simp only[List.length_append,List.length_cons,List.length_nil]at this hPA;omega
     have hd1:decide ((a:Int)<(k:Int)+1)=true:=by rw[decide_eq_true_iff];omega
     have hz:=hs.at;rw[hPA]at hz;have hs':=hs;rw[show(P++A)++y::([]++x::(A2++(M.drop (q+1)++S)))=(P++(A++ [y]))++x::(A2++(M.drop (q+1)++S))by simp]at hs';have hz':=hs'.at;rw[show(P++(A++ [y])).length=k+1 by simp only[List.length_append,List.length_singleton]at hPA⊢;omega]at hz';obtain⟨y0,y1,y2,y3,y4,y5,y6⟩:=hz;obtain⟨x0,x1,x2,x3,x4,x5,x6⟩:=hz';have HS:=lhd hs;have HPA:=lhd hPA;have HLO:=lhd (show base≤wr.drew.heap.size from Nat.le_of_lt (Nat.lt_of_le_of_lt hs.lo.1 hs.lo.2));have h1:(0:Int)≤(k:Int)+1:=by omega
     have h2:(k:Int)+1<(n:Int):=by omega
     have h3:((k:Int)+1).toNat=k+1:=by omega
     have h4:(0:Int)≤(k:Int):=by omega
     have h5:(k:Int)<(n:Int):=by omega
     have hwk:IntKind.i64.wrap ((k:Int)+1-1)=(k:Int):=by rw[IntWalk.i64_in _ (by omega)];omega
     have hwk2:IntKind.i64.wrap (k:Int)=(k:Int):=IntWalk.i64_in _ (by omega);have HL:=lhd (show a+A.length=k∧a+M.length=b∧q<M.length∧k+1<n∧n≤1000 from⟨by omega,hM,hlt,hkn,hn⟩);clear hs hs' hPA hkn hp hM hlen hzl hQl hj hlt hN hq1 hq2;by_cases hc:vk x<vk y
     ·have HC:=lhd (show decide (vk x<vk y)=true from decide_eq_true hc)
      have HGT2:=lhd (show ∀z∈y::A2,vk x<vk z from fun z hz=>by
       rcases List.mem_cons.1 hz with rfl|hz
       ·exact hc
       ·exact HGT.out z hz)
      clear hc;go_wp2_with fail
      go_region_held3 (fun w'=>w'.cell? ⟨g,(k+1)*7,none⟩=some (.string (bsB x.nm))∧w'.cell? ⟨g,(k+1)*7+1,none⟩=some (.int .i64 x.ty)∧w'.cell? ⟨g,(k+1)*7+2,none⟩=some (.int .i64 x.sc)∧w'.cell? ⟨g,(k+1)*7+3,none⟩=some (.int .i64 x.sg)∧w'.cell? ⟨g,(k+1)*7+4,none⟩=some (.bool x.rg)∧w'.cell? ⟨g,(k+1)*7+5,none⟩=some (.int .i64 x.mb)∧w'.cell? ⟨g,(k+1)*7+6,none⟩=some (.int .i64 x.lb)∧w'.cell? ⟨g,k*7,none⟩=some (.string (bsB y.nm))∧w'.cell? ⟨g,k*7+1,none⟩=some (.int .i64 y.ty)∧w'.cell? ⟨g,k*7+2,none⟩=some (.int .i64 y.sc)∧w'.cell? ⟨g,k*7+3,none⟩=some (.int .i64 y.sg)∧w'.cell? ⟨g,k*7+4,none⟩=some (.bool y.rg)∧w'.cell? ⟨g,k*7+5,none⟩=some (.int .i64 y.mb)∧w'.cell? ⟨g,k*7+6,none⟩=some (.int .i64 y.lb))
       (first|exact⟨x0,x1,x2,x3,x4,x5,x6,y0,y1,y2,y3,y4,y5,y6⟩|exact⟨u0,u1,u2,u3,u4,u5,u6,v0,v1,v2,v3,v4,v5,v6⟩|go_keep)
       (first
         |(go_at_call 57;refine(zm2 x y _).mono ?_;rintro e w2 ⟨z,rfl,hz,hb2⟩;rw[HC.out]at hz;have hs2:=SO.after HS.out.drew hb2;have HS2:=lhd hs2;have HB2:=lhd (HBJ.out.drew.trans (hb2.mono HLO.out));have hqa:=hs2.at;rw[HPA.out]at hqa;have hs3:=hs2;rw[show(P++A)++y::([]++x::(A2++(M.drop (q+1)++S)))=(P++(A++ [y]))++x::(A2++(M.drop (q+1)++S))by simp]at hs3;have hqb:=hs3.at;rw[show(P++(A++ [y])).length=k+1 by have:=HPA.out;simp only[List.length_append,List.length_singleton]at this⊢;omega]at hqb;obtain⟨v0,v1,v2,v3,v4,v5,v6⟩:=hqa;obtain⟨u0,u1,u2,u3,u4,u5,u6⟩:=hqb;clear hb2 hs2 hs3)
         |fail "no arm")
      have hsw:=HS2.out.swap2 (p:=k) (q:=k+1) HPA.out (by rw[HPA.out];rfl);have HSW:=lhd hsw;have hfz:=zjj HS2.out;have hab:¬k+1=k:=by omega
      have hba:¬k=k+1:=by omega
      clear hsw;go_upto_region 6 with fail;go_region
      clear u0 u1 u2 u3 u4 u5 u6 v0 v1 v2 v3 v4 v5 v6 x0 x1 x2 x3 x4 x5 x6 y0 y1 y2 y3 y4 y5 y6 hfz hab hba h1 h2 h3 h4 h5;go_wp2_with fail;go_roundw
      case rel=>
       refine⟨k,A,y::A2,rfl,HL.out.1,by rw[HSP.out];simp,HGT2.out,?_,(HB2.out.trans HSW.out.2).drew⟩;have h9:=HSW.out.1.drew;rw[show(P++A)++x::([]++y::(A2++(M.drop (q+1)++S)))=P++(A++x::((y::A2)++(M.drop (q+1)++S)))by simp]at h9;exact h9
      case measure=>
       have h9:=HL.out.1;simp[intOf];omega
     ·have HC:=lhd (show decide (vk x<vk y)=false from decide_eq_false hc)
      have HF:=lhd (show SO base g n c wr (P++(zfL vk (M.take (q+1))++(M.drop (q+1)++S)))by
       have h9:=HS.out
       rw[HX.out,zfw HQS.out HSP.out HGT.out (fun A' z e=>by
        have e2:=List.append_inj_right' e rfl;injection e2 with e2 _;subst e2;exact hc)]
       rw[show P++(A++ [y]++x::A2++(M.drop (q+1)++S))=(P++A)++y::([]++x::(A2++(M.drop (q+1)++S)))by simp];exact h9)
      clear hc;go_wp2_with fail
      go_region_held3 (fun w'=>w'.cell? ⟨g,(k+1)*7,none⟩=some (.string (bsB x.nm))∧w'.cell? ⟨g,(k+1)*7+1,none⟩=some (.int .i64 x.ty)∧w'.cell? ⟨g,(k+1)*7+2,none⟩=some (.int .i64 x.sc)∧w'.cell? ⟨g,(k+1)*7+3,none⟩=some (.int .i64 x.sg)∧w'.cell? ⟨g,(k+1)*7+4,none⟩=some (.bool x.rg)∧w'.cell? ⟨g,(k+1)*7+5,none⟩=some (.int .i64 x.mb)∧w'.cell? ⟨g,(k+1)*7+6,none⟩=some (.int .i64 x.lb)∧w'.cell? ⟨g,k*7,none⟩=some (.string (bsB y.nm))∧w'.cell? ⟨g,k*7+1,none⟩=some (.int .i64 y.ty)∧w'.cell? ⟨g,k*7+2,none⟩=some (.int .i64 y.sc)∧w'.cell? ⟨g,k*7+3,none⟩=some (.int .i64 y.sg)∧w'.cell? ⟨g,k*7+4,none⟩=some (.bool y.rg)∧w'.cell? ⟨g,k*7+5,none⟩=some (.int .i64 y.mb)∧w'.cell? ⟨g,k*7+6,none⟩=some (.int .i64 y.lb))
       (first|exact⟨x0,x1,x2,x3,x4,x5,x6,y0,y1,y2,y3,y4,y5,y6⟩|exact⟨u0,u1,u2,u3,u4,u5,u6,v0,v1,v2,v3,v4,v5,v6⟩|go_keep)
       (first
         |(go_at_call 57;refine(zm2 x y _).mono ?_;rintro e w2 ⟨z,rfl,hz,hb2⟩;rw[HC.out]at hz;have hs2:=SO.after HS.out.drew hb2;have HS2:=lhd hs2;have HFF:=lhd (SO.after HF.out.drew hb2);have HB2:=lhd (HBJ.out.drew.trans (hb2.mono HLO.out));have hqa:=hs2.at;rw[HPA.out]at hqa;have hs3:=hs2;rw[show(P++A)++y::([]++x::(A2++(M.drop (q+1)++S)))=(P++(A++ [y]))++x::(A2++(M.drop (q+1)++S))by simp]at hs3;have hqb:=hs3.at;rw[show(P++(A++ [y])).length=k+1 by have:=HPA.out;simp only[List.length_append,List.length_singleton]at this⊢;omega]at hqb;obtain⟨v0,v1,v2,v3,v4,v5,v6⟩:=hqa;obtain⟨u0,u1,u2,u3,u4,u5,u6⟩:=hqb;clear hb2 hs2 hs3)
         |fail "no arm")
      clear u0 u1 u2 u3 u4 u5 u6 v0 v1 v2 v3 v4 v5 v6 x0 x1 x2 x3 x4 x5 x6 y0 y1 y2 y3 y4 y5 y6 h1 h2 h3 h4 h5;go_wp2_with fail;go_roundw;case rel=>exact⟨q+1,by simp;omega,by omega,.inl (by have:=HL.out.2.2.1;omega),HFF.out,HB2.out⟩
      case measure=>
       have h9:=HL.out;simp[intOf];omega
  ·have hd0:decide ((a:Int)+(q:Int)<(b:Int))=false:=by rw[decide_eq_false_iff_not];omega
   have HF:=lhd (show SO base g n c wr (P++(zfL vk M++S))by
    rw[List.take_of_length_le (by omega),List.drop_of_length_le (by omega)]at hs;exact hs)
   clear hs;go_wp2_with fail;go_end0
   exact⟨rfl,HF.out,HB.out⟩
open Go.RowKit Go.Shelf
attribute [local go_sem] Oper.semAt_some
def strV (s:Bs):Value:=.string (bsB s)
def strs (l:List Bs):List Value:=l.map strV
theorem zno:(Tryz.prog.info? 9).map (fun i=>(i.zero,i.size,i.bytes))=some (some (.string ⟨#[]⟩),1,16):=by kernel_rfl
theorem zjv {W V:World} {B B' e size n:Nat} {v:Value} {xs:List Value} {T:TypeId} (h:W.ownsRow B e size v n xs) (ht:TurnI B' T W V) (hne:e≠T):V.ownsRow B e size v n xs:=by
 obtain⟨h1,h2⟩:=h;refine⟨h1,?_⟩;rcases h2 with h2|⟨g,cap,cur,e0,hb,hg,hr⟩
 ·exact .inl h2
 ·exact .inr ⟨g,cap,cur,e0,hb,ht.cells _ _ _ _ hne hg,hr⟩
theorem zjp {W V:World} {B e size n:Nat} {v:Value} {xs:List Value} (h:W.ownsRow B e size v n xs) (ht:Same0 W V):V.ownsRow B e size v n xs:=by
 obtain⟨h1,h2⟩:=h;refine⟨h1,?_⟩;rcases h2 with h2|⟨g,cap,cur,e0,hb,hg,hr⟩
 ·exact .inl h2
 ·exact .inr ⟨g,cap,cur,e0,hb,ht.cells _ _ _ _ hg,hr⟩
theorem za4 {B:Nat} {w W V:World} {T:TypeId} (h:Below B w W) (ht:TurnI B T W V):Below B w V:=
 ⟨ht.os.trans h.os,ht.tape.trans h.tape,ht.output.trans h.output,Nat.le_trans h.size ht.size,fun b hb=>(ht.low b hb).trans (h.block b hb)⟩
structure PtI (w:World) (v:Value) (nms:List Bs) (vo:Value) (W:World):Prop where
 bs:W.heap[w.heap.size]? =some (.cells #[v] 22 (0,0))
 bo:W.heap[w.heap.size+1]? =some (.cells #[vo] 65 (0,0))
 o:W.ownsRow w.heap.size 9 1 vo nms.length (strs nms)
 b:Below w.heap.size w W
theorem PtI.turn {w W V:World} {v vo:Value} {nms:List Bs} (h:PtI w v nms vo W) (ht:TurnI w.heap.size 3 W V):PtI w v nms vo V:=
 ⟨ht.cells _ _ _ _ (by decide) h.bs,ht.cells _ _ _ _ (by decide) h.bo,zjv h.o ht (by decide),za4 h.b ht⟩
theorem PtI.same {w W V:World} {v vo:Value} {nms:List Bs} (h:PtI w v nms vo W) (hb:Below W.heap.size W V):PtI w v nms vo V:=
 ⟨(Same0.of_below hb).cells _ _ _ _ h.bs,(Same0.of_below hb).cells _ _ _ _ h.bo,zjp h.o (Same0.of_below hb),h.b.trans (hb.mono h.b.size)⟩
def nmS (S:List Sc) (j:Nat):Bs:=(S.getD j ([],0,0)).1
theorem PtI.add {w W W':World} {v vo v':Value} {nms:List Bs} {nm:Bs} (h:PtI w v nms vo W) (ho:W'.ownsRow w.heap.size 9 1 v' (nms.length+1) (strs nms++ [strV nm])) (hg:W.grownBy W' vo.ownBlock):
 PtI w v (nms++ [nm]) v' (W'.setCell ⟨w.heap.size+1,0,none⟩ v')∧W'.cell? ⟨w.heap.size,0,none⟩=some v∧W'.frozen? ⟨w.heap.size+1,0,none⟩=false∧W'.cell? ⟨w.heap.size+1,0,none⟩=some vo∧
  KpU w.heap.size 9 65 W (W'.setCell ⟨w.heap.size+1,0,none⟩ v')∧W.heap.size≤(W'.setCell ⟨w.heap.size+1,0,none⟩ v').heap.size∧KeepsOthers W (W'.setCell ⟨w.heap.size+1,0,none⟩ v'):=by
 have hne:∀(i:Nat) (D:Array Value) (T:TypeId) (fr:Nat×Nat),W.heap[i]? =some (.cells D T fr)→T≠9→W'.heap[i]? =some (.cells D T fr):=by
  intro i D T fr hi hT
  rw[hg.block i (Array.getElem?_eq_some_iff.1 hi).1 (fun q=>by
   rcases h.o.2 with⟨rfl,-⟩|⟨g',cap',cur,rfl,-,hgb,-⟩
   ·cases q
   ·injection q with q;subst q;rw[hgb]at hi;injection hi with hi;injection hi with _ h5 _;exact hT h5.symm)]
  exact hi
 have h1:=hne _ _ _ _ h.bs (by decide);have h2:=hne _ _ _ _ h.bo (by decide);obtain⟨c1,f1⟩:=ziF h1;obtain⟨c2,f2⟩:=ziF h2;have hb:Below w.heap.size w W':=h.b.grown hg (h.b.size) (fun k hk=>(h.o.lt _ hk).1);refine⟨⟨zeG (by omega) h1,zeI h2,?_,hb.setCell (p:=⟨w.heap.size+1,0,none⟩) (by show w.heap.size≤w.heap.size+1;omega) _⟩,c1,f2,c2,?_,?_,?_⟩
 ·rw[List.length_append,List.length_singleton];have e:strs (nms++ [nm])=strs nms++ [strV nm]:=by simp[strs]
  rw[e];refine ownsRow_setCell_other (a:=⟨w.heap.size+1,0,none⟩) ho (fun q=>?_) _;rcases ho.2 with⟨rfl,-⟩|⟨g',cap',cur,rfl,-,hgb,-⟩
  ·cases q
  ·injection q with q;subst q;rw[hgb]at h2;injection h2 with h2;injection h2 with _ h5 _;exact absurd h5 (by decide)
 ·intro b C T fr hT hb';rcases hT with hT|⟨hT1,hT2⟩
  ·have e1:W'.heap[b]? =W.heap[b]? :=hg.block b (Array.getElem?_eq_some_iff.1 hb').1 (fun q=>by have:=(h.o.lt _ q.symm).1;omega);exact zeG (by omega) (e1.trans hb')
  ·have h3:=hne _ _ _ _ hb' hT1;refine zeG ?_ h3;rintro rfl;rw[h2]at h3;injection h3 with h3;injection h3 with _ h5 _;exact hT2 h5.symm
 ·have:=hg.size;simpa using this
 ·refine(KeepsOthers.of_grownBy hg fun j o ej hj=>?_).trans (KeepsOthers.setCell _ _ _);rcases h.o.2 with⟨rfl,_⟩|⟨g,cap,cur,rfl,_,hgb,_⟩
  ·simp[Value.ownBlock]at ej
  ·obtain rfl:g=j:=by simpa[Value.ownBlock] using ej
   rw[hgb]at hj;cases hj;rfl
def zas (w:World) (v:Value) (S:List Sc) (L:List Nat) (k:Nat) (W:World):Prop:=∃vo,PtI w v ((L.take k).map (nmS S)) vo W
attribute [local go_sem] Oper.semAt_some
theorem zoj (S:List Sc):∀(f:Nat) (i:Int),(upL S f i).length≤f
 |0,_=>Nat.zero_le _
 |f+1,i=>by
  unfold upL;split
  ·simp
  ·split
   ·simp
   ·have:=zoj S f;simp only[List.length_cons];have:=this (by assumption:Sc).2.2;omega
theorem ze3 (a:Option Addr) (m cap:Nat) (i:Int) (w:World):
 Calls Tryz.prog 144 #[.slice a m cap,.int .i64 i] w fun e w'=>e=.returned (.func (.func 177) #[] #[.pointer (some ⟨w.heap.size+1,0,none⟩),.pointer (some ⟨w.heap.size,0,none⟩)])∧w'=(w.alloc (.cells #[.slice a m cap] 22)).alloc (.cells #[.int .i64 i] 3):=by
 go_enter Tryz.func144,Tryz.ntmps144;go_wp2_with fail;go_ret;exact⟨rfl,rfl⟩
theorem PtI.old {w W W':World} {v vo:Value} {nms:List Bs} (h:PtI w v nms vo W) (hg:W.grownBy W' vo.ownBlock):Same0 w W':=
 Same0.of_below (h.b.grown hg (h.b.size) (fun _ hk=>(h.o.lt _ hk).1))
theorem PtI.rev {w W:World} {v vo:Value} {nms:List Bs} (h:PtI w v nms vo W) (hn:nms≠ []):
 ∃g cap,vo=.slice (some ⟨g,0,none⟩) nms.length cap∧Sort.Holds Proofs.encStr W g 0 nms.toArray∧∀q,PtI w v nms.reverse vo (Sort.putRow Proofs.encStr (Sort.ahead W q) g 0 nms.reverse.toArray)∧
  (∀(D:Nat) (o:Obj),W.heap[D]? =some o→o.isCells=false→(Sort.putRow Proofs.encStr (Sort.ahead W q) g 0 nms.reverse.toArray).heap[D]? =some o):=by
 have hnil:vo≠ .slice none 0 0:=by
  rintro rfl;have h1:=h.o.1;rcases h.o.2 with⟨-,h2⟩|⟨g,cap,cur,e0,-⟩
  ·exact hn (List.length_eq_zero_iff.1 h2)
  ·cases e0
 have ho:W.ownsRow w.heap.size 9 1 vo nms.length (nms.map Proofs.encStr):=h.o;obtain⟨g,cap,rfl,hg,hgl,hc1,hc2,-,hH⟩:=Lib.holds_of_ownsRow ho hnil
 have hgb:∃cur,W.heap[g]? =some (.cells cur 9 (0,0)):=by
  rcases ho.2 with⟨e0,-⟩|⟨g',cap',cur,e0,-,hb,-⟩
  ·cases e0
  ·injection e0 with e0 _ _;injection e0 with e0;injection e0 with e0 _ _;subst e0;exact⟨cur,hb⟩
 obtain⟨cur,hgb⟩:=hgb;refine⟨g,cap,rfl,hH,fun q=>?_⟩
 have hfar:∀D,D≠g→(Sort.putRow Proofs.encStr (Sort.ahead W q) g 0 nms.reverse.toArray).heap[D]? =W.heap[D]? :=by
  intro D hD;simp[Sort.putRow,Go.Sort.mapBlock,Sort.ahead,Array.getElem?_modify,show g≠D from fun e=>hD e.symm]
 have hne:∀(i:Nat) (D:Array Value) (T:TypeId) (fr:Nat×Nat),W.heap[i]? =some (.cells D T fr)→T≠9→i≠g:=by
  rintro i D T fr hi hT rfl;rw[hgb]at hi;injection hi with hi;injection hi with _ h5 _;exact hT h5.symm
 refine⟨⟨(hfar _ (hne _ _ _ _ h.bs (by decide))).trans h.bs,(hfar _ (hne _ _ _ _ h.bo (by decide))).trans h.bo,?_,Lib.below_putRow h.b hg⟩,fun D o hD ho'=>(hfar D ?_).trans hD⟩
 ·have:=Lib.ownsRow_putRow (q:=q) (ys:=nms.reverse) ho (by simp) (Nat.le_refl _);rw[List.take_of_length_le (by simp)]at this;rw[List.length_reverse];exact this
 ·rintro rfl;rw[hgb]at hD;injection hD with hD;subst hD;cases ho'
theorem zeX (v:Value) (S:List Sc) (i:Nat) (w:World) (hs:SlR w v S.length (scs S)) (hF:Fst (parS S) S.length) (hi:i<S.length) (hl:S.length≤1000):
 Calls Tryz.prog 96 #[v,.int .i64 i] w fun e w'=>∃v',e=.returned v'∧w'.ownsRow w.heap.size 9 1 v' (upL S (i+1) i).length (strs ((upL S (i+1) i).map (nmS S)).reverse)∧Below w.heap.size w w':=by
 obtain⟨i0,hi0,iz0,iz1,iz2⟩:=info_parts (P:=Tryz.prog) zno;obtain⟨a,cap,rfl,-,-⟩:=hs.shape;obtain⟨L,hL⟩:∃L,upL S (i+1) i=L:=⟨_,rfl⟩;have HSP:=lhd (zom hF (i+1) (i:Int) (by omega) (by omega) (by omega));rw[hL]at HSP⊢;have HL:=lhd hL;have HLE:=lhd (show L.length≤i+1 by rw[←hL];exact zoj _ _ _);clear hL;refine(callsIn_wide (n:=6)).1 ?_;refine callsIn_of_wp_marks Tryz.func96 rfl trivial ?_ rfl;refine wpIn_wide.2 ?_;simp only[Tryz.ntmps96,List.size_toArray,List.length_cons,List.length_nil,Nat.reduceAdd,Nat.reduceSub,Array.replicate_succ,Array.replicate_zero,List.push_toArray,List.append_toArray,List.nil_append,List.cons_append];go_wp2_with fail;refine(ze3 _ _ _ _ _).mono ?_;rintro e w1 ⟨rfl,rfl⟩;go_wp2_with fail;obtain⟨v,hv⟩:∃v,Value.slice a S.length cap=v:=⟨_,rfl⟩;rw[hv]at hs⊢;obtain⟨W0,hW0⟩:∃X,(((w.alloc (.cells #[v] 22)).alloc (.cells #[.slice none 0 0] 65)).alloc (.cells #[v] 22)).alloc (.cells #[.int .i64 i] 3)=X:=⟨_,rfl⟩;have hs0:W0.heap.size=w.heap.size+4:=by rw[←hW0];simp
 have h1:=heap_alloc_new w (.cells #[v] 22);have b1:Below w.heap.size w (w.alloc (.cells #[v] 22)):=(Below.refl _ _).alloc (Nat.le_refl _) _;have e1:(w.alloc (.cells #[v] 22)).heap.size=w.heap.size+1:=by simp
 rw[hW0];generalize w.alloc (.cells #[v] 22)=x1 at*;have h2:=heap_alloc_new x1 (.cells #[.slice none 0 0] 65);have b2:Below x1.heap.size x1 (x1.alloc (.cells #[.slice none 0 0] 65)):=(Below.refl _ _).alloc (Nat.le_refl _) _;have e2:(x1.alloc (.cells #[.slice none 0 0] 65)).heap.size=w.heap.size+2:=by simp[e1]
 generalize x1.alloc (.cells #[.slice none 0 0] 65)=x2 at*;have h3:=heap_alloc_new x2 (.cells #[v] 22);have b3:Below x2.heap.size x2 (x2.alloc (.cells #[v] 22)):=(Below.refl _ _).alloc (Nat.le_refl _) _;have e3:(x2.alloc (.cells #[v] 22)).heap.size=w.heap.size+3:=by simp[e2]
 generalize x2.alloc (.cells #[v] 22)=x3 at*;have h4:=heap_alloc_new x3 (.cells #[.int .i64 i] 3);have b4:Below x3.heap.size x3 (x3.alloc (.cells #[.int .i64 i] 3)):=(Below.refl _ _).alloc (Nat.le_refl _) _;rw[hW0]at h4 b4;rw[e1]at h2;rw[e2]at h3;rw[e3]at h4;have q1:=(Same0.of_below b4).cells _ _ _ _ ((Same0.of_below b3).cells _ _ _ _ ((Same0.of_below b2).cells _ _ _ _ h1));have q2:=(Same0.of_below b4).cells _ _ _ _ ((Same0.of_below b3).cells _ _ _ _ h2);have q3:=(Same0.of_below b4).cells _ _ _ _ h3;have bb:Below w.heap.size w W0:=zd5 (zd5 (zd5 b1 b2) b3) b4;have hI0:PtI w v [] (.slice none 0 0) W0:=⟨q1,q2,World.ownsRow_nil _ _ _ _,bb⟩;have HS:=lhd hs;have HF:=lhd hF;clear hs hF q1 q2 h1 h2 h3 b1 b2 b3 b4 e1 e2 e3 hW0;refine(wpIn_wide (n:=6)).1 ?_
 refine zkI (B0:=w.heap.size) (hB0:=by omega) rfl (by decide) (gf:=177) (lb:=#[.pointer (some ⟨w.heap.size+3,0,none⟩),.pointer (some ⟨w.heap.size+2,0,none⟩)]) rfl trivial (enters_of Tryz.func177 (by kernel_rfl) rfl)
  (encs:=upE L) (Kp:=fun W V=>KpU w.heap.size 9 65 W V∧W.heap.size≤V.heap.size) (N:=L.length) (T:=3)
  (fun l J W hW hJ hY h0=>?iter)
  (fun h k=>⟨h.1.trans k.1,Nat.le_trans h.2 k.2⟩) (fun _ _ h=>⟨KpU.same0 h,h.size⟩) (fun _=>rfl)
  (zas w v S L) (fun k W V ⟨vo,h⟩ ht=>⟨vo,h.turn ht⟩) ⟨_,hI0⟩ ?round ?done
 case iter=>
  have:=zog (6-1) (by decide) l (w.heap.size+3) (w.heap.size+2) w.heap.size w.heap.size 9 65 (by decide) (by decide) S (i:Int) v w W J HF.out (by omega) (by omega) rfl (Nat.le_refl _) (by omega) (by omega) HS.out (Same0.trans (Same0.of_below bb) (Same0.of_below hW)) hJ
   (by rw[Int.toNat_natCast,HL.out];exact hY) ((Same0.of_below hW).cells _ _ _ _ h4) ((Same0.of_below hW).cells _ _ _ _ q3) h0
  rw[Int.toNat_natCast,HL.out]at this;exact this
 case done=>
  intro D W hD hI hDd;obtain⟨vo,h⟩:=hI
  have HLP:=lhd (show L≠ []by
   intro e;have h2:=HSP.out.2;rw[e]at h2;have h2:(i:Int)= -1:=h2;omega)
  rw[List.take_of_length_le (Nat.le_refl _)]at h
  obtain⟨g,cp,rfl,hH,hr⟩:=h.rev (by
   intro e;exact HLP.out (List.map_eq_nil_iff.1 e))
  obtain⟨co,fo⟩:=ziF h.bo;have HR:=lhd hr;have HD:=lhd (And.intro hD hDd);have HRV:=lhd (Tryz.slices_Reverse_string g 0 cp (L.map (nmS S)) W hH (by have:=HLE.out;simp;omega));clear hr hD hDd hH h;generalize hnn:L.map (nmS S)=nms at*;have HNL:=lhd (show nms.length=L.length by rw[←hnn];simp);have HNN:=lhd hnn;clear hnn;go_wp2_with fail;refine HRV.out.mono ?_;rintro e w3 ⟨rfl,q,rfl⟩;obtain⟨h3,h4⟩:=HR.out q;have HD3:=lhd (h4 D _ HD.out.2 rfl);have H3:=lhd h3;clear co fo h4 HR HRV;obtain⟨co,fo⟩:=ziF h3.bo;clear h3;generalize Sort.putRow Proofs.encStr (Sort.ahead W q) g 0 nms.reverse.toArray=W3 at*;go_wp2_with fail;refine⟨by simp,.inl ⟨_,_,rfl,run_takeDeferred HD3.out,?_⟩⟩;have ho:=ownsRow_putObj H3.out.o (.deferred none) HD3.out rfl;rw[List.length_reverse]at ho;refine⟨.slice (some ⟨g,0,none⟩) nms.length cp,by simp[results,Tryz.results96,go_sem],_,rfl,?_,?_⟩
  ·rw[HNN.out,←HNL.out];exact ho
  ·exact H3.out.b.trans (belowK_b (w:=W0) (by omega) _ D _ _ HD.out.1 HD3.out rfl rfl)
 case round=>
  intro l k W hlW ⟨vo,h⟩ hk;obtain⟨q0,q1',q2⟩:=HSP.out.1 k hk;obtain⟨m,hm2⟩:=Int.eq_ofNat_of_zero_le q0;rw[hm2]at q1' q2;rw[Int.toNat_natCast]at q2;have hmS:m<S.length:=by omega
  have HLD:=lhd (show(L.getD k 0:Nat)=m by rw[List.getD,q2];rfl);unfold upE;rw[HLD.out]
  have HTK:=lhd (show(L.take (k+1)).map (nmS S)=(L.take k).map (nmS S)++ [nmS S m]by
   rw[List.take_add_one,q2];simp)
  have HNL:=lhd (show((L.take k).map (nmS S)).length=k by simp;omega);clear q0 q1' q2 hm2;generalize (L.take k).map (nmS S)=nms at*;subst hv;have HI:=lhd h;clear h;gi_wp2
  refine⟨KeepsFrom.refl _ _,⟨KpU.below (Below.refl _ _),Nat.le_refl _⟩,?_⟩;intro W1 hs1 ht1;have H2:=lhd (HI.out.turn ht1);obtain⟨ct,ft⟩:=ziF H2.out.bs;obtain⟨co,fo⟩:=ziF H2.out.bo;obtain⟨bS,oS,rfl,hcell⟩:=(HS.out.same0 (Same0.of_below H2.out.b)).scs hmS;have hnm:nmS S m=(S[m]).1:=by simp[nmS,List.getD,hmS]
  have HSX:=HS;obtain⟨nm,hnx⟩:∃nm,(S[m]).1=nm:=⟨_,rfl⟩;have d0:W1.cell? ⟨bS,oS+m*3,none⟩=some (.string (bsB nm)):=hcell 0 _ (by rw[←hnx];rfl);rw[hnm,hnx]at HTK
  have HSC:=lhd (fun(X:World) (hX:Same0 w X)=>(show X.cell? ⟨bS,oS+m*3,none⟩=some (.string (bsB nm))by
   obtain⟨b',o',e',hc'⟩:=(HSX.out.same0 hX).scs hmS;injection e' with e';injection e' with e1 e2 _;subst e1 e2;exact hc' 0 _ (by rw[←hnx];rfl)))
  clear hcell hs1 ht1 HI hnm hnx;obtain⟨ao,capo,rfl,-,-⟩:=(SlR.of_own H2.out.o).shape;have hal:Below W1.heap.size W1 (W1.drew.alloc (.cells #[.string (bsB nm)] 9)):=((Below.refl _ _).drew).alloc (Nat.le_refl _) _;have HA:=lhd (H2.out.same hal);have HKA:=lhd (KpU.below (N:=w.heap.size) (T1:=9) (T2:=65) hal);have HZA:=lhd hal.size;have HOA:=lhd ((KeepsOthers.drew W1).trans (KeepsOthers.alloc _ (.cells #[.string (bsB nm)] 9)));have y1:=(ziF HA.out.bs).1;have y2:=HSC.out _ (Same0.of_below HA.out.b);have hbz:=H2.out.b.size;have hnl:nms.length≤1000:=by have:=HNL.out;have:=HLE.out;omega
  clear hal;gi_wp2
  refine wpIn_mono (Q:=fun e _ W'=>e=.normal∧∃vo,PtI w (.slice (some ⟨bS,oS,none⟩) S.length cap) (nms++ [nm]) vo W'∧KpU w.heap.size 9 65 W1 W'∧W1.heap.size≤W'.heap.size∧KeepsOthers W1 W') ?_ ?_;rotate_left
  ·rintro e a' W' ⟨rfl,vo,hp,hk1,hk2,hk3⟩;gi_wp2
   refine⟨hk3.from _,?_⟩;unfold zas;rw[HTK.out];exact⟨vo,hp⟩
  refine wpIn_region_any (by kernel_rfl) ?_;refine zaH (zh3 (by kernel_rfl)) ?_ _ _ _ _ ?_
  ·rintro⟨a0,w0,h0,-⟩;cases h0
  refine wpAny_of_held (S:=fun w'=>w'.cell? ⟨w.heap.size,0,none⟩=some (.slice (some ⟨bS,oS,none⟩) S.length cap)∧w'.cell? ⟨bS,oS+m*3,none⟩=some (.string (bsB nm))) _ _ _ _ ?_
  ·have hHeld:W1.drew.cell? ⟨w.heap.size,0,none⟩=some (.slice (some ⟨bS,oS,none⟩) S.length cap)∧W1.drew.cell? ⟨bS,oS+m*3,none⟩=some (.string (bsB nm)):=⟨ct,d0⟩;refine tkH 1 hHeld (v:=?_) ?_ ?_;rotate_left
   ·intro w h;(try dsimp only at h);go_simp;all_goals with_reducible rfl
   simp only[tkS];refine tkH 2 hHeld (v:=?_) ?_ ?_;rotate_left
   ·intro w h;(try dsimp only at h);go_simp;all_goals with_reducible rfl
   simp only[tkS];refine tkH 3 hHeld (v:=?_) ?_ ?_;rotate_left
   ·intro w h;(try dsimp only at h);go_simp;all_goals with_reducible rfl
   simp only[tkS];refine tkH 4 hHeld (v:=?_) ?_ ?_;rotate_left
   ·intro w h;(try dsimp only at h);go_simp;all_goals with_reducible rfl
   simp only[tkS];refine tkH 5 hHeld (v:=?_) ?_ ?_;rotate_left
   ·intro w h;(try dsimp only at h);go_simp;all_goals with_reducible rfl
   simp only[tkS];refine wpAnyH_ready (rs:=[0,6]) (by kernel_rfl) (by simp) ?_;refine AllReadyH.cons (o:=_) rfl (fun K hK=>?_) (AllReadyH.cons (o:=_) rfl (fun K hK=>?_) AllReadyH.nil)
   ·go_simp;refine hK.out _ _ ⟨ct,d0⟩ (fun hHeld=>?_);clear hK;try simp only[tkS]
    refine oneH 6 (fun K hK=>?_);go_simp;refine hK.out _ _ ⟨y1,y2⟩ (fun hHeld=>?_);clear hK;try simp only[tkS]
    refine oneH 7 (fun K hK=>?_);refine step_append_lies _ (by rfl) _ _ _ (by rfl) w.heap.size 9 i0 _ 1 16 Tryz.underlying65 hi0 iz0 iz1 iz2 rfl (by omega) (.slice ao nms.length capo) nms.length (strs nms) (by rfl) (by exact HA.out.o) ⟨W1.heap.size,0,none⟩ 1 1 [.string (bsB nm)] (by rfl) (by rfl) (World.news_of_block (cs:=#[.string (bsB nm)]) (t:=9) (fr:=(0,0)) (by exact heap_alloc_new _ _)) (by simp[Value.oneCell']) (by omega) (by unfold maxLen;omega) (by omega) (by simp;omega) (W1.heap.size+1) (by simp) ?_;intro gg cap9 w9 ho9 hg9 hat hlt9;obtain⟨P1,P2,P3,P4,P5,P6,P10⟩:=HA.out.add ho9 hg9;have P7:=HSC.out w9 (HA.out.old hg9);have HP9:=lhd P1;have HK9:=lhd (And.intro P5 P6);have HO9:=lhd P10;clear ho9 hg9 hat hlt9 P1 P5 P6 P10;refine hK.out _ _ ⟨P2,P7⟩ (fun hHeld=>?_);clear hK;try simp only[tkS]
    refine oneH 8 (fun K hK=>?_);go_simp;have P8:=And.intro (ziF HP9.out.bs).1 (HSC.out _ (Same0.of_below HP9.out.b));refine hK.out _ _ P8 (fun hHeld=>?_);clear hK;try simp only[tkS]
    refine wpAnyH_done (by kernel_rfl) ?_ _;exact⟨rfl,_,HP9.out,HKA.out.trans HK9.out.1,Nat.le_trans HZA.out HK9.out.2,HOA.out.trans HO9.out⟩
   ·go_simp;refine hK.out _ _ ⟨y1,y2⟩ (fun hHeld=>?_);clear hK;try simp only[tkS]
    have a8:=zbz co (.cells #[.string (bsB nm)] 9);refine oneH 0 (fun K hK=>?_);go_simp;refine hK.out _ _ ⟨y1,y2⟩ (fun hHeld=>?_);clear hK;try simp only[tkS]
    clear a8;refine oneH 7 (fun K hK=>?_);refine step_append_lies _ (by rfl) _ _ _ (by rfl) w.heap.size 9 i0 _ 1 16 Tryz.underlying65 hi0 iz0 iz1 iz2 rfl (by omega) (.slice ao nms.length capo) nms.length (strs nms) (by rfl) (by exact HA.out.o) ⟨W1.heap.size,0,none⟩ 1 1 [.string (bsB nm)] (by rfl) (by rfl) (World.news_of_block (cs:=#[.string (bsB nm)]) (t:=9) (fr:=(0,0)) (by exact heap_alloc_new _ _)) (by simp[Value.oneCell']) (by omega) (by unfold maxLen;omega) (by omega) (by simp;omega) (W1.heap.size+1) (by simp) ?_;intro gg cap9 w9 ho9 hg9 hat hlt9;obtain⟨P1,P2,P3,P4,P5,P6,P10⟩:=HA.out.add ho9 hg9;have P7:=HSC.out w9 (HA.out.old hg9);have HP9:=lhd P1;have HK9:=lhd (And.intro P5 P6);have HO9:=lhd P10;clear ho9 hg9 hat hlt9 P1 P5 P6 P10;refine hK.out _ _ ⟨P2,P7⟩ (fun hHeld=>?_);clear hK;try simp only[tkS]
    refine oneH 8 (fun K hK=>?_);go_simp;have P8:=And.intro (ziF HP9.out.bs).1 (HSC.out _ (Same0.of_below HP9.out.b));refine hK.out _ _ P8 (fun hHeld=>?_);clear hK;try simp only[tkS]
    refine wpAnyH_done (by kernel_rfl) ?_ _;exact⟨rfl,_,HP9.out,HKA.out.trans HK9.out.1,Nat.le_trans HZA.out HK9.out.2,HOA.out.trans HO9.out⟩
theorem zaJ:∀(s:Bs),Lib.containsAny s [92,46,91,93]=s.any fun d=>d==92||d==46||d==91||d==93
 | []=>rfl
 |b::l=>by
  have ih:=zaJ l;unfold Lib.containsAny at ih⊢;rw[List.any_cons,←ih,Lib.indexAny];have hge:=Lib.indexAny_ge [92,46,91,93] l
  have hb: [92,46,91,93].contains b=(b==92||b==46||b==91||b==93):=by
   simp only[List.contains_cons,List.contains_nil,Bool.or_false,Bool.or_assoc]
  rw[hb];cases h:(b==92||b==46||b==91||b==93)
  ·rw[if_neg (by simp),Bool.false_or];by_cases h1:Lib.indexAny l [92,46,91,93]= -1
   ·rw[if_pos (by simp[h1]),h1]
   ·rw[if_neg (by simp[h1])];rw[Bool.eq_iff_iff,decide_eq_true_iff,decide_eq_true_iff];omega
  ·rw[if_pos rfl,Bool.true_or];rfl
theorem zhW (s:ByteArray) (w:World) (hs:s.data.toList.all prn=true) (hm:s.size≤1000):
 Calls Tryz.prog 147 #[.string s,.string ⟨#[92,46,91,93]⟩] w fun e w'=>e=.returned (.bool (s.data.toList.any fun d=>d==92||d==46||d==91||d==93))∧Below w.heap.size w w':=by
 refine(Tryz.strings_ContainsAny_laid s ⟨#[92,46,91,93]⟩ w (by omega) (by decide) ?_ ?_).mono ?_
 ·intro j b hb;have:=List.all_eq_true.1 hs b (List.mem_of_getElem? hb);unfold prn at this;simp at this;omega
 ·intro j b hb;have:b∈([92,46,91,93]:List UInt8):=List.mem_of_getElem? hb;revert this
  simp only[List.mem_cons,List.mem_nil_iff,or_false];rintro(rfl|rfl|rfl|rfl)<;>decide
 ·rintro e w' ⟨rfl,hb⟩;exact⟨by rw[←zaJ],hb⟩
theorem znN {s:ByteArray} (h:s.size≠0):s.toList.isEmpty=false:=by
 rw[ByteArray.toList_eq];have h1:s.data.toList.length=s.size:=by simp
 cases hh:s.data.toList with
 |nil=>rw[hh]at h1;simp at h1;omega
 |cons _ _=>rfl
theorem zn8 (c:UInt8) (n:Nat) (hn:n<256):((c.toNat:Int)==(n:Int))=decide (c=UInt8.ofNat n):=by
 rw[Bool.eq_iff_iff,beq_iff_eq,decide_eq_true_iff];constructor
 ·intro h;have:c.toNat=n:=by omega
  rw[←this,UInt8.ofNat_toNat]
 ·rintro rfl;simp;omega
theorem zhU (s:ByteArray) (w:World) (hm:s.size≤2000000):Calls Tryz.prog 98 #[.string s] w fun e w'=>e=.returned (.bool (zhz s.data.toList))∧Below w.heap.size w w':=by
 have HP:=lhd (zh1 s w (by omega));obtain⟨R,hR⟩:∃R,R=zhz s.data.toList:=⟨_,rfl⟩;rw[←hR];have hls:s.data.toList.length=s.size:=by simp
 by_cases h0:s.size=0
 ·obtain rfl:s=⟨#[]⟩:=by
   have:s.data=#[]:=Array.eq_empty_of_size_eq_zero h0;cases s;simp_all
  have HR:=lhd (show R=false by rw[hR];rfl);have hb1:(⟨#[]⟩:ByteArray).toList.isEmpty=true:=by rw[ByteArray.toList_eq];rfl
  clear hR hls h0 hm HP;go_enter Tryz.func98,Tryz.ntmps98;go_wp2_with fail;go_ret;exact⟨zle HR.out.symm,Below.refl _ _⟩
 have hb1:=znN h0;by_cases h32:32<s.size
 ·have HR:=lhd (show R=false by
   rw[hR];unfold zhz;rw[decide_eq_false (show ¬s.data.toList.length≤32 by omega)];simp)
  have hb2:decide ((32:Int)<(s.size:Int))=true:=by rw[decide_eq_true_iff];omega
  clear hR hls h0 h32 HP;go_enter Tryz.func98,Tryz.ntmps98;go_wp2_with fail;go_ret;exact⟨zle HR.out.symm,Below.refl _ _⟩
 have hb2:decide ((32:Int)<(s.size:Int))=false:=by rw[decide_eq_false_iff_not];omega
 cases hp:s.data.toList.all prn
 ·have HR:=lhd (show R=false by
   rw[hR];unfold zhz;rw[hp];simp)
  rw[hp]at HP;clear hR hls h0 h32 hp;go_enter Tryz.func98,Tryz.ntmps98;go_wp2_with fail;refine HP.out.mono ?_;rintro e w1 ⟨rfl,rfl⟩;go_wp2_with fail;go_ret;exact⟨zle HR.out.symm,Below.refl _ _⟩
 rw[hp]at HP
 obtain⟨c,t,hct⟩:∃c t,s.data.toList=c::t:=by
  cases hh:s.data.toList with
  |nil=>rw[hh]at hls;simp at hls;omega
  |cons c t=>exact⟨c,t,rfl⟩
 have hR2:R=if c=92 then decide (2≤s.size)else decide (c≠36)&&!s.data.toList.any fun d=>d==92||d==46||d==91||d==93:=by
  rw[hR];unfold zhz;rw[hp,decide_eq_true (show s.data.toList≠ []by rw[hct];simp),decide_eq_true (show s.data.toList.length≤32 by omega)];rw[hct];have hl2:(c::t).length=s.size:=by rw[←hct];exact hls
  rw[hl2];simp only[Bool.true_and]
 have hcix:∀h:0<s.size,s[0]'h=c:=fun h=>by
  have:s[0]=s.data.toList[0]'(by simpa using h):=by simp;rfl
  rw[this];simp[hct]
 have h00:0<s.size:=by omega
 have HA:=lhd (fun W=>zhW s W hp (by omega));have e92:=zn8 c 92 (by decide);have e36:=zn8 c 36 (by decide);clear hR hct;by_cases h92:c=92
 ·have b3:((c.toNat:Int)==92)=true:=by rw[show(92:Int)=((92:Nat):Int)from rfl,e92];simp[h92]
  have HR:=lhd (show R=decide (2≤s.size)by rw[hR2,if_pos h92]);clear hR2 hls h0 h32 hp e92 e36 HA h92;by_cases h2:2≤s.size
  ·have b4:decide ((2:Int)≤(s.size:Int))=true:=by rw[decide_eq_true_iff];omega
   have HR3:=lhd (show R=true by rw[HR.out,decide_eq_true h2]);clear h2;go_enter Tryz.func98,Tryz.ntmps98;go_wp2_with fail;refine HP.out.mono ?_;rintro e w1 ⟨rfl,rfl⟩;go_wp2_with fail;go_ret;exact⟨zle HR3.out.symm,Below.refl _ _⟩
  ·have b4:decide ((2:Int)≤(s.size:Int))=false:=by rw[decide_eq_false_iff_not];omega
   have HR3:=lhd (show R=false by rw[HR.out,decide_eq_false h2]);clear h2;go_enter Tryz.func98,Tryz.ntmps98;go_wp2_with fail;refine HP.out.mono ?_;rintro e w1 ⟨rfl,rfl⟩;go_wp2_with fail;go_ret;exact⟨zle HR3.out.symm,Below.refl _ _⟩
 ·have b3:((c.toNat:Int)==92)=false:=by rw[show(92:Int)=((92:Nat):Int)from rfl,e92];simpa using h92
  rw[if_neg h92]at hR2;by_cases h36:c=36
  ·have b4:((c.toNat:Int)==36)=true:=by rw[show(36:Int)=((36:Nat):Int)from rfl,e36];simp[h36]
   have b5:((c.toNat:Int) !=36)=false:=by rw[bne,b4];rfl
   have HR:=lhd (show R=false by rw[hR2,h36];rfl);clear hR2 hls h0 h32 hp e92 e36 HA h92 h36;go_enter Tryz.func98,Tryz.ntmps98;go_wp2_with fail;refine HP.out.mono ?_;rintro e w1 ⟨rfl,rfl⟩;go_wp2_with fail;go_ret;exact⟨zle HR.out.symm,Below.refl _ _⟩
  ·have b4:((c.toNat:Int)==36)=false:=by rw[show(36:Int)=((36:Nat):Int)from rfl,e36];simpa using h36
   have b5:((c.toNat:Int) !=36)=true:=by rw[bne,b4];rfl
   rw[decide_eq_true h36,Bool.true_and]at hR2;have HR:=lhd hR2;generalize (s.data.toList.any fun d=>d==92||d==46||d==91||d==93)=q at HA HR;clear hR2 hls h0 h32 hp e92 e36 h92 h36;go_enter Tryz.func98,Tryz.ntmps98;go_wp2_with fail;refine HP.out.mono ?_;rintro e w1 ⟨rfl,rfl⟩;go_wp2_with fail;refine(HA.out _).mono ?_;rintro e w1 ⟨rfl,hb⟩;go_wp2_with fail;go_ret;exact⟨zle HR.out.symm,hb⟩
open Go.RowKit Go.WideMaps
theorem zeM (s:Bs) (w:World) (hm:s.length≤100000):Calls Tryz.prog 97 #[.string (bsB s)] w fun e w'=>e=.returned (.bool (!zhz s))∧Below w.heap.size w w':=by
 have HP:=lhd (zhU (bsB s) w (by rw[zbk];omega));rw[zbh]at HP;generalize zhz s=r at HP⊢;go_enter Tryz.func97,Tryz.ntmps97;go_wp2_with fail;refine HP.out.mono ?_;rintro e w1 ⟨rfl,hb⟩;go_wp2_with fail;go_ret;exact⟨rfl,hb⟩
def outB (n m:Int):Bool:=decide (n<0)||decide (m<n)
theorem zeN (n m:Int) (w:World):Calls Tryz.prog 99 #[.int .i64 n,.int .i64 m] w fun e w'=>e=.returned (.bool (outB n m))∧Below w.heap.size w w':=by
 have HR:=lhd (show(decide (n<0)||decide (m<n))=outB n m from rfl);by_cases h1:n<0
 ·have b1:decide (n<0)=true:=by simpa using h1
  rw[b1]at HR;clear h1;go_enter Tryz.func99,Tryz.ntmps99;go_wp2_with fail;go_ret;exact⟨zle HR.out,Below.refl _ _⟩
 ·have b1:decide (n<0)=false:=by simpa using h1
  by_cases h2:m<n
  ·have b2:decide (m<n)=true:=by simpa using h2
   rw[b1,b2]at HR;clear h1 h2;go_enter Tryz.func99,Tryz.ntmps99;go_wp2_with fail;go_ret;exact⟨zle HR.out,Below.refl _ _⟩
  ·have b2:decide (m<n)=false:=by simpa using h2
   rw[b1,b2]at HR;clear h1 h2;go_enter Tryz.func99,Tryz.ntmps99;go_wp2_with fail;go_ret;exact⟨zle HR.out,Below.refl _ _⟩
def zaf (w:World) (pt:Nat) (f:Nat):Prop:=w.cell? ⟨pt,0,none⟩=some (.func (.func f) #[] #[])
theorem zeO (pt:Nat) (x:Sc) (w:World) (hc:zaf w pt 97) (hm:(x.1).length≤100000):
 Calls Tryz.prog 102 #[scV x,.pointer (some ⟨pt,0,none⟩)] w fun e w'=>e=.returned (.bool (!zhz x.1))∧Below w.heap.size w w':=by
 have hlt:=zbA hc;have hne:pt≠w.heap.size:=Nat.ne_of_lt hlt;unfold zaf at hc;obtain⟨nm,ty,pa⟩:=x;have HP:=lhd (fun W=>zeM nm W hm);generalize zhz nm=r at HP⊢;go_enter Tryz.func102,Tryz.ntmps102;go_wp2_with fail;refine(HP.out _).mono ?_;rintro e w1 ⟨rfl,hb⟩;have HB:=lhd (zd3 hb);clear hb;go_wp2_with fail;go_ret;exact⟨rfl,HB.out⟩
theorem zeQ (pt:Nat) (x:Vr) (w:World) (hc:zaf w pt 97) (hm:(x.nm).length≤100000):
 Calls Tryz.prog 104 #[vrV x,.pointer (some ⟨pt,0,none⟩)] w fun e w'=>e=.returned (.bool (!zhz x.nm))∧Below w.heap.size w w':=by
 have hlt:=zbA hc;have hne:pt≠w.heap.size:=Nat.ne_of_lt hlt;unfold zaf at hc;obtain⟨nm,ty,sc,sg,rg,mb,lb⟩:=x;have HP:=lhd (fun W=>zeM nm W hm);generalize zhz nm=r at HP⊢;go_enter Tryz.func104,Tryz.ntmps104;go_wp2_with fail;refine(HP.out _).mono ?_;rintro e w1 ⟨rfl,hb⟩;have HB:=lhd (zd3 hb);clear hb;go_wp2_with fail;go_ret;exact⟨rfl,HB.out⟩
theorem zeP (pt:Nat) (x:Sc) (w:World) (hc:zaf w pt 99):
 Calls Tryz.prog 105 #[scV x,.pointer (some ⟨pt,0,none⟩)] w fun e w'=>e=.returned (.bool (outB x.2.1 4))∧Below w.heap.size w w':=by
 have hlt:=zbA hc;have hne:pt≠w.heap.size:=Nat.ne_of_lt hlt;unfold zaf at hc;obtain⟨nm,ty,pa⟩:=x;have HP:=lhd (fun W=>zeN ty 4 W);dsimp only at HP⊢;generalize outB ty 4=r at HP⊢;go_enter Tryz.func105,Tryz.ntmps105;go_wp2_with fail;refine(HP.out _).mono ?_;rintro e w1 ⟨rfl,hb⟩;have HB:=lhd (zd3 hb);clear hb;go_wp2_with fail;go_ret;exact⟨rfl,HB.out⟩
theorem zeS (pt:Nat) (x:Vr) (w:World) (hc:zaf w pt 99):
 Calls Tryz.prog 106 #[vrV x,.pointer (some ⟨pt,0,none⟩)] w fun e w'=>e=.returned (.bool (outB x.ty 18))∧Below w.heap.size w w':=by
 have hlt:=zbA hc;have hne:pt≠w.heap.size:=Nat.ne_of_lt hlt;unfold zaf at hc;obtain⟨nm,ty,sc,sg,rg,mb,lb⟩:=x;have HP:=lhd (fun W=>zeN ty 18 W);dsimp only at HP⊢;generalize outB ty 18=r at HP⊢;go_enter Tryz.func106,Tryz.ntmps106;go_wp2_with fail;refine(HP.out _).mono ?_;rintro e w1 ⟨rfl,hb⟩;have HB:=lhd (zd3 hb);clear hb;go_wp2_with fail;go_ret;exact⟨rfl,HB.out⟩
theorem zeR (x:Vr) (w:World):Calls Tryz.prog 100 #[vrV x] w fun e w'=>e=.returned (.bool (zkJ x))∧Below w.heap.size w w':=by
 obtain⟨nm,ty,sc,sg,rg,mb,lb⟩:=x;have HP:=lhd (fun W=>zhV mb lb W);obtain⟨R,hR⟩:∃R,R=zkJ ⟨nm,ty,sc,sg,rg,mb,lb⟩:=⟨_,rfl⟩;rw[←hR];unfold zkJ at hR;dsimp only at hR;have hal:Below w.heap.size w (w.alloc (.cells #[.string (bsB nm),.int .i64 ty,.int .i64 sc,.int .i64 sg,.bool rg,.int .i64 mb,.int .i64 lb] 48)):=(Below.refl _ _).alloc (Nat.le_refl _) _;cases rg
 ·rw[if_neg (by decide)]at hR;by_cases h1:mb=0
  ·by_cases h2:lb=0
   ·have HR:=lhd (show R=false by rw[hR];simp[h1,h2]);have b1:(mb==0)=true:=by simp[h1]
    have b2:(lb==0)=true:=by simp[h2]
    subst h1 h2;clear hR HP;go_enter Tryz.func100,Tryz.ntmps100;go_wp2_with fail;go_ret;exact⟨zle HR.out.symm,hal⟩
   ·have HR:=lhd (show R=true by rw[hR];simp[h2]);have b2:(lb==0)=false:=by simpa using h2
    have b3:(lb !=0)=true:=by simpa using h2
    subst h1;clear hR HP h2;go_enter Tryz.func100,Tryz.ntmps100;go_wp2_with fail;go_ret;exact⟨zle HR.out.symm,hal⟩
  ·have HR:=lhd (show R=true by rw[hR];simp[h1]);have b2:(mb==0)=false:=by simpa using h1
   have b3:(mb !=0)=true:=by simpa using h1
   clear hR HP h1;go_enter Tryz.func100,Tryz.ntmps100;go_wp2_with fail;go_ret;exact⟨zle HR.out.symm,hal⟩
 ·rw[if_pos rfl]at hR;have HR:=lhd (show R=(zpX mb lb==0)by rw[hR];rfl);generalize zpX mb lb=q at HP HR;clear hR;go_enter Tryz.func100,Tryz.ntmps100;go_wp2_with fail;refine(HP.out _).mono ?_;rintro e w1 ⟨rfl,rfl⟩;go_wp2_with fail;go_ret;exact⟨zle HR.out.symm,hal⟩
open Go.RowKit Go.WideMaps Go.Shelf
attribute [local go_sem] Oper.semAt_some
theorem zql {P:Program} {K:TypeId} {κ:Type} [DecidableEq κ] {E:KeyEnc P K κ} (w:World) {ops:Array Oper} {rest:List Oper} {o:Oper} {a:Act} {Q:Exit→Act→World→Prop}
 (hg:o.guard=none) (m x v:Operand) (t:TypeId) (hop:o.op=Op.insert t m x v) (e:TypeId) (ht:P.underlying t=some (.map K e)) (b n:Nat) (f:κ→Option Value)
 (hm:a.eval m=.map (some b)) (hown:KMap E w b n f) (hn:n<maxLen) (k:κ) (val:Value) (hx:a.eval x=E.vK k) (hv:a.eval v=val) (hk:E.dom k)
 (hC:∀w',KMap E w' b (n+1) (fun y=>if y=k then some val else f y)→w.grownBy w' (some b)→wpList P ops Q rest (a.put o.dst undef) w'):
 wpList P ops Q (o::rest) a w:=by
 refine wpList_plain hg fun K' hK'=>?_;obtain⟨w',hrun,r1,r2⟩:=hown.put ht hn k hk val;unfold Oper.wp;simp[execOp,hop,hm,hx,hv,hrun,Result.andThen];exact hK' _ _ (hC w' r1 r2)
theorem zqj {F:Fence} {nF:Nat} {P:Program} {K:TypeId} {κ:Type} [DecidableEq κ] {E:KeyEnc P K κ} (w:World) {ops:Array Oper} {rest:List Oper} {o:Oper} {a:Act} {Q:Exit→Act→World→Prop}
 (hg:o.guard=none) (m x v:Operand) (t:TypeId) (hop:o.op=Op.mapUpdate t m x v) (e:TypeId) (ht:P.underlying t=some (.map K e)) (b n:Nat) (f:κ→Option Value)
 (hm:a.eval m=.map (some b)) (hown:KMap E w b n f) (hn:n<maxLen) (k:κ) (val:Value) (hx:a.eval x=E.vK k) (hv:a.eval v=val) (hk:E.dom k)
 (hC:∀w',KMap E w' b (n+1) (fun y=>if y=k then some val else f y)→w.grownBy w' (some b)→wpListIn F nF P ops Q rest (a.put o.dst undef) w'):
 wpListIn F nF P ops Q (o::rest) a w:=by
 refine wpListIn_plain hg fun K' hK'=>?_;obtain⟨w',hrun,r1,r2⟩:=hown.put ht hn k hk val;unfold Oper.wpIn;refine⟨by simp[Oper.about,hop],?_⟩;rw[Oper.semAt_plain F _ _ (by rw[hop];intro c hc';cases hc')];simp[execOp,hop,hm,hx,hv,hrun,Result.andThen];exact hK' _ _ (hC w' r1 r2)
def nowF (ord:List Nat) (k:Nat) (x:Int):Option Value:=if x= -1∨(0≤x∧x.toNat∈ord.take k)then some (.int .i64 (pos ord x))else none
theorem zid {ord:List Nat} (hn:ord.Nodup) {k:Nat} (hk:k<ord.length) (y:Int):(if y=(ord[k]:Int)then some (Value.int .i64 (k:Int))else nowF ord k y)=nowF ord (k+1) y:=by
 have hix:ord.idxOf ord[k]=k:=hn.idxOf_getElem k hk;by_cases hy:y=(ord[k]:Int)
 ·subst hy;rw[if_pos rfl];unfold nowF;rw[if_pos (.inr ⟨by omega,by rw[Int.toNat_natCast,List.take_succ_eq_append_getElem hk];exact List.mem_append_right _ (List.mem_singleton.2 rfl)⟩)];unfold pos;rw[if_neg (by omega),Int.toNat_natCast,hix]
 ·rw[if_neg hy];unfold nowF
  have e:(y= -1∨(0≤y∧y.toNat∈ord.take (k+1)))↔(y= -1∨(0≤y∧y.toNat∈ord.take k)):=by
   rw[List.take_succ_eq_append_getElem hk];simp only[List.mem_append,List.mem_singleton];constructor
   ·rintro(h|⟨h1,h2|h2⟩)
    ·exact .inl h
    ·exact .inr ⟨h1,h2⟩
    ·exact absurd (show y=(ord[k]:Int)by omega) hy
   ·rintro(h|⟨h1,h2⟩)
    ·exact .inl h
    ·exact .inr ⟨h1,.inl h2⟩
  by_cases h:y= -1∨(0≤y∧y.toNat∈ord.take k)
  ·rw[if_pos h,if_pos (e.2 h)]
  ·rw[if_neg h,if_neg (fun h'=>h (e.1 h'))]
theorem zie (ord:List Nat) (y:Int):(if y= -1 then some (Value.int .i64 (-1))else none)=nowF ord 0 y:=by
 unfold nowF;by_cases hy:y= -1
 ·subst hy;rw[if_pos rfl,if_pos (.inl rfl)];rfl
 ·rw[if_neg hy,if_neg];rintro(h|⟨-,h⟩)
  ·exact hy h
  ·simp at h
structure OrI (w:World) (v:Value) (b9 bq:Nat) (S:List Sc) (k km:Nat) (vo:Value) (W:World):Prop where
 bs:W.heap[w.heap.size]? =some (.cells #[v] 22 (0,0))
 bo:W.heap[b9]? =some (.cells #[vo] 22 (0,0))
 bn:W.heap[bq]? =some (.cells #[.map (some (b9+1))] 100 (0,0))
 m:KMap (zfC (P:=Tryz.prog) (K:=3) Tryz.underlying3) W (b9+1) (km+1) (nowF (preS S) km)
 o:W.ownsRow w.heap.size 84 3 vo k (scs ((scF S).take k))
 b:Below w.heap.size w W
 z:w.heap.size<b9∧b9+1<bq
theorem OrI.turn {w W V:World} {v vo:Value} {b9 bq k km B:Nat} {S:List Sc} (h:OrI w v b9 bq S k km vo W) (hB:bq<B) (ht:TurnI B 5 W V):OrI w v b9 bq S k km vo V:=by
 have hz:=h.z
 exact⟨(ht.low _ (by omega)).trans h.bs,(ht.low _ (by omega)).trans h.bo,(ht.low _ (by omega)).trans h.bn,h.m.same (ht.low _ (by omega)),zjv h.o ht (by decide),
  ⟨ht.os.trans h.b.os,ht.tape.trans h.b.tape,ht.output.trans h.b.output,Nat.le_trans h.b.size ht.size,fun b hb=>(ht.low b (by omega)).trans (h.b.block b hb)⟩,h.z⟩
theorem OrI.below {w W V:World} {v vo:Value} {b9 bq k km:Nat} {S:List Sc} (h:OrI w v b9 bq S k km vo W) (hb:Below W.heap.size W V):OrI w v b9 bq S k km vo V:=by
 have hs:=Same0.of_below hb;exact⟨hs.cells _ _ _ _ h.bs,hs.cells _ _ _ _ h.bo,hs.cells _ _ _ _ h.bn,h.m.below hb h.m.lt,zjp h.o hs,h.b.trans (hb.mono h.b.size),h.z⟩
theorem OrI.setM {w W W1:World} {v vo:Value} {b9 bq k:Nat} {S:List Sc} (h:OrI w v b9 bq S k k vo W) (hn:(preS S).Nodup) (hk:k<(preS S).length)
 (hm:KMap (zfC (P:=Tryz.prog) (K:=3) Tryz.underlying3) W1 (b9+1) (k+1+1) (fun y=>if y=((preS S)[k]:Int)then some (.int .i64 (k:Int))else nowF (preS S) k y)) (hg:W.grownBy W1 (some (b9+1))):OrI w v b9 bq S k (k+1) vo W1:=by
 have hz:=h.z
 have hne:∀(i:Nat) (D:Array Value) (T:TypeId) (fr:Nat×Nat),W.heap[i]? =some (.cells D T fr)→W1.heap[i]? =some (.cells D T fr):=by
  intro i D T fr hi
  rw[hg.block i (Array.getElem?_eq_some_iff.1 hi).1 (fun q=>by
   injection q with q;subst q;exact h.m.no_cells hi)]
  exact hi
 exact⟨hne _ _ _ _ h.bs,hne _ _ _ _ h.bo,hne _ _ _ _ h.bn,hm.ext (fun y=>zid hn hk y),h.o.kept hg (.inr fun e=>h.m.ne_row h.o e.symm),h.b.grown hg h.b.size (fun j hj=>by injection hj with hj;omega),hz⟩
theorem OrI.add {w W W1:World} {v vo vo':Value} {b9 bq k km:Nat} {S:List Sc} {x:Sc} (h:OrI w v b9 bq S k km vo W) (hx:(scF S)[k]? =some x) (ho:W1.ownsRow w.heap.size 84 3 vo' (k+1) (scs ((scF S).take k)++scC x)) (hg:W.grownBy W1 vo.ownBlock):
 OrI w v b9 bq S (k+1) km vo' (W1.setCell ⟨b9,0,none⟩ vo'):=by
 have hz:=h.z
 have hne:∀(i:Nat) (D:Array Value) (T:TypeId) (fr:Nat×Nat),W.heap[i]? =some (.cells D T fr)→T≠84→W1.heap[i]? =some (.cells D T fr):=by
  intro i D T fr hi hT
  rw[hg.block i (Array.getElem?_eq_some_iff.1 hi).1 (fun q=>by
   rcases h.o.2 with⟨rfl,-⟩|⟨g',cap',cur,rfl,-,hgb,-⟩
   ·cases q
   ·injection q with q;subst q;rw[hgb]at hi;injection hi with hi;injection hi with _ h5 _;exact hT h5.symm)]
  exact hi
 have h1:=hne _ _ _ _ h.bs (by decide);have h2:=hne _ _ _ _ h.bo (by decide);have h3:=hne _ _ _ _ h.bn (by decide);have hm:=(h.m.kept hg (h.m.ne_row h.o)).setCell (a:=⟨b9,0,none⟩) (by show b9+1≠b9;omega) vo';refine⟨zeG (by omega) h1,zeI h2,zeG (by omega) h3,hm,?_,(h.b.grown hg h.b.size (fun k hk=>(h.o.lt _ hk).1)).setCell (p:=⟨b9,0,none⟩) (by show w.heap.size≤b9;omega) _,hz⟩;rw[List.take_add_one,hx,zl8];show World.ownsRow _ _ _ _ _ _ (scs ((scF S).take k)++scs [x]);have e:scs [x]=scC x:=by simp[scs]
 rw[e];refine ownsRow_setCell_other (a:=⟨b9,0,none⟩) ho (fun q=>?_) _;rcases ho.2 with⟨rfl,-⟩|⟨g',cap',cur,rfl,-,hgb,-⟩
 ·cases q
 ·injection q with q;subst q;rw[hgb]at h2;injection h2 with h2;injection h2 with _ h5 _;exact absurd h5 (by decide)
theorem OrI.keepBo {w W W1:World} {v vo:Value} {b9 bq k km:Nat} {S:List Sc} (h:OrI w v b9 bq S k km vo W) (hg:W.grownBy W1 vo.ownBlock):W1.heap[b9]? =some (.cells #[vo] 22 (0,0)):=by
 rw[hg.block b9 (Array.getElem?_eq_some_iff.1 h.bo).1 (fun q=>by
  rcases h.o.2 with⟨rfl,-⟩|⟨g',cap',cur,rfl,-,hgb,-⟩
  ·cases q
  ·injection q with q;subst q;have hi:=h.bo;rw[hgb]at hi;injection hi with hi;injection hi with _ h5 _;exact absurd h5 (by decide))]
 exact h.bo
theorem OrI.others {w W W1:World} {v vo vo':Value} {b9 bq k km:Nat} {S:List Sc} (h:OrI w v b9 bq S k km vo W) (hg:W.grownBy W1 vo.ownBlock):KeepsOthers W (W1.setCell ⟨b9,0,none⟩ vo'):=by
 refine(KeepsOthers.of_grownBy hg fun j o ej hj=>?_).trans (KeepsOthers.setCell _ _ _);rcases h.o.2 with⟨rfl,_⟩|⟨g,cap,cur,rfl,_,hgb,_⟩
 ·simp[Value.ownBlock]at ej
 ·obtain rfl:g=j:=by simpa[Value.ownBlock] using ej
  rw[hgb]at hj;cases hj;rfl
theorem OrI.kp {w W W1:World} {v vo vo':Value} {b9 bq k km:Nat} {S:List Sc} (h:OrI w v b9 bq S k km vo W) (hg:W.grownBy W1 vo.ownBlock):KpO w.heap.size W (W1.setCell ⟨b9,0,none⟩ vo'):=by
 refine⟨by have:=hg.size;simpa using this,fun b C T fr hb hc=>?_⟩;have hz:=h.z;rw[Below.heap_setCell _ _ _ _ (by show b≠b9;omega),hg.block b (Array.getElem?_eq_some_iff.1 hc).1 (fun q=>by have:=(h.o.lt _ q.symm).1;omega)];exact hc
theorem zjJ {S:List Sc} {k:Nat} (hk:k<(preS S).length):parS S (preS S)[k]= -1∨(0≤parS S (preS S)[k]∧(parS S (preS S)[k]).toNat∈(preS S).take (k+1)):=by
 have hsp:preS S=(preS S).take k++(preS S)[k]::(preS S).drop (k+1):=by rw[←List.drop_eq_getElem_cons hk,List.take_append_drop]
 rcases zkj _ _ _ _ _ hsp with h|⟨y,hy,h⟩
 ·exact .inl h
 ·rw[h];refine .inr ⟨by omega,?_⟩;rw[Int.toNat_natCast,List.take_succ_eq_append_getElem hk];exact List.mem_append_left _ hy
end Go.Proofs.YtcdekelomkcahaaGreatDoor
