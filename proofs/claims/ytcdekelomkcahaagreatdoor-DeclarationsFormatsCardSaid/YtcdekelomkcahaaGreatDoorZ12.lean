import Derived.Test.YtcdekelomkcahaaGreatDoorZ00
import Derived.Test.YtcdekelomkcahaaGreatDoorZ10
import Derived.Test.YtcdekelomkcahaaGreatDoorZ11
set_option maxRecDepth 100000
set_option maxHeartbeats 16000000
namespace Go.Proofs.YtcdekelomkcahaaGreatDoor
open Go.RowKit
set_option linter.unusedSimpArgs false
theorem zhh {i j h:Nat} (hi:i≤1000000) (hj:j≤1000000) (hh:(i+j)/2=h):wrap64 ((i:Int)+(j:Int))=(i:Int)+(j:Int)∧IntKind.u64.wrap ((i:Int)+(j:Int))=(i:Int)+(j:Int)∧((i:Int)+(j:Int))/2=(h:Int)∧wrap64 (h:Int)=(h:Int)∧IntKind.i64.wrap ((h:Int)+1)=(h:Int)+1:=
 ⟨IntWalk.wrap64_in _ (by omega),IntWalk.u64_in _ (by omega),by omega,IntWalk.wrap64_in _ (by omega),IntWalk.i64_in _ (by omega)⟩
theorem znc (base g c a b:Nat) (l P B S:List Vr) (x:Vr) (w:World) (hg:SO base g l.length c w l) (hl:l=P++(x::(B++S))) (hp:P.length=a) (hB:a+1+B.length=b) (hs:Srt vk B) (hn:l.length≤1000):
 Calls Tryz.prog 151 #[.slice (some ⟨g,0,none⟩) l.length c,.int .i64 a,.int .i64 ((a:Int)+1),.int .i64 b,(.func (.func 57) #[] #[])] w fun e w'=>
  e=.returned (.tuple #[])∧SO base g l.length c w' (P++(mrg vk [x] B++S))∧Below base w w':=by
 have H0:=lhd (show SO base g l.length c w (P++(x::(B++S)))by rw[←hl];exact hg);have hlen:l.length=a+1+B.length+S.length:=by rw[hl,←hp];simp only[List.length_append,List.length_cons];omega
 have HL:=lhd (And.intro hp (And.intro hB (And.intro hlen hn)));have HSR:=lhd hs;have hw0:IntKind.i64.wrap ((a:Int)+1-(a:Int))=1:=by rw[IntWalk.i64_in _ (by omega)];omega
 generalize l.length=n at*;clear hg hl hp hB hs hlen hn;go_enter Tryz.func151,Tryz.ntmps151;go_wp2_with fail;clear hw0;go_loopw [10,11] (fun vi vj wr=>∃i j:Nat,vi=.int .i64 i∧vj=.int .i64 j∧a+1≤i∧i≤j∧j≤b∧(∀t (h:t<B.length),t+(a+1)<i→vk B[t]<vk x)∧(∀t (h:t<B.length),j≤t+(a+1)→vk x≤vk B[t])∧SO base g n c wr (P++(x::(B++S)))∧Below base w wr) (fun vi vj _=>(intOf vj).toNat-(intOf vi).toNat)
 case atStart=>
  have h9:=HL.out;exact⟨a+1,b,by simp,rfl,Nat.le_refl _,by omega,Nat.le_refl _,fun t h h2=>by omega,fun t h h2=>by omega,H0.out,Below.refl _ _⟩
 case round=>
  obtain⟨i,j,rfl,rfl,h1,h2,h3,hlt1,hge1,hs,hbw⟩:=hrel;have HB:=lhd hbw;have HS:=lhd hs;have H1:=lhd hlt1;have H2:=lhd hge1;clear hbw hs hlt1 hge1;by_cases hij:i<j
  ·skip
   have hbn:=HL.out.2.1;have hnn:=HL.out.2.2;obtain⟨h,hh⟩:∃h,(i+j)/2=h:=⟨_,rfl⟩;have MID:=lhd (zhh (i:=i) (j:=j) (h:=h) (by omega) (by omega) hh);have hhi:i≤h∧h<j:=by omega
   have hlt:h-(a+1)<B.length:=by omega
   have hsB:B=B.take (h-(a+1))++B[h-(a+1)]::B.drop (h-(a+1)+1):=by rw[←List.drop_eq_getElem_cons hlt,List.take_append_drop]
   have HCM:=lhd (fun(hc:vk B[h-(a+1)]<vk x) t (ht:t<B.length) (h2:t+(a+1)<h+1)=>(show vk B[t]<vk x from Int.lt_of_le_of_lt (zm1 HSR.out (show t≤h-(a+1)by omega) hlt) hc));have HCN:=lhd (fun(hc:¬vk B[h-(a+1)]<vk x) t (ht:t<B.length) (h2:h≤t+(a+1))=>(show vk x≤vk B[t]from Int.le_trans (Int.not_lt.1 hc) (zm1 HSR.out (show h-(a+1)≤t by omega) ht)))
   have e1:P++(x::(B++S))=(P++(x::B.take (h-(a+1))))++B[h-(a+1)]::(B.drop (h-(a+1)+1)++S):=by
    conv=>lhs;rw[hsB]
    simp only[List.append_assoc,List.cons_append]
   have hz:=(HS.out).at;rw[HL.out.1]at hz;have hz2:=(show SO base g n c wr ((P++(x::B.take (h-(a+1))))++B[h-(a+1)]::(B.drop (h-(a+1)+1)++S))from e1▸HS.out).at;rw[show(P++(x::B.take (h-(a+1)))).length=h by rw[List.length_append,List.length_cons,List.length_take,HL.out.1];omega]at hz2;have n1:(0:Int)≤(h:Int):=by omega
   have n2:(h:Int)<(n:Int):=by omega
   have n3:(0:Int)≤(a:Int):=by omega
   have n4:(a:Int)<(n:Int):=by omega
   have HLO:=lhd (show base≤wr.drew.heap.size from Nat.le_of_lt (Nat.lt_of_le_of_lt HS.out.lo.1 HS.out.lo.2));have HN:=lhd (show a+1≤i∧i≤h∧h<j∧j≤b from⟨h1,hhi.1,hhi.2,h3⟩);generalize B[h-(a+1)]=z at hz2 HCM HCN;obtain⟨x0,x1,x2,x3,x4,x5,x6⟩:=hz;obtain⟨z0,z1,z2,z3,z4,z5,z6⟩:=hz2;clear hbn hnn hsB e1 hlt hhi hh h1 h2 h3;by_cases hc:vk z<vk x
   ·have HC:=lhd (show decide (vk z<vk x)=true from decide_eq_true hc);have HM:=lhd (HCM.out hc);obtain⟨m1,m2,m3,m4,m5⟩:=MID.out;clear hc;go_wp2_with fail;clear m1 m2 m3 m4
    go_region_held3 (fun w'=>w'.cell? ⟨g,h*7,none⟩=some (.string (bsB z.nm))∧w'.cell? ⟨g,h*7+1,none⟩=some (.int .i64 z.ty)∧w'.cell? ⟨g,h*7+2,none⟩=some (.int .i64 z.sc)∧w'.cell? ⟨g,h*7+3,none⟩=some (.int .i64 z.sg)∧w'.cell? ⟨g,h*7+4,none⟩=some (.bool z.rg)∧w'.cell? ⟨g,h*7+5,none⟩=some (.int .i64 z.mb)∧w'.cell? ⟨g,h*7+6,none⟩=some (.int .i64 z.lb)∧w'.cell? ⟨g,a*7,none⟩=some (.string (bsB x.nm))∧w'.cell? ⟨g,a*7+1,none⟩=some (.int .i64 x.ty)∧w'.cell? ⟨g,a*7+2,none⟩=some (.int .i64 x.sc)∧w'.cell? ⟨g,a*7+3,none⟩=some (.int .i64 x.sg)∧w'.cell? ⟨g,a*7+4,none⟩=some (.bool x.rg)∧w'.cell? ⟨g,a*7+5,none⟩=some (.int .i64 x.mb)∧w'.cell? ⟨g,a*7+6,none⟩=some (.int .i64 x.lb))
     (first|exact⟨z0,z1,z2,z3,z4,z5,z6,x0,x1,x2,x3,x4,x5,x6⟩|exact⟨u0,u1,u2,u3,u4,u5,u6,v0,v1,v2,v3,v4,v5,v6⟩|go_keep)
     (first
       |(go_at_call 57;refine(zm2 z x _).mono ?_;rintro e w2 ⟨r,rfl,hz,hb2⟩;rw[HC.out]at hz;have hs2:=SO.after HS.out.drew hb2;have HS2:=lhd hs2;have HB2:=lhd (HB.out.drew.trans (hb2.mono HLO.out));have hlt9:=hs2.lo.2;obtain⟨v0,v1,v2,v3,v4,v5,v6⟩:=(⟨(hb2.cell (p:=⟨g,a*7,none⟩) (zbA (show wr.drew.cell? _=some _ from x0))).trans x0,(hb2.cell (p:=⟨g,a*7+1,none⟩) (zbA (show wr.drew.cell? _=some _ from x1))).trans x1,(hb2.cell (p:=⟨g,a*7+2,none⟩) (zbA (show wr.drew.cell? _=some _ from x2))).trans x2,(hb2.cell (p:=⟨g,a*7+3,none⟩) (zbA (show wr.drew.cell? _=some _ from x3))).trans x3,(hb2.cell (p:=⟨g,a*7+4,none⟩) (zbA (show wr.drew.cell? _=some _ from x4))).trans x4,(hb2.cell (p:=⟨g,a*7+5,none⟩) (zbA (show wr.drew.cell? _=some _ from x5))).trans x5,(hb2.cell (p:=⟨g,a*7+6,none⟩) (zbA (show wr.drew.cell? _=some _ from x6))).trans x6⟩:_∧_∧_∧_∧_∧_∧_);obtain⟨u0,u1,u2,u3,u4,u5,u6⟩:=(⟨(hb2.cell (p:=⟨g,h*7,none⟩) (zbA (show wr.drew.cell? _=some _ from z0))).trans z0,(hb2.cell (p:=⟨g,h*7+1,none⟩) (zbA (show wr.drew.cell? _=some _ from z1))).trans z1,(hb2.cell (p:=⟨g,h*7+2,none⟩) (zbA (show wr.drew.cell? _=some _ from z2))).trans z2,(hb2.cell (p:=⟨g,h*7+3,none⟩) (zbA (show wr.drew.cell? _=some _ from z3))).trans z3,(hb2.cell (p:=⟨g,h*7+4,none⟩) (zbA (show wr.drew.cell? _=some _ from z4))).trans z4,(hb2.cell (p:=⟨g,h*7+5,none⟩) (zbA (show wr.drew.cell? _=some _ from z5))).trans z5,(hb2.cell (p:=⟨g,h*7+6,none⟩) (zbA (show wr.drew.cell? _=some _ from z6))).trans z6⟩:_∧_∧_∧_∧_∧_∧_);clear hb2 hs2 hlt9)
       |fail "no arm")
    go_wp2_with fail;clear m5;go_roundw
    case rel=>
     have h9:=HN.out;exact⟨h+1,j,by simp,rfl,by omega,by omega,by omega,HM.out,H2.out,HS2.out,HB2.out⟩
    case measure=>
     have h9:=HN.out;simp[intOf];omega
   ·have HC:=lhd (show decide (vk z<vk x)=false from decide_eq_false hc);have HM:=lhd (HCN.out hc);obtain⟨m1,m2,m3,m4,m5⟩:=MID.out;clear hc;go_wp2_with fail;clear m1 m2 m3 m4
    go_region_held3 (fun w'=>w'.cell? ⟨g,h*7,none⟩=some (.string (bsB z.nm))∧w'.cell? ⟨g,h*7+1,none⟩=some (.int .i64 z.ty)∧w'.cell? ⟨g,h*7+2,none⟩=some (.int .i64 z.sc)∧w'.cell? ⟨g,h*7+3,none⟩=some (.int .i64 z.sg)∧w'.cell? ⟨g,h*7+4,none⟩=some (.bool z.rg)∧w'.cell? ⟨g,h*7+5,none⟩=some (.int .i64 z.mb)∧w'.cell? ⟨g,h*7+6,none⟩=some (.int .i64 z.lb)∧w'.cell? ⟨g,a*7,none⟩=some (.string (bsB x.nm))∧w'.cell? ⟨g,a*7+1,none⟩=some (.int .i64 x.ty)∧w'.cell? ⟨g,a*7+2,none⟩=some (.int .i64 x.sc)∧w'.cell? ⟨g,a*7+3,none⟩=some (.int .i64 x.sg)∧w'.cell? ⟨g,a*7+4,none⟩=some (.bool x.rg)∧w'.cell? ⟨g,a*7+5,none⟩=some (.int .i64 x.mb)∧w'.cell? ⟨g,a*7+6,none⟩=some (.int .i64 x.lb))
     (first|exact⟨z0,z1,z2,z3,z4,z5,z6,x0,x1,x2,x3,x4,x5,x6⟩|exact⟨u0,u1,u2,u3,u4,u5,u6,v0,v1,v2,v3,v4,v5,v6⟩|go_keep)
     (first
       |(go_at_call 57;refine(zm2 z x _).mono ?_;rintro e w2 ⟨r,rfl,hz,hb2⟩;rw[HC.out]at hz;have hs2:=SO.after HS.out.drew hb2;have HS2:=lhd hs2;have HB2:=lhd (HB.out.drew.trans (hb2.mono HLO.out));have hlt9:=hs2.lo.2;obtain⟨v0,v1,v2,v3,v4,v5,v6⟩:=(⟨(hb2.cell (p:=⟨g,a*7,none⟩) (zbA (show wr.drew.cell? _=some _ from x0))).trans x0,(hb2.cell (p:=⟨g,a*7+1,none⟩) (zbA (show wr.drew.cell? _=some _ from x1))).trans x1,(hb2.cell (p:=⟨g,a*7+2,none⟩) (zbA (show wr.drew.cell? _=some _ from x2))).trans x2,(hb2.cell (p:=⟨g,a*7+3,none⟩) (zbA (show wr.drew.cell? _=some _ from x3))).trans x3,(hb2.cell (p:=⟨g,a*7+4,none⟩) (zbA (show wr.drew.cell? _=some _ from x4))).trans x4,(hb2.cell (p:=⟨g,a*7+5,none⟩) (zbA (show wr.drew.cell? _=some _ from x5))).trans x5,(hb2.cell (p:=⟨g,a*7+6,none⟩) (zbA (show wr.drew.cell? _=some _ from x6))).trans x6⟩:_∧_∧_∧_∧_∧_∧_);obtain⟨u0,u1,u2,u3,u4,u5,u6⟩:=(⟨(hb2.cell (p:=⟨g,h*7,none⟩) (zbA (show wr.drew.cell? _=some _ from z0))).trans z0,(hb2.cell (p:=⟨g,h*7+1,none⟩) (zbA (show wr.drew.cell? _=some _ from z1))).trans z1,(hb2.cell (p:=⟨g,h*7+2,none⟩) (zbA (show wr.drew.cell? _=some _ from z2))).trans z2,(hb2.cell (p:=⟨g,h*7+3,none⟩) (zbA (show wr.drew.cell? _=some _ from z3))).trans z3,(hb2.cell (p:=⟨g,h*7+4,none⟩) (zbA (show wr.drew.cell? _=some _ from z4))).trans z4,(hb2.cell (p:=⟨g,h*7+5,none⟩) (zbA (show wr.drew.cell? _=some _ from z5))).trans z5,(hb2.cell (p:=⟨g,h*7+6,none⟩) (zbA (show wr.drew.cell? _=some _ from z6))).trans z6⟩:_∧_∧_∧_∧_∧_∧_);clear hb2 hs2 hlt9)
       |fail "no arm")
    go_wp2_with fail;clear m5;go_roundw
    case rel=>
     have h9:=HN.out;exact⟨i,h,rfl,rfl,by omega,by omega,by omega,H1.out,HM.out,HS2.out,HB2.out⟩
    case measure=>
     have h9:=HN.out;simp[intOf];omega
  ·obtain rfl:i=j:=by omega
   obtain⟨d,hd⟩:∃d,i=a+1+d:=⟨i-(a+1),by omega⟩;have hdB:d≤B.length:=by have:=HL.out.2.1;omega
   have HF:=lhd (show mrg vk [x] B=B.take d++x::B.drop d by
    conv=>lhs;rw[←List.take_append_drop d B]
    refine zhs (fun y hy=>?_) (fun y hy=>?_)
    ·obtain⟨t,ht,rfl⟩:=List.mem_iff_getElem.1 hy;rw[List.length_take]at ht;rw[List.getElem_take];exact H1.out t (by omega) (by omega)
    ·obtain⟨t,ht,rfl⟩:=List.mem_iff_getElem.1 hy;rw[List.length_drop]at ht;rw[List.getElem_drop];exact H2.out (d+t) (by omega) (by omega))
   have hwd:IntKind.i64.wrap ((i:Int)-1)=(a:Int)+(d:Int):=by
    have:=HL.out;rw[IntWalk.i64_in _ (by omega)];omega
   have HD:=lhd (And.intro hdB hd);clear h1 h2 h3 hij;go_wp2_with fail;clear hd hdB;go_loopw [13] (fun vk2 wj=>∃k t:Nat,vk2=.int .i64 (k:Int)∧k=a+t∧t≤d∧SO base g n c wj (P++(B.take t++x::(B.drop t++S)))∧Below base w wj) (fun vk2 _=>a+d-(intOf vk2).toNat)
   case atStart=>exact⟨a,0,by simp,rfl,Nat.zero_le _,by simpa using HS.out,HB.out⟩
   case round=>
    obtain⟨k,t,rfl,hk,htd,hs,hbj⟩:=hrel;have HBJ:=lhd hbj;clear hbj;by_cases hlt:t<d
    ·have hd1:decide ((k:Int)<(a:Int)+(d:Int))=true:=by rw[decide_eq_true_iff];omega
     have htB:t<B.length:=by have:=HD.out.1;omega
     have hL:=HL.out;rw[List.drop_eq_getElem_cons htB]at hs;have HN:=lhd (show B.take (t+1)=B.take t++ [B[t]]from List.take_succ_eq_append_getElem htB);generalize B[t]=y at hs HN;rw[show P++(B.take t++x::((y::B.drop (t+1))++S))=(P++B.take t)++x::([]++y::(B.drop (t+1)++S))by simp]at hs;have hPA:(P++B.take t).length=k:=by rw[List.length_append,List.length_take];omega
     have hz:=hs.at;have hs':=hs;rw[show(P++B.take t)++x::([]++y::(B.drop (t+1)++S))=(P++(B.take t++ [x]))++y::(B.drop (t+1)++S)by simp]at hs';have hz':=hs'.at;rw[show(P++(B.take t++ [x])).length=k+1 by simp only[List.length_append,List.length_singleton]at hPA⊢;omega]at hz';rw[hPA]at hz;obtain⟨x0,x1,x2,x3,x4,x5,x6⟩:=hz;obtain⟨y0,y1,y2,y3,y4,y5,y6⟩:=hz';have HSW:=lhd (hs.swap (p:=k) (q:=k+1) hPA (by rw[hPA];rfl));have hfz:=zjj hs;have n1:(0:Int)≤(k:Int):=by omega
     have n2:(k:Int)<(n:Int):=by omega
     have n3:(0:Int)≤(k:Int)+1:=by omega
     have n4:(k:Int)+1<(n:Int):=by omega
     have n5:((k:Int)+1).toNat=k+1:=by omega
     have hab:¬k+1=k:=by omega
     have hba:¬k=k+1:=by omega
     have HK:=lhd (And.intro hk (And.intro htd hlt));have m1:IntKind.i64.wrap ((k:Int)+1)=(k:Int)+1:=IntWalk.i64_in _ (by omega);clear hs hs' hPA hL htB hk htd hlt;go_upto_region 11 with fail;go_region
     clear x0 x1 x2 x3 x4 x5 x6 y0 y1 y2 y3 y4 y5 y6 hfz hab hba n1 n2 n3 n4 n5;go_wp2_with fail;clear m1;go_roundw
     case rel=>
      have h9:=HK.out;refine⟨k+1,t+1,by simp,by omega,by omega,?_,(HBJ.out.trans HSW.out.2).drew⟩;have h8:=HSW.out.1.drew;rw[show(P++B.take t)++y::([]++x::(B.drop (t+1)++S))=P++((B.take t++ [y])++x::(B.drop (t+1)++S))by simp,←HN.out]at h8;exact h8
     case measure=>
      have h9:=HK.out;simp[intOf];omega
    ·have hd1:decide ((k:Int)<(a:Int)+(d:Int))=false:=by rw[decide_eq_false_iff_not];omega
     obtain rfl:t=d:=by omega
     have HFF:=lhd (show SO base g n c wr (P++(mrg vk [x] B++S))by rw[HF.out];simpa using hs);clear hs;go_wp2_with fail;refine bodyPost_ret (v:=.tuple #[]) (by simp[results,Tryz.results151,go_sem]) rfl ?_;exact⟨rfl,HFF.out,HBJ.out⟩
open Go.RowKit Go.Shelf
attribute [local go_sem] Oper.semAt_some
def zj7 (par:Nat→Int) (n f:Nat) (p:Int) (i:Nat):List Nat:=((List.range n).drop i).flatMap fun j=>if par j=p then j::pre par n f j else []
theorem zkb (par:Nat→Int) (n f:Nat) (p:Int):zj7 par n f p 0=pre par n (f+1) p:=by rw[zkx];rfl
theorem zka {par:Nat→Int} {n f:Nat} {p:Int} {i:Nat} (h:i<n):zj7 par n f p i=(if par i=p then i::pre par n f i else [])++zj7 par n f p (i+1):=by
 unfold zj7;rw[List.drop_eq_getElem_cons (by simpa using h),List.flatMap_cons];simp
theorem zj8 {par:Nat→Int} {n f:Nat} {p:Int} {i:Nat} (h:n≤i):zj7 par n f p i=[]:=by
 unfold zj7;rw[List.drop_of_length_le (by simpa using h)];rfl
theorem zj9 {par:Nat→Int} {n f:Nat} {p:Int} (hF:Fst par n):∀i:Nat,(i:Int)≤max p 0→zj7 par n f p i=pre par n (f+1) p
 |0,_=>zkb par n f p
 |i+1,h=>by
  rw[←zj9 hF i (by omega)];by_cases hi:i<n
  ·rw[zka hi,if_neg,List.nil_append];have:=(hF i hi).2;omega
  ·rw[zj8 (by omega),zj8 (by omega)]
theorem zob {b:Bool} (h:some undef=some (Value.bool b)):False:=by
 unfold undef at h;cases h
def ordE (L:List Nat) (k:Nat):Array Value:=#[.int .i64 ((L.getD k 0:Nat):Int)]
def KpO (N:Nat) (W V:World):Prop:=W.heap.size≤V.heap.size∧∀(b:Nat) (C:Array Value) (T:TypeId) (fr:Nat×Nat),b<N→W.heap[b]? =some (.cells C T fr)→V.heap[b]? =some (.cells C T fr)
theorem KpO.trans {N:Nat} {A B C:World} (h:KpO N A B) (k:KpO N B C):KpO N A C:=⟨Nat.le_trans h.1 k.1,fun b D T fr hb h1=>k.2 b D T fr hb (h.2 b D T fr hb h1)⟩
theorem KpO.same0 {N:Nat} {W V:World} (h:Same0 W V):KpO N W V:=⟨h.size,fun b C T fr _ hb=>h.cells b C T fr hb⟩
theorem KpO.old {w0 W V:World} (h:Same0 w0 W) (k:KpO w0.heap.size W V):Same0 w0 V:=
 ⟨Nat.le_trans h.size k.1,fun b C T fr hb=>k.2 b C T fr (Array.getElem?_eq_some_iff.1 hb).1 (h.cells _ _ _ _ hb)⟩
def WkP (n:Nat) (lp:Nat) (v:Value) (w0:World) (J:Nat→World→Prop) (p:Int) (k m:Nat) (W:World):Prop:=
 CallsIn Fence.wide n Tryz.prog 112 #[v,.int .i64 p,.func (.yield lp) #[] #[]] W fun e W'=>e=.returned (.bool true)∧J (k+m) W'∧Same0 w0 W'
theorem zpD (n:Nat) (hn:2≤n) (lp:Nat) (S:List Sc) (v:Value) (w0:World) (J:Nat→World→Prop) (ord:List Nat)
 (hF:Fst (parS S) S.length) (hl:S.length≤1000) (hs:SlR w0 v S.length (scs S))
 (hY:∀k W1,J k W1→k<ord.length→YieldAt Fence.wide (n-1) Tryz.prog lp (ordE ord k) W1 fun e W'=>e=.returned (.bool true)∧J (k+1) W'∧KpO w0.heap.size W1 W')
 (f:Nat) (p:Int) (A B:List Nat) (W:World) (hp: -1≤p) (hp2:p≤1000) (ho:ord=A++pre (parS S) S.length (f+1) p++B) (h0:J A.length W) (h00:Same0 w0 W)
 (ih:∀(i:Nat) (A' B':List Nat) (W':World),p<(i:Int)→i<S.length→ord=A'++pre (parS S) S.length f i++B'→J A'.length W'→Same0 w0 W'→WkP n lp v w0 J i A'.length (pre (parS S) S.length f i).length W'):
 WkP n lp v w0 J p A.length (pre (parS S) S.length (f+1) p).length W:=by
 have hro:Fence.wide.round=none:=rfl;obtain⟨a,cap,rfl,hcp,hm⟩:=hs.shape;unfold WkP;obtain⟨i0,hi0⟩:∃i0:Nat,(i0:Int)=max p 0:=⟨(max p 0).toNat,by omega⟩;have HST:=lhd (zj9 (n:=S.length) (f:=f) (p:=p) hF i0 (by omega));have HS:=lhd hs;have HF:=lhd hF;have HY:=lhd hY;have HO:=lhd ho;have HI:=lhd ih;have H00:=lhd h00;generalize hpl:pre (parS S) S.length (f+1) p=PL at*;clear hs hF hY ho ih hm hcp h00;refine callsIn_of_wp Tryz.func112 rfl trivial ?_ hro;simp only[Tryz.ntmps112,List.size_toArray,List.length_cons,List.length_nil,Nat.reduceAdd,Nat.reduceSub,Array.replicate_succ,Array.replicate_zero,List.push_toArray,List.append_toArray,List.nil_append,List.cons_append];have HI0:=lhd hi0;have HPL:=lhd hpl;clear hpl;have HB0:=lhd (show p≤(i0:Int)∧i0≤1000 by omega);clear hi0;gi_wp2
 gi_loopw [7] (fun i wr=>∃(j:Nat) (A':List Nat),i=.int .i64 j∧p≤(j:Int)∧j≤1000∧A'++zj7 (parS S) S.length f p j=A++PL∧J A'.length wr∧Same0 w0 wr) (fun i _=>S.length-(intOf i).toNat)
 case atStart=>exact⟨i0,A,by rw[HI0.out],HB0.out.1,HB0.out.2,by rw[HST.out],h0,H00.out⟩
 case round=>
  obtain⟨j,A',rfl,hpj,hj,hA,hjk,hsa⟩:=hrel;have HA:=lhd hA;have HJK:=lhd hjk;have HSA:=lhd hsa;clear hA hjk hsa h0;by_cases hlt:j<S.length
  ·obtain⟨b,o,rfl,hcell⟩:=(HS.out.same0 HSA.out).scs hlt;have hps:parS S j=S[j].2.2:=by simp[parS,List.getD,hlt]
   have HPF:=lhd (zka (par:=parS S) (f:=f) (p:=p) hlt);have HFJ:=lhd (HF.out j hlt);rw[hps]at HPF HFJ;generalize S[j]=x at hcell HPF HFJ;obtain⟨nm,ty,pa⟩:=x;have d2:wr.cell? ⟨b,o+j*3+2,none⟩=some (.int .i64 pa):=hcell 2 _ rfl;clear hcell hps;dsimp only at HPF HFJ;have h1n:1≤n:=by omega
   by_cases hpa:pa=p
   ·subst hpa;rw[if_pos rfl]at HPF
    have HA2:=lhd (show ord=A'++j::(pre (parS S) S.length f j++(zj7 (parS S) S.length f pa (j+1)++B))by
     rw[HO.out,←HA.out,HPF.out];simp)
    have HEN:=lhd (show ordE ord A'.length=#[.int .i64 (j:Int)]by
     unfold ordE;rw[HA2.out,List.getD,List.getElem?_append_right (Nat.le_refl _),Nat.sub_self];rfl)
    obtain⟨fn,tmps,assign,body,hy,hR⟩:=HY.out A'.length wr HJK.out (by rw[HA2.out];simp);have HR:=lhd hR;rw[HEN.out]at hy;have HIH:=lhd (fun W' h1 h2=>HI.out j (A'++ [j]) (zj7 (parS S) S.length f pa (j+1)++B) W' (by have:=HFJ.out.2;omega) hlt (by rw[HA2.out];simp) h1 h2)
    have HNX:=lhd (show(A'++j::pre (parS S) S.length f j)++zj7 (parS S) S.length f pa (j+1)=A++PL by
     rw[←HA.out,HPF.out];simp)
    clear hR;gi_wp2
    refine HR.out.mono ?_;rintro e W3 ⟨rfl,hj3,hk3⟩;have HJ3:=lhd hj3;have HS3:=lhd (KpO.old HSA.out hk3);clear hj3 hk3 hy d2;gi_wp2
    refine⟨trivial,?_⟩;have HW:=lhd (HIH.out W3 (by rw[List.length_append];exact HJ3.out) HS3.out);unfold WkP at HW;refine(callsIn_wide.2 (callsIn_wide.1 HW.out)).mono ?_;rintro e W4 ⟨rfl,hj4,hs4⟩
    have HJ4:=lhd (show J (A'++j::pre (parS S) S.length f j).length W4 by
     rw[List.length_append,List.length_singleton]at hj4;rw[List.length_append,List.length_cons,show A'.length+((pre (parS S) S.length f j).length+1)=A'.length+1+(pre (parS S) S.length f j).length by omega];exact hj4)
    have HS4:=lhd hs4;clear hj4 hs4;gi_wp2
    go_roundw;case rel=>exact⟨j+1,_,by go_num,by omega,by omega,HNX.out,HJ4.out,HS4.out⟩
    case measure=>simp[intOf];omega
   ·have hne:(pa==p)=false:=by simpa using hpa
    rw[if_neg hpa,List.nil_append]at HPF;have HNX:=lhd (show A'++zj7 (parS S) S.length f p (j+1)=A++PL by rw[←HPF.out];exact HA.out);clear hpa;gi_wp2
    refine⟨fun _ _=>trivial,?_⟩;gi_wp2
    all_goals (try exact(zob (by assumption)).elim)
    refine⟨trivial,?_⟩;gi_wp2
    go_roundw;case rel=>exact⟨j+1,A',by go_num,by omega,by omega,HNX.out,HJK.out,HSA.out⟩
    case measure=>simp[intOf];omega
  ·have HE:=lhd (show A'.length=A.length+PL.length by
    have:=HA.out;rw[zj8 (by omega),List.append_nil]at this;rw[this,List.length_append])
   gi_wp2
   go_ret;exact⟨rfl,HE.out▸HJK.out,HSA.out⟩
attribute [local go_sem] Oper.semAt_some
theorem zpC (n:Nat) (hn:2≤n) (lp:Nat) (S:List Sc) (v:Value) (w0:World) (J:Nat→World→Prop) (ord:List Nat)
 (hF:Fst (parS S) S.length) (hl:S.length≤1000) (hs:SlR w0 v S.length (scs S))
 (hY:∀k W1,J k W1→k<ord.length→YieldAt Fence.wide (n-1) Tryz.prog lp (ordE ord k) W1 fun e W'=>e=.returned (.bool true)∧J (k+1) W'∧KpO w0.heap.size W1 W'):
 ∀(f:Nat) (p:Int) (A B:List Nat) (W:World),-1≤p→p≤1000→(S.length:Int)≤(f:Int)+p+1→ord=A++pre (parS S) S.length (f+1) p++B→J A.length W→Same0 w0 W→
  WkP n lp v w0 J p A.length (pre (parS S) S.length (f+1) p).length W
 |0,p,A,B,W,h1,h2,h3,ho,h0,h00=>zpD n hn lp S v w0 J ord hF hl hs hY 0 p A B W h1 h2 ho h0 h00 (fun i _ _ _ hi hi2 _ _ _=>by omega)
 |f+1,p,A,B,W,h1,h2,h3,ho,h0,h00=>zpD n hn lp S v w0 J ord hF hl hs hY (f+1) p A B W h1 h2 ho h0 h00 (fun i A' B' W' hi hi2 ho' hj hs'=>
   zpC n hn lp S v w0 J ord hF hl hs hY f (i:Int) A' B' W' (by omega) (by omega) (by omega) ho' hj hs')
theorem zj6 (n:Nat) (hn:2≤n) (lp bs bp:Nat) (S:List Sc) (v:Value) (w0 W:World) (J:Nat→World→Prop)
 (hF:Fst (parS S) S.length) (hl:S.length≤999) (hs:SlR w0 v S.length (scs S)) (h0w:Same0 w0 W)
 (hY:∀k W1,J k W1→k<(preS S).length→YieldAt Fence.wide (n-1) Tryz.prog lp (ordE (preS S) k) W1 fun e W'=>e=.returned (.bool true)∧J (k+1) W'∧KpO w0.heap.size W1 W')
 (hcs:W.heap[bs]? =some (.cells #[v] 22 (0,0))) (hcp:W.heap[bp]? =some (.cells #[.int .i64 (-1)] 3 (0,0))) (h0:J 0 W):
 CallsIn Fence.wide n Tryz.prog 111 #[.func (.yield lp) #[] #[],.pointer (some ⟨bs,0,none⟩),.pointer (some ⟨bp,0,none⟩)] W fun e W'=>(∃v,e=.returned v)∧J (preS S).length W':=by
 have hro:Fence.wide.round=none:=rfl;obtain⟨a,cap,rfl,-,-⟩:=hs.shape;have HW:=lhd (zpC n hn lp S _ w0 J (preS S) hF (by omega) hs hY S.length (-1) [] [] W (by omega) (by omega) (by omega) (by simp[preS]) h0 h0w);obtain⟨cs,-⟩:=ziF hcs;obtain⟨cp,-⟩:=ziF hcp;unfold WkP at HW;clear hs hY h0 h0w hcs hcp hF;refine callsIn_of_wp Tryz.func111 rfl trivial ?_ hro;simp only[Tryz.ntmps111,List.size_toArray,List.length_cons,List.length_nil,Nat.reduceAdd,Nat.reduceSub,Array.replicate_succ,Array.replicate_zero,List.push_toArray,List.append_toArray,List.nil_append,List.cons_append];have h1n:1≤n:=by omega
 gi_wp2
 refine⟨trivial,?_⟩;refine(callsIn_wide.2 (callsIn_wide.1 HW.out)).mono ?_;rintro e W4 ⟨rfl,hj4,-⟩
 have HJ:=lhd (show J (preS S).length W4 by
  have:J (0+(preS S).length) W4:=hj4;rwa [Nat.zero_add]at this)
 clear hj4;gi_wp2
 go_end0
 exact⟨⟨_,rfl⟩,HJ.out⟩
theorem zeY (a:Option Addr) (m cap:Nat) (i:Int) (w:World):
 Calls Tryz.prog 54 #[.slice a m cap,.int .i64 i] w fun e w'=>e=.returned (.func (.func 111) #[] #[.pointer (some ⟨w.heap.size,0,none⟩),.pointer (some ⟨w.heap.size+1,0,none⟩)])∧w'=(w.alloc (.cells #[.slice a m cap] 22)).alloc (.cells #[.int .i64 i] 3):=by
 go_enter Tryz.func54,Tryz.ntmps54;go_wp2_with fail;go_ret;exact⟨rfl,rfl⟩
open Go.RowKit Go.WideMaps
theorem zeM (s:Bs) (w:World) (hm:s.length≤100000):Calls Tryz.prog 97 #[.string (bsB s)] w fun e w'=>e=.returned (.bool (!zhz s))∧Below w.heap.size w w':=by
 have HP:=lhd (zhU (bsB s) w (by rw[zbk];omega));rw[zbh]at HP;generalize zhz s=r at HP⊢;go_enter Tryz.func97,Tryz.ntmps97;go_wp2_with fail;refine HP.out.mono ?_;rintro e w1 ⟨rfl,hb⟩;go_wp2_with fail;go_ret;exact⟨rfl,hb⟩
def outB (n m:Int):Bool:=decide (n<0)||decide (m<n)
theorem zeN (n m:Int) (w:World):Calls Tryz.prog 99 #[.int .i64 n,.int .i64 m] w fun e w'=>e=.returned (.bool (outB n m))∧Below w.heap.size w w':=by
 have HR:=lhd (show(decide (n<0)||decide (m<n))=outB n m from rfl);by_cases h1:n<0
 ·have b1:decide (n<0)=true:=by simpa using h1
  rw[b1]at HR;clear h1;go_enter Tryz.func99,Tryz.ntmps99;go_wp2_with fail;go_ret;exact⟨zle HR.out,Below.refl _ _⟩
 ·have b1:decide (n<0)=false:=by simpa using h1
  by_cases h2:m<n
  ·have b2:decide (m<n)=true:=by simpa using h2
   rw[b1,b2]at HR;clear h1 h2;go_enter Tryz.func99,Tryz.ntmps99;go_wp2_with fail;go_ret;exact⟨zle HR.out,Below.refl _ _⟩
  ·have b2:decide (m<n)=false:=by simpa using h2
   rw[b1,b2]at HR;clear h1 h2;go_enter Tryz.func99,Tryz.ntmps99;go_wp2_with fail;go_ret;exact⟨zle HR.out,Below.refl _ _⟩
def zaf (w:World) (pt:Nat) (f:Nat):Prop:=w.cell? ⟨pt,0,none⟩=some (.func (.func f) #[] #[])
theorem zeO (pt:Nat) (x:Sc) (w:World) (hc:zaf w pt 97) (hm:(x.1).length≤100000):
 Calls Tryz.prog 102 #[scV x,.pointer (some ⟨pt,0,none⟩)] w fun e w'=>e=.returned (.bool (!zhz x.1))∧Below w.heap.size w w':=by
 have hlt:=zbA hc;have hne:pt≠w.heap.size:=Nat.ne_of_lt hlt;unfold zaf at hc;obtain⟨nm,ty,pa⟩:=x;have HP:=lhd (fun W=>zeM nm W hm);generalize zhz nm=r at HP⊢;go_enter Tryz.func102,Tryz.ntmps102;go_wp2_with fail;refine(HP.out _).mono ?_;rintro e w1 ⟨rfl,hb⟩;have HB:=lhd (zd3 hb);clear hb;go_wp2_with fail;go_ret;exact⟨rfl,HB.out⟩
theorem zeQ (pt:Nat) (x:Vr) (w:World) (hc:zaf w pt 97) (hm:(x.nm).length≤100000):
 Calls Tryz.prog 104 #[vrV x,.pointer (some ⟨pt,0,none⟩)] w fun e w'=>e=.returned (.bool (!zhz x.nm))∧Below w.heap.size w w':=by
 have hlt:=zbA hc;have hne:pt≠w.heap.size:=Nat.ne_of_lt hlt;unfold zaf at hc;obtain⟨nm,ty,sc,sg,rg,mb,lb⟩:=x;have HP:=lhd (fun W=>zeM nm W hm);generalize zhz nm=r at HP⊢;go_enter Tryz.func104,Tryz.ntmps104;go_wp2_with fail;refine(HP.out _).mono ?_;rintro e w1 ⟨rfl,hb⟩;have HB:=lhd (zd3 hb);clear hb;go_wp2_with fail;go_ret;exact⟨rfl,HB.out⟩
theorem zeP (pt:Nat) (x:Sc) (w:World) (hc:zaf w pt 99):
 Calls Tryz.prog 105 #[scV x,.pointer (some ⟨pt,0,none⟩)] w fun e w'=>e=.returned (.bool (outB x.2.1 4))∧Below w.heap.size w w':=by
 have hlt:=zbA hc;have hne:pt≠w.heap.size:=Nat.ne_of_lt hlt;unfold zaf at hc;obtain⟨nm,ty,pa⟩:=x;have HP:=lhd (fun W=>zeN ty 4 W);dsimp only at HP⊢;generalize outB ty 4=r at HP⊢;go_enter Tryz.func105,Tryz.ntmps105;go_wp2_with fail;refine(HP.out _).mono ?_;rintro e w1 ⟨rfl,hb⟩;have HB:=lhd (zd3 hb);clear hb;go_wp2_with fail;go_ret;exact⟨rfl,HB.out⟩
theorem zeS (pt:Nat) (x:Vr) (w:World) (hc:zaf w pt 99):
 Calls Tryz.prog 106 #[vrV x,.pointer (some ⟨pt,0,none⟩)] w fun e w'=>e=.returned (.bool (outB x.ty 18))∧Below w.heap.size w w':=by
 have hlt:=zbA hc;have hne:pt≠w.heap.size:=Nat.ne_of_lt hlt;unfold zaf at hc;obtain⟨nm,ty,sc,sg,rg,mb,lb⟩:=x;have HP:=lhd (fun W=>zeN ty 18 W);dsimp only at HP⊢;generalize outB ty 18=r at HP⊢;go_enter Tryz.func106,Tryz.ntmps106;go_wp2_with fail;refine(HP.out _).mono ?_;rintro e w1 ⟨rfl,hb⟩;have HB:=lhd (zd3 hb);clear hb;go_wp2_with fail;go_ret;exact⟨rfl,HB.out⟩
theorem zeR (x:Vr) (w:World):Calls Tryz.prog 100 #[vrV x] w fun e w'=>e=.returned (.bool (zkJ x))∧Below w.heap.size w w':=by
 obtain⟨nm,ty,sc,sg,rg,mb,lb⟩:=x;have HP:=lhd (fun W=>zhV mb lb W);obtain⟨R,hR⟩:∃R,R=zkJ ⟨nm,ty,sc,sg,rg,mb,lb⟩:=⟨_,rfl⟩;rw[←hR];unfold zkJ at hR;dsimp only at hR;have hal:Below w.heap.size w (w.alloc (.cells #[.string (bsB nm),.int .i64 ty,.int .i64 sc,.int .i64 sg,.bool rg,.int .i64 mb,.int .i64 lb] 48)):=(Below.refl _ _).alloc (Nat.le_refl _) _;cases rg
 ·rw[if_neg (by decide)]at hR;by_cases h1:mb=0
  ·by_cases h2:lb=0
   ·have HR:=lhd (show R=false by rw[hR];simp[h1,h2]);have b1:(mb==0)=true:=by simp[h1]
    have b2:(lb==0)=true:=by simp[h2]
    subst h1 h2;clear hR HP;go_enter Tryz.func100,Tryz.ntmps100;go_wp2_with fail;go_ret;exact⟨zle HR.out.symm,hal⟩
   ·have HR:=lhd (show R=true by rw[hR];simp[h2]);have b2:(lb==0)=false:=by simpa using h2
    have b3:(lb !=0)=true:=by simpa using h2
    subst h1;clear hR HP h2;go_enter Tryz.func100,Tryz.ntmps100;go_wp2_with fail;go_ret;exact⟨zle HR.out.symm,hal⟩
  ·have HR:=lhd (show R=true by rw[hR];simp[h1]);have b2:(mb==0)=false:=by simpa using h1
   have b3:(mb !=0)=true:=by simpa using h1
   clear hR HP h1;go_enter Tryz.func100,Tryz.ntmps100;go_wp2_with fail;go_ret;exact⟨zle HR.out.symm,hal⟩
 ·rw[if_pos rfl]at hR;have HR:=lhd (show R=(zpX mb lb==0)by rw[hR];rfl);generalize zpX mb lb=q at HP HR;clear hR;go_enter Tryz.func100,Tryz.ntmps100;go_wp2_with fail;refine(HP.out _).mono ?_;rintro e w1 ⟨rfl,rfl⟩;go_wp2_with fail;go_ret;exact⟨zle HR.out.symm,hal⟩
theorem zaf.below {w W:World} {pt f:Nat} (h:zaf w pt f) (hb:Below w.heap.size w W):zaf W pt f:=(hb.cell (p:=⟨pt,0,none⟩) (zbA h)).trans h
def zg3 (S:List Sc) (i:Nat):Bool:=decide (8<(upL S (i+1) i).length)
def chk2 (p1 p2 q1 q2 r1 u1 u2:Bool):Int:=if(p1||p2)=true then 4 else if(q1||q2)=true then 7 else if r1=true then 2 else if(!u1||!u2)=true then 5 else 0
theorem zbG (S:List Sc) (V:List Vr) (h1:¬32<S.length) (h2:¬128<V.length) (hd:zcV S V=true):zbF S V=if(List.range S.length).any (zg3 S)=true then 9 else
 chk2 (S.any fun s=>!zhz s.1) (V.any fun v=>!zhz v.nm) (S.any fun s=>outB s.2.1 4) (V.any fun v=>outB v.ty 18) (V.any zkJ) (uniq zlM S) (uniq zpk V):=by
 unfold zbF;rw[if_neg (by omega),if_neg (by rw[hd];decide)];rfl
theorem zpW {n:Int} (h1: -1000000≤n) (h2:n≤1000000):(Lit.int .i64 n).wf=true:=by
 have e1:IntKind.i64.min= -9223372036854775808:=by decide
 have e2:IntKind.i64.max=9223372036854775807:=by decide
 unfold Lit.wf;rw[Bool.and_eq_true,decide_eq_true_iff,decide_eq_true_iff,e1,e2];omega
theorem zeT (v v2:Value) (S:List Sc) (V:List Vr) (w:World) (hs:SlR w v S.length (scs S)) (hv:SlR w v2 V.length (vrs V)) (hl:S.length≤1000∧V.length≤1000) (hn:(∀s∈S,s.1.length≤100000)∧∀x∈V,x.nm.length≤100000):
 Calls Tryz.prog 53 #[v,v2] w fun e w'=>e=.returned (.int .i64 (zbF S V))∧Below w.heap.size w w':=by
 obtain⟨a,cap,rfl,-,-⟩:=hs.shape;obtain⟨a2,cap2,rfl,-,-⟩:=hv.shape;obtain⟨R,hR⟩:∃R,R=zbF S V:=⟨_,rfl⟩;rw[←hR];by_cases h32:32<S.length
 ·have HR:=lhd (show 9=R by rw[hR];unfold zbF;rw[if_pos (.inl h32)]);have b1:decide ((32:Int)<(S.length:Int))=true:=by rw[decide_eq_true_iff];omega
  clear hR h32 hs hv hn;go_enter Tryz.func53,Tryz.ntmps53;go_wp2_with fail;go_ret;exact⟨zlf HR.out,Below.refl _ _⟩
 have b1:decide ((32:Int)<(S.length:Int))=false:=by rw[decide_eq_false_iff_not];omega
 by_cases h128:128<V.length
 ·have HR:=lhd (show 9=R by rw[hR];unfold zbF;rw[if_pos (.inr h128)]);have b2:decide ((128:Int)<(V.length:Int))=true:=by rw[decide_eq_true_iff];omega
  clear hR h32 hs hv hn h128;go_enter Tryz.func53,Tryz.ntmps53;go_wp2_with fail;go_ret;exact⟨zlf HR.out,Below.refl _ _⟩
 have b2:decide ((128:Int)<(V.length:Int))=false:=by rw[decide_eq_false_iff_not];omega
 have HD:=lhd (zeU _ _ S V w hs hv (by omega));cases hd:zcV S V
 ·have HR:=lhd (show 1=R by rw[hR];unfold zbF;rw[if_neg (by omega),if_pos hd]);rw[hd]at HD;clear hR h32 hs hv hn h128 hd;go_enter Tryz.func53,Tryz.ntmps53;go_wp2_with fail;refine HD.out.mono ?_;rintro e w1 ⟨rfl,hb⟩;go_wp2_with fail;go_ret;exact⟨zlf HR.out,hb⟩
 rw[hd]at HD;have HQ:=lhd (hR.trans (zbG S V h32 h128 hd));have HF:=lhd (zc0 hd);have HV2:=lhd (zc6 hd);have HS:=lhd hs;have HV:=lhd hv;have HN:=lhd hn;have HL:=lhd (show S.length≤32∧V.length≤128 by omega);clear hR hs hv hn h32 h128 hd hl;go_enter Tryz.func53,Tryz.ntmps53;go_wp2_with fail;refine HD.out.mono ?_;rintro e w1 ⟨rfl,hb⟩;have HB:=lhd hb;clear hb HD;go_wp2_with fail;go_loopw [23] (fun i wr=>∃k:Nat,k≤S.length∧i=.int .i64 k∧(∀j,j<k→zg3 S j=false)∧Below w.heap.size w wr) (fun i _=>S.length-(intOf i).toNat)
 case atStart=>exact⟨0,Nat.zero_le _,rfl,fun j hj=>absurd hj (Nat.not_lt_zero _),HB.out⟩
 case round=>
  obtain⟨k,hk,rfl,hsh,hbw⟩:=hrel;have HSH:=lhd hsh;have HBW:=lhd hbw;have hl:=HL.out;clear hsh hbw;by_cases hlt:k<S.length
  ·have HP:=lhd (zeX _ S k wr (HS.out.below HBW.out) HF.out hlt (by omega));cases hlo:zg3 S k
   ·have HLO:=lhd (of_decide_eq_false hlo)
    have HSH2:=lhd (show ∀j,j<k+1→zg3 S j=false by
     intro j hj;by_cases h:j<k
     ·exact HSH.out j h
     ·rw[show j=k by omega];exact hlo)
    clear hlo;go_wp2_with fail;refine HP.out.mono ?_;rintro e w2 ⟨v',rfl,ho,hb2⟩;obtain⟨pa,pc,rfl,-,-⟩:=(SlR.of_own ho).shape;have hb3:decide ((8:Int)<((upL S (k+1) k).length:Int))=false:=by rw[decide_eq_false_iff_not];have:=HLO.out;omega
    have HB2:=lhd (HBW.out.trans (hb2.mono HBW.out.size));generalize (upL S (k+1) k).length=pn at*;clear ho hb2;go_wp2_with fail;go_roundw;case rel=>exact⟨k+1,by omega,by go_num,HSH2.out,HB2.out⟩
    case measure=>simp[intOf];omega
   ·have HLO:=lhd (of_decide_eq_true hlo)
    have HR:=lhd (show 9=R by
     rw[HQ.out,if_pos];rw[List.any_eq_true];exact⟨k,List.mem_range.2 hlt,hlo⟩)
    clear hlo;go_wp2_with fail;refine HP.out.mono ?_;rintro e w2 ⟨v',rfl,ho,hb2⟩;obtain⟨pa,pc,rfl,-,-⟩:=(SlR.of_own ho).shape;have hb3:decide ((8:Int)<((upL S (k+1) k).length:Int))=true:=by rw[decide_eq_true_iff];have:=HLO.out;omega
    have HB2:=lhd (HBW.out.trans (hb2.mono HBW.out.size));generalize (upL S (k+1) k).length=pn at*;clear ho hb2;go_wp2_with fail;go_ret;exact⟨zlf HR.out,HB2.out⟩
  ·obtain rfl:k=S.length:=by omega
   have HQ2:=lhd (show R=chk2 (S.any fun s=>!zhz s.1) (V.any fun v=>!zhz v.nm) (S.any fun s=>outB s.2.1 4) (V.any fun v=>outB v.ty 18) (V.any zkJ) (uniq zlM S) (uniq zpk V)by
    have h7:(List.range S.length).any (zg3 S)=false:=zaK.2 fun j hj=>HSH.out j (List.mem_range.1 hj);rw[HQ.out,h7];rfl)
   clear hlt HQ;have HB2:=lhd ((HBW.out.alloc HBW.out.size (.cells #[(.func (.func 97) #[] #[])] 60)).alloc (by have:=HBW.out.size;simp;omega) (.cells #[(.func (.func 99) #[] #[])] 122));have hx1:=(zaq.fresh wr #[(.func (.func 97) #[] #[])] 60).cell (j:=0) rfl;have hx2:=(zaq.fresh (wr.alloc (.cells #[(.func (.func 97) #[] #[])] 60)) #[(.func (.func 99) #[] #[])] 122).cell (j:=0) rfl;have hx3:=zbz hx1 (.cells #[(.func (.func 99) #[] #[])] 122);rw[World.size_alloc]at hx2;have HF1:=lhd (show zaf ((wr.alloc (.cells #[(.func (.func 97) #[] #[])] 60)).alloc (.cells #[(.func (.func 99) #[] #[])] 122)) wr.heap.size 97 from hx3);have HF2:=lhd (show zaf ((wr.alloc (.cells #[(.func (.func 97) #[] #[])] 60)).alloc (.cells #[(.func (.func 99) #[] #[])] 122)) (wr.heap.size+1) 99 from hx2);clear hx1 hx2 hx3;generalize hw2:(wr.alloc (.cells #[(.func (.func 97) #[] #[])] 60)).alloc (.cells #[(.func (.func 99) #[] #[])] 122)=w2 at*;have HSL:=lhd (fun(W:World) (hW:Below w2.heap.size w2 W)=>HS.out.below (HB2.out.trans (hW.mono HB2.out.size)));have HVL:=lhd (fun(W:World) (hW:Below w2.heap.size w2 W)=>HV.out.below (HB2.out.trans (hW.mono HB2.out.size)));have HC1:=lhd (fun(W:World) (hW:Below w2.heap.size w2 W)=>zcf wr.heap.size (fun s=>!zhz s.1) _ S W (HSL.out W hW) (fun x hx U hU=>zeO _ x U ((HF1.out.below hW).below hU) (HN.out.1 x hx)));have HC2:=lhd (fun(W:World) (hW:Below w2.heap.size w2 W)=>zch wr.heap.size (fun x=>!zhz x.nm) _ V W (HVL.out W hW) (fun x hx U hU=>zeQ _ x U ((HF1.out.below hW).below hU) (HN.out.2 x hx)));have HC3:=lhd (fun(W:World) (hW:Below w2.heap.size w2 W)=>zcg (wr.heap.size+1) (fun s=>outB s.2.1 4) _ S W (HSL.out W hW) (fun x hx U hU=>zeP _ x U ((HF2.out.below hW).below hU)));have HC4:=lhd (fun(W:World) (hW:Below w2.heap.size w2 W)=>zcj (wr.heap.size+1) (fun x=>outB x.ty 18) _ V W (HVL.out W hW) (fun x hx U hU=>zeS _ x U ((HF2.out.below hW).below hU)));have HC5:=lhd (fun(W:World) (hW:Below w2.heap.size w2 W)=>zci 0 zkJ _ V W (HVL.out W hW) (fun x hx U hU=>zeR x U))
   have HC6:=lhd (fun(W:World) (hW:Below w2.heap.size w2 W)=>ze1 _ S W (HSL.out W hW) (by omega) (fun x hx=>⟨by
    obtain⟨j,hj,rfl⟩:=List.mem_iff_getElem.1 hx;have:=HF.out j hj;have e:parS S j=S[j].2.2:=by simp[parS,List.getD,hj]
    rw[e]at this;exact zpW (by omega) (by omega),by have:=HN.out.1 x hx;unfold maxLen;omega⟩))
   have HC7:=lhd (fun(W:World) (hW:Below w2.heap.size w2 W) (hr:V.any zkJ=false)=>ze2 _ V W (HVL.out W hW) (by omega) (fun x hx=>by
    have h1:=HV2.out x hx;have h2:=HN.out.2 x hx;have h3:=zaK.1 hr x hx
    have h4:(-32768≤x.mb∧x.mb≤32768)∧(-32768≤x.lb∧x.lb≤32768):=by
     unfold zkJ at h3;split at h3
     ·have h3:=of_decide_eq_false h3;unfold zpX at h3;split at h3
      ·rename_i hb
       unfold zba at hb;simp only[Bool.and_eq_true,decide_eq_true_iff]at hb;exact hb
      ·exact absurd rfl h3
     ·rw[Bool.or_eq_false_iff]at h3;have h5:=of_decide_eq_false h3.1;have h6:=of_decide_eq_false h3.2;omega
    exact⟨⟨zpW (by omega) (by omega),by unfold maxLen;omega⟩,zpW (by omega) (by omega),zpW (by omega) (by omega)⟩))
   generalize (S.any fun s=>!zhz s.1)=p1 at*;generalize (V.any fun v=>!zhz v.nm)=p2 at*;generalize (S.any fun s=>outB s.2.1 4)=q1 at*;generalize (V.any fun v=>outB v.ty 18)=q2 at*;generalize V.any zkJ=r1 at*;generalize uniq zlM S=u1 at*;generalize uniq zpk V=u2 at*;have HB0:=lhd (Below.refl w2.heap.size w2);have HQ3:=HQ2;have HW2:=lhd hw2;clear HSL HVL HS HV HN HF HV2 HSH HQ2 HF1 HF2 hw2 HL hl;go_wp2_with fail;rw[HW2.out];refine(HC1.out _ HB0.out).mono ?_;rintro e w8 ⟨rfl,hb8⟩;have HB3:=lhd (zd5 HB0.out hb8);clear hb8 HC1;cases p1
   rotate_left
   ·go_wp2_with fail;go_ret;exact⟨zlf (by rw[HQ3.out];rfl),HB2.out.trans (HB3.out.mono HB2.out.size)⟩
   go_wp2_with fail;refine(HC2.out _ HB3.out).mono ?_;rintro e w8 ⟨rfl,hb8⟩;have HB4:=lhd (zd5 HB3.out hb8);clear hb8 HC2;cases p2
   rotate_left
   ·go_wp2_with fail;go_ret;exact⟨zlf (by rw[HQ3.out];rfl),HB2.out.trans (HB4.out.mono HB2.out.size)⟩
   go_wp2_with fail;refine(HC3.out _ HB4.out).mono ?_;rintro e w8 ⟨rfl,hb8⟩;have HB5:=lhd (zd5 HB4.out hb8);clear hb8 HC3;cases q1
   rotate_left
   ·go_wp2_with fail;go_ret;exact⟨zlf (by rw[HQ3.out];rfl),HB2.out.trans (HB5.out.mono HB2.out.size)⟩
   go_wp2_with fail;refine(HC4.out _ HB5.out).mono ?_;rintro e w8 ⟨rfl,hb8⟩;have HB6:=lhd (zd5 HB5.out hb8);clear hb8 HC4;cases q2
   rotate_left
   ·go_wp2_with fail;go_ret;exact⟨zlf (by rw[HQ3.out];rfl),HB2.out.trans (HB6.out.mono HB2.out.size)⟩
   go_wp2_with fail;refine(HC5.out _ HB6.out).mono ?_;rintro e w8 ⟨rfl,hb8⟩;have HB7:=lhd (zd5 HB6.out hb8);clear hb8 HC5;cases r1
   rotate_left
   ·go_wp2_with fail;go_ret;exact⟨zlf (by rw[HQ3.out];rfl),HB2.out.trans (HB7.out.mono HB2.out.size)⟩
   have HC8:=lhd (fun W hW=>HC7.out W hW rfl);clear HC7;go_wp2_with fail;refine(HC6.out _ HB7.out).mono ?_;rintro e w8 ⟨rfl,hb8⟩;have HB8:=lhd (zd5 HB7.out hb8);clear hb8 HC6;cases u1
   ·go_wp2_with fail;go_ret;exact⟨zlf (by rw[HQ3.out];rfl),HB2.out.trans (HB8.out.mono HB2.out.size)⟩
   go_wp2_with fail;refine(HC8.out _ HB8.out).mono ?_;rintro e w8 ⟨rfl,hb8⟩;have HB9:=lhd (zd5 HB8.out hb8);clear hb8 HC8;cases u2
   ·go_wp2_with fail;go_ret;exact⟨zlf (by rw[HQ3.out];rfl),HB2.out.trans (HB9.out.mono HB2.out.size)⟩
   go_wp2_with fail;go_ret;exact⟨zlf (by rw[HQ3.out];rfl),HB2.out.trans (HB9.out.mono HB2.out.size)⟩
end Go.Proofs.YtcdekelomkcahaaGreatDoor
