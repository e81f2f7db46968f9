import Derived.Test.YtfppgpamkdkckaaGreatDoorZ00
import Derived.Deep.Cut
import Derived.Test.YtfppgpamkdkckaaGreatDoorZ05
set_option maxRecDepth 100000
set_option maxHeartbeats 16000000
namespace Go.Proofs.YtfppgpamkdkckaaGreatDoor
open Go.RowKit
set_option linter.unusedSimpArgs false
def vk (v:Vr):Int:=v.sc
theorem SO.drw {base g n c:Nat} {w:World} {l:List Vr} (h:SO base g n c w l) (m:Nat):SO base g n c (w.drewN m) l:=h
theorem za6 {B:Nat} {a w:World} (h:RowKit.Below B a w) (m:Nat):RowKit.Below B a (w.drewN m):=⟨h.os,h.tape,h.output,h.size,h.block⟩
def zab (x y:Vr) (w:World) (e:Ending) (w':World):Prop:=∃z:Int,e=.returned (.int .i64 z)∧decide (z<0)=decide (vk x<vk y)∧Below w.heap.size w w'
theorem zcA (x y:Int):decide (Lib.compareInt x y<0)=decide (x<y):=by
 unfold Lib.compareInt;split
 ·rename_i h;rw[decide_eq_true h];rfl
 ·rename_i h
  rw[decide_eq_false h];split<;>rfl
theorem zpr (x y:Vr) (w:World):Calls Tryz.prog 208 #[vrV x,vrV y] w (zab x y w):=by
 have hb:Below w.heap.size w ((w.alloc (.cells #[.string (bsB x.nm),.int .i64 x.ty,.int .i64 x.sc,.int .i64 x.sg,.bool x.rg,.int .i64 x.mb,.int .i64 x.lb] 55)).alloc (.cells #[.string (bsB y.nm),.int .i64 y.ty,.int .i64 y.sc,.int .i64 y.sg,.bool y.rg,.int .i64 y.mb,.int .i64 y.lb] 55)):=((Below.refl _ _).alloc (Nat.le_refl _) _).alloc (by simp) _;have HB:=lhd hb;clear hb;go_enter Tryz.func208,Tryz.ntmps208;go_wp2_with fail;refine(Tryz.cmp_Compare_int _ _ _).mono ?_;rintro e w1 ⟨rfl,hw⟩;have hw':=hw.symm;subst hw';go_wp2_with fail;go_ret;exact⟨_,rfl,zcA _ _,HB.out⟩
theorem zg7 {Q A1 A2:List Vr} {x:Vr} (hQ:Srt vk Q) (h:Q=A1++A2) (h2:∀y∈A2,vk x<vk y) (h1:∀A y,A1=A++ [y]→¬vk x<vk y):mrg vk Q [x]=A1++x::A2:=by
 subst h;refine zjb hQ (fun y hy=>?_) h2;obtain⟨A,z,rfl⟩:∃A z,A1=A++ [z]:=⟨A1.dropLast,A1.getLast (fun e=>by rw[e]at hy;cases hy),(List.dropLast_concat_getLast _).symm⟩;have h3:=h1 A z rfl;have hp:=(List.pairwise_append.1 hQ).1;rcases List.mem_append.1 hy with hy|hy
 ·have:=(List.pairwise_append.1 hp).2.2 y hy z (by simp);omega
 ·rw[List.mem_singleton]at hy;subst hy;omega
theorem zhp (M:List Vr):zhk vk (M.take 1)=M.take 1:=by
 cases M with
 |nil=>rfl
 |cons x l=>rfl
theorem zpt (base g c a b:Nat) (l P M S:List Vr) (w:World) (hg:SO base g l.length c w l) (hl:l=P++(M++S)) (hp:P.length=a) (hM:a+M.length=b) (hn:l.length≤1000):
 Calls Tryz.prog 305 #[.slice (some ⟨g,0,none⟩) l.length c,.int .i64 a,.int .i64 b,(.func (.func 208) #[] #[])] w fun e w'=>
  e=.returned (.tuple #[])∧SO base g l.length c w' (P++(zhk vk M++S))∧Below base w w':=by
 have hlen:l.length=P.length+M.length+S.length:=by rw[hl];simp only[List.length_append];omega
 have H0:=lhd (show SO base g l.length c w (P++(zhk vk (M.take 1)++(M.drop 1++S)))by rw[zhp,←List.append_assoc (M.take 1),List.take_append_drop,←hl];exact hg);have hw0:IntKind.i64.wrap ((a:Int)+1)=(a:Int)+1:=IntWalk.i64_in _ (by omega);have HCAP:=lhd hg.cap;generalize hN:l.length=n at*;clear hg hl;go_enter Tryz.func305,Tryz.ntmps305;go_wp2_with fail;clear hw0;go_loopw [8] (fun vi wr=>∃q:Nat,vi=.int .i64 ((a:Int)+(q:Int))∧1≤q∧(q≤M.length∨q=1)∧SO base g n c wr (P++(zhk vk (M.take q)++(M.drop q++S)))∧Below base w wr) (fun vi _=>b-(intOf vi).toNat)
 case atStart=>exact⟨1,by simp,Nat.le_refl _,.inr rfl,H0.out,Below.refl _ _⟩
 case round=>
  obtain⟨q,rfl,hq1,hq2,hs,hbw⟩:=hrel;have HB:=lhd hbw;clear hbw;by_cases hlt:q<M.length
  ·have hd0:decide ((a:Int)+(q:Int)<(b:Int))=true:=by rw[decide_eq_true_iff];omega
   have hwq:IntKind.i64.wrap ((a:Int)+(q:Int)+1)=(a:Int)+(q:Int)+1:=IntWalk.i64_in _ (by omega);rw[List.drop_eq_getElem_cons hlt]at hs;have HX:=lhd (show zhk vk (M.take (q+1))=mrg vk (zhk vk (M.take q)) [M[q]]by rw[List.take_succ_eq_append_getElem hlt];exact zhr _ _);have HQS:=lhd (zhs (k:=vk) (M.take q));have hQl:(zhk vk (M.take q)).length=q:=by rw[zhn,List.length_take];omega
   generalize M[q]=x at hs HX;generalize zhk vk (M.take q)=Q at hs HX HQS hQl;have H1:=lhd hs;have hzl:=hs.len;simp only[List.length_append,List.length_cons]at hzl;clear hs;go_wp2_with fail;clear hd0;go_loopw [9] (fun vj wj=>∃(j:Nat) (A1 A2:List Vr),vj=.int .i64 (j:Int)∧a+A1.length=j∧Q=A1++A2∧(∀y∈A2,vk x<vk y)∧SO base g n c wj (P++(A1++x::(A2++(M.drop (q+1)++S))))∧Below base w wj) (fun vj _=>(intOf vj).toNat-a)
   case atStart=>exact⟨a+q,Q,[],by simp,by rw[hQl],by simp,by simp,by simpa using H1.out,HB.out⟩
   case round=>
    obtain⟨j,A1,A2,rfl,hj,hsp,hgt,hs,hbj⟩:=hrel;have HBJ:=lhd hbj;have HSP:=lhd hsp;have HGT:=lhd hgt;clear hbj hsp hgt;by_cases hA:A1=[]
    ·subst hA;have hja:j=a:=by simpa using hj.symm
     subst hja;have hdj:decide ((j:Int)<(j:Int))=false:=by simp
     have HF:=lhd (show SO base g n c wr (P++(zhk vk (M.take (q+1))++(M.drop (q+1)++S)))by
      rw[HX.out,zg7 HQS.out HSP.out HGT.out (fun A y e=>by simp at e)];simpa using hs)
     clear hs;go_wp2_with fail;go_quiet (fail);go_wp2_with fail;go_roundw;case rel=>exact⟨q+1,by simp;omega,by omega,.inl (by omega),SO.drw HF.out _,za6 HBJ.out _⟩
     case measure=>simp[intOf];omega
    ·obtain⟨A,y,rfl⟩:∃A y,A1=A++ [y]:=⟨A1.dropLast,A1.getLast hA,(List.dropLast_concat_getLast _).symm⟩;rw[List.length_append,List.length_singleton]at hj;obtain⟨k,rfl⟩:∃k,j=k+1:=⟨j-1,by omega⟩;clear hA;rw[show P++(A++ [y]++x::(A2++(M.drop (q+1)++S)))=(P++A)++y::([]++x::(A2++(M.drop (q+1)++S)))by simp]at hs;have hPA:(P++A).length=k:=by rw[List.length_append];omega
     have hkn:k+1<n:=by have:=hs.len;simp only[List.length_append,List.length_cons,List.length_nil]at this hPA;omega
     have hd1:decide ((a:Int)<(k:Int)+1)=true:=by rw[decide_eq_true_iff];omega
     have hz:=hs.at;rw[hPA]at hz;have hs':=hs;rw[show(P++A)++y::([]++x::(A2++(M.drop (q+1)++S)))=(P++(A++ [y]))++x::(A2++(M.drop (q+1)++S))by simp]at hs';have hz':=hs'.at;rw[show(P++(A++ [y])).length=k+1 by simp only[List.length_append,List.length_singleton]at hPA⊢;omega]at hz';obtain⟨y0,y1,y2,y3,y4,y5,y6⟩:=hz;obtain⟨x0,x1,x2,x3,x4,x5,x6⟩:=hz';have HS:=lhd hs;have HPA:=lhd hPA;have HLO:=lhd (show base≤wr.drew.heap.size from Nat.le_of_lt (Nat.lt_of_le_of_lt hs.lo.1 hs.lo.2));have h1:(0:Int)≤(k:Int)+1:=by omega
     have h2:(k:Int)+1<(n:Int):=by omega
     have h3:((k:Int)+1).toNat=k+1:=by omega
     have h4:(0:Int)≤(k:Int):=by omega
     have h5:(k:Int)<(n:Int):=by omega
     have hwk:IntKind.i64.wrap ((k:Int)+1-1)=(k:Int):=by rw[IntWalk.i64_in _ (by omega)];omega
     have hwk2:IntKind.i64.wrap (k:Int)=(k:Int):=IntWalk.i64_in _ (by omega);have HL:=lhd (show a+A.length=k∧a+M.length=b∧q<M.length∧k+1<n∧n≤1000 from⟨by omega,hM,hlt,hkn,hn⟩);clear hs hs' hPA hkn hp hM hlen hzl hQl hj hlt hN hq1 hq2;by_cases hc:vk x<vk y
     ·have HC:=lhd (show decide (vk x<vk y)=true from decide_eq_true hc)
      have HGT2:=lhd (show ∀z∈y::A2,vk x<vk z from fun z hz=>by
       rcases List.mem_cons.1 hz with rfl|hz
       ·exact hc
       ·exact HGT.out z hz)
      clear hc;go_wp2_with fail
      go_region_held3 (fun w'=>w'.cell? ⟨g,(k+1)*7,none⟩=some (.string (bsB x.nm))∧w'.cell? ⟨g,(k+1)*7+1,none⟩=some (.int .i64 x.ty)∧w'.cell? ⟨g,(k+1)*7+2,none⟩=some (.int .i64 x.sc)∧w'.cell? ⟨g,(k+1)*7+3,none⟩=some (.int .i64 x.sg)∧w'.cell? ⟨g,(k+1)*7+4,none⟩=some (.bool x.rg)∧w'.cell? ⟨g,(k+1)*7+5,none⟩=some (.int .i64 x.mb)∧w'.cell? ⟨g,(k+1)*7+6,none⟩=some (.int .i64 x.lb)∧w'.cell? ⟨g,k*7,none⟩=some (.string (bsB y.nm))∧w'.cell? ⟨g,k*7+1,none⟩=some (.int .i64 y.ty)∧w'.cell? ⟨g,k*7+2,none⟩=some (.int .i64 y.sc)∧w'.cell? ⟨g,k*7+3,none⟩=some (.int .i64 y.sg)∧w'.cell? ⟨g,k*7+4,none⟩=some (.bool y.rg)∧w'.cell? ⟨g,k*7+5,none⟩=some (.int .i64 y.mb)∧w'.cell? ⟨g,k*7+6,none⟩=some (.int .i64 y.lb))
       (first|exact⟨x0,x1,x2,x3,x4,x5,x6,y0,y1,y2,y3,y4,y5,y6⟩|exact⟨u0,u1,u2,u3,u4,u5,u6,v0,v1,v2,v3,v4,v5,v6⟩|go_keep)
       (first
         |(go_at_call 208;refine(zpr x y _).mono ?_;rintro e w2 ⟨z,rfl,hz,hb2⟩;rw[HC.out]at hz;have hs2:=SO.after HS.out.drew hb2;have HS2:=lhd hs2;have HB2:=lhd (HBJ.out.drew.trans (hb2.mono HLO.out));have hqa:=hs2.at;rw[HPA.out]at hqa;have hs3:=hs2;rw[show(P++A)++y::([]++x::(A2++(M.drop (q+1)++S)))=(P++(A++ [y]))++x::(A2++(M.drop (q+1)++S))by simp]at hs3;have hqb:=hs3.at;rw[show(P++(A++ [y])).length=k+1 by have:=HPA.out;simp only[List.length_append,List.length_singleton]at this⊢;omega]at hqb;obtain⟨v0,v1,v2,v3,v4,v5,v6⟩:=hqa;obtain⟨u0,u1,u2,u3,u4,u5,u6⟩:=hqb;clear hb2 hs2 hs3)
         |fail "no arm")
      have hsw:=HS2.out.swap2 (p:=k) (q:=k+1) HPA.out (by rw[HPA.out];rfl);have HSW:=lhd hsw;have hfz:=zlw HS2.out;have hab:¬k+1=k:=by omega
      have hba:¬k=k+1:=by omega
      clear hsw;go_upto_region 6 with fail;go_region
      clear u0 u1 u2 u3 u4 u5 u6 v0 v1 v2 v3 v4 v5 v6 x0 x1 x2 x3 x4 x5 x6 y0 y1 y2 y3 y4 y5 y6 hfz hab hba h1 h2 h3 h4 h5;go_wp2_with fail;go_roundw
      case rel=>
       refine⟨k,A,y::A2,rfl,HL.out.1,by rw[HSP.out];simp,HGT2.out,?_,(HB2.out.trans HSW.out.2).drew⟩;have h9:=HSW.out.1.drew;rw[show(P++A)++x::([]++y::(A2++(M.drop (q+1)++S)))=P++(A++x::((y::A2)++(M.drop (q+1)++S)))by simp]at h9;exact h9
      case measure=>
       have h9:=HL.out.1;simp[intOf];omega
     ·have HC:=lhd (show decide (vk x<vk y)=false from decide_eq_false hc)
      have HF:=lhd (show SO base g n c wr (P++(zhk vk (M.take (q+1))++(M.drop (q+1)++S)))by
       have h9:=HS.out
       rw[HX.out,zg7 HQS.out HSP.out HGT.out (fun A' z e=>by
        have e2:=List.append_inj_right' e rfl;injection e2 with e2 _;subst e2;exact hc)]
       rw[show P++(A++ [y]++x::A2++(M.drop (q+1)++S))=(P++A)++y::([]++x::(A2++(M.drop (q+1)++S)))by simp];exact h9)
      clear hc;go_wp2_with fail
      go_region_held3 (fun w'=>w'.cell? ⟨g,(k+1)*7,none⟩=some (.string (bsB x.nm))∧w'.cell? ⟨g,(k+1)*7+1,none⟩=some (.int .i64 x.ty)∧w'.cell? ⟨g,(k+1)*7+2,none⟩=some (.int .i64 x.sc)∧w'.cell? ⟨g,(k+1)*7+3,none⟩=some (.int .i64 x.sg)∧w'.cell? ⟨g,(k+1)*7+4,none⟩=some (.bool x.rg)∧w'.cell? ⟨g,(k+1)*7+5,none⟩=some (.int .i64 x.mb)∧w'.cell? ⟨g,(k+1)*7+6,none⟩=some (.int .i64 x.lb)∧w'.cell? ⟨g,k*7,none⟩=some (.string (bsB y.nm))∧w'.cell? ⟨g,k*7+1,none⟩=some (.int .i64 y.ty)∧w'.cell? ⟨g,k*7+2,none⟩=some (.int .i64 y.sc)∧w'.cell? ⟨g,k*7+3,none⟩=some (.int .i64 y.sg)∧w'.cell? ⟨g,k*7+4,none⟩=some (.bool y.rg)∧w'.cell? ⟨g,k*7+5,none⟩=some (.int .i64 y.mb)∧w'.cell? ⟨g,k*7+6,none⟩=some (.int .i64 y.lb))
       (first|exact⟨x0,x1,x2,x3,x4,x5,x6,y0,y1,y2,y3,y4,y5,y6⟩|exact⟨u0,u1,u2,u3,u4,u5,u6,v0,v1,v2,v3,v4,v5,v6⟩|go_keep)
       (first
         |(go_at_call 208;refine(zpr x y _).mono ?_;rintro e w2 ⟨z,rfl,hz,hb2⟩;rw[HC.out]at hz;have hs2:=SO.after HS.out.drew hb2;have HS2:=lhd hs2;have HFF:=lhd (SO.after HF.out.drew hb2);have HB2:=lhd (HBJ.out.drew.trans (hb2.mono HLO.out));have hqa:=hs2.at;rw[HPA.out]at hqa;have hs3:=hs2;rw[show(P++A)++y::([]++x::(A2++(M.drop (q+1)++S)))=(P++(A++ [y]))++x::(A2++(M.drop (q+1)++S))by simp]at hs3;have hqb:=hs3.at;rw[show(P++(A++ [y])).length=k+1 by have:=HPA.out;simp only[List.length_append,List.length_singleton]at this⊢;omega]at hqb;obtain⟨v0,v1,v2,v3,v4,v5,v6⟩:=hqa;obtain⟨u0,u1,u2,u3,u4,u5,u6⟩:=hqb;clear hb2 hs2 hs3)
         |fail "no arm")
      clear u0 u1 u2 u3 u4 u5 u6 v0 v1 v2 v3 v4 v5 v6 x0 x1 x2 x3 x4 x5 x6 y0 y1 y2 y3 y4 y5 y6 h1 h2 h3 h4 h5;go_wp2_with fail;go_roundw;case rel=>exact⟨q+1,by simp;omega,by omega,.inl (by have:=HL.out.2.2.1;omega),HFF.out,HB2.out⟩
      case measure=>
       have h9:=HL.out;simp[intOf];omega
  ·have hd0:decide ((a:Int)+(q:Int)<(b:Int))=false:=by rw[decide_eq_false_iff_not];omega
   have HF:=lhd (show SO base g n c wr (P++(zhk vk M++S))by
    rw[List.take_of_length_le (by omega),List.drop_of_length_le (by omega)]at hs;exact hs)
   clear hs;go_wp2_with fail;go_end0
   exact⟨rfl,HF.out,HB.out⟩
theorem ziT {i j h:Nat} (hi:i≤1000000) (hj:j≤1000000) (hh:(i+j)/2=h):wrap64 ((i:Int)+(j:Int))=(i:Int)+(j:Int)∧IntKind.u64.wrap ((i:Int)+(j:Int))=(i:Int)+(j:Int)∧((i:Int)+(j:Int))/2=(h:Int)∧wrap64 (h:Int)=(h:Int)∧IntKind.i64.wrap ((h:Int)+1)=(h:Int)+1:=
 ⟨IntWalk.wrap64_in _ (by omega),IntWalk.u64_in _ (by omega),by omega,IntWalk.wrap64_in _ (by omega),IntWalk.i64_in _ (by omega)⟩
theorem zpB (base g c a b:Nat) (l P B S:List Vr) (x:Vr) (w:World) (hg:SO base g l.length c w l) (hl:l=P++(x::(B++S))) (hp:P.length=a) (hB:a+1+B.length=b) (hs:Srt vk B) (hn:l.length≤1000):
 Calls Tryz.prog 306 #[.slice (some ⟨g,0,none⟩) l.length c,.int .i64 a,.int .i64 ((a:Int)+1),.int .i64 b,(.func (.func 208) #[] #[])] w fun e w'=>
  e=.returned (.tuple #[])∧SO base g l.length c w' (P++(mrg vk [x] B++S))∧Below base w w':=by
 have H0:=lhd (show SO base g l.length c w (P++(x::(B++S)))by rw[←hl];exact hg);have hlen:l.length=a+1+B.length+S.length:=by rw[hl,←hp];simp only[List.length_append,List.length_cons];omega
 have HL:=lhd (And.intro hp (And.intro hB (And.intro hlen hn)));have HSR:=lhd hs;have hw0:IntKind.i64.wrap ((a:Int)+1-(a:Int))=1:=by rw[IntWalk.i64_in _ (by omega)];omega
 generalize l.length=n at*;clear hg hl hp hB hs hlen hn;go_enter Tryz.func306,Tryz.ntmps306;go_wp2_with fail;clear hw0;go_loopw [10,11] (fun vi vj wr=>∃i j:Nat,vi=.int .i64 i∧vj=.int .i64 j∧a+1≤i∧i≤j∧j≤b∧(∀t (h:t<B.length),t+(a+1)<i→vk B[t]<vk x)∧(∀t (h:t<B.length),j≤t+(a+1)→vk x≤vk B[t])∧SO base g n c wr (P++(x::(B++S)))∧Below base w wr) (fun vi vj _=>(intOf vj).toNat-(intOf vi).toNat)
 case atStart=>
  have h9:=HL.out;exact⟨a+1,b,by simp,rfl,Nat.le_refl _,by omega,Nat.le_refl _,fun t h h2=>by omega,fun t h h2=>by omega,H0.out,Below.refl _ _⟩
 case round=>
  obtain⟨i,j,rfl,rfl,h1,h2,h3,hlt1,hge1,hs,hbw⟩:=hrel;have HB:=lhd hbw;have HS:=lhd hs;have H1:=lhd hlt1;have H2:=lhd hge1;clear hbw hs hlt1 hge1;by_cases hij:i<j
  ·skip
   have hbn:=HL.out.2.1;have hnn:=HL.out.2.2;obtain⟨h,hh⟩:∃h,(i+j)/2=h:=⟨_,rfl⟩;have MID:=lhd (ziT (i:=i) (j:=j) (h:=h) (by omega) (by omega) hh);have hhi:i≤h∧h<j:=by omega
   have hlt:h-(a+1)<B.length:=by omega
   have hsB:B=B.take (h-(a+1))++B[h-(a+1)]::B.drop (h-(a+1)+1):=by rw[←List.drop_eq_getElem_cons hlt,List.take_append_drop]
   have HCM:=lhd (fun(hc:vk B[h-(a+1)]<vk x) t (ht:t<B.length) (h2:t+(a+1)<h+1)=>(show vk B[t]<vk x from Int.lt_of_le_of_lt (zpq HSR.out (show t≤h-(a+1)by omega) hlt) hc));have HCN:=lhd (fun(hc:¬vk B[h-(a+1)]<vk x) t (ht:t<B.length) (h2:h≤t+(a+1))=>(show vk x≤vk B[t]from Int.le_trans (Int.not_lt.1 hc) (zpq HSR.out (show h-(a+1)≤t by omega) ht)))
   have e1:P++(x::(B++S))=(P++(x::B.take (h-(a+1))))++B[h-(a+1)]::(B.drop (h-(a+1)+1)++S):=by
    conv=>lhs;rw[hsB]
    simp only[List.append_assoc,List.cons_append]
   have hz:=(HS.out).at;rw[HL.out.1]at hz;have hz2:=(show SO base g n c wr ((P++(x::B.take (h-(a+1))))++B[h-(a+1)]::(B.drop (h-(a+1)+1)++S))from e1▸HS.out).at;rw[show(P++(x::B.take (h-(a+1)))).length=h by rw[List.length_append,List.length_cons,List.length_take,HL.out.1];omega]at hz2;have n1:(0:Int)≤(h:Int):=by omega
   have n2:(h:Int)<(n:Int):=by omega
   have n3:(0:Int)≤(a:Int):=by omega
   have n4:(a:Int)<(n:Int):=by omega
   have HLO:=lhd (show base≤wr.drew.heap.size from Nat.le_of_lt (Nat.lt_of_le_of_lt HS.out.lo.1 HS.out.lo.2));have HN:=lhd (show a+1≤i∧i≤h∧h<j∧j≤b from⟨h1,hhi.1,hhi.2,h3⟩);generalize B[h-(a+1)]=z at hz2 HCM HCN;obtain⟨x0,x1,x2,x3,x4,x5,x6⟩:=hz;obtain⟨z0,z1,z2,z3,z4,z5,z6⟩:=hz2;clear hbn hnn hsB e1 hlt hhi hh h1 h2 h3;by_cases hc:vk z<vk x
   ·have HC:=lhd (show decide (vk z<vk x)=true from decide_eq_true hc);have HM:=lhd (HCM.out hc);obtain⟨m1,m2,m3,m4,m5⟩:=MID.out;clear hc;go_wp2_with fail;clear m1 m2 m3 m4
    go_region_held3 (fun w'=>w'.cell? ⟨g,h*7,none⟩=some (.string (bsB z.nm))∧w'.cell? ⟨g,h*7+1,none⟩=some (.int .i64 z.ty)∧w'.cell? ⟨g,h*7+2,none⟩=some (.int .i64 z.sc)∧w'.cell? ⟨g,h*7+3,none⟩=some (.int .i64 z.sg)∧w'.cell? ⟨g,h*7+4,none⟩=some (.bool z.rg)∧w'.cell? ⟨g,h*7+5,none⟩=some (.int .i64 z.mb)∧w'.cell? ⟨g,h*7+6,none⟩=some (.int .i64 z.lb)∧w'.cell? ⟨g,a*7,none⟩=some (.string (bsB x.nm))∧w'.cell? ⟨g,a*7+1,none⟩=some (.int .i64 x.ty)∧w'.cell? ⟨g,a*7+2,none⟩=some (.int .i64 x.sc)∧w'.cell? ⟨g,a*7+3,none⟩=some (.int .i64 x.sg)∧w'.cell? ⟨g,a*7+4,none⟩=some (.bool x.rg)∧w'.cell? ⟨g,a*7+5,none⟩=some (.int .i64 x.mb)∧w'.cell? ⟨g,a*7+6,none⟩=some (.int .i64 x.lb))
     (first|exact⟨z0,z1,z2,z3,z4,z5,z6,x0,x1,x2,x3,x4,x5,x6⟩|exact⟨u0,u1,u2,u3,u4,u5,u6,v0,v1,v2,v3,v4,v5,v6⟩|go_keep)
     (first
       |(go_at_call 208;refine(zpr z x _).mono ?_;rintro e w2 ⟨r,rfl,hz,hb2⟩;rw[HC.out]at hz;have hs2:=SO.after HS.out.drew hb2;have HS2:=lhd hs2;have HB2:=lhd (HB.out.drew.trans (hb2.mono HLO.out));have hlt9:=hs2.lo.2;obtain⟨v0,v1,v2,v3,v4,v5,v6⟩:=(⟨(hb2.cell (p:=⟨g,a*7,none⟩) (zbU (show wr.drew.cell? _=some _ from x0))).trans x0,(hb2.cell (p:=⟨g,a*7+1,none⟩) (zbU (show wr.drew.cell? _=some _ from x1))).trans x1,(hb2.cell (p:=⟨g,a*7+2,none⟩) (zbU (show wr.drew.cell? _=some _ from x2))).trans x2,(hb2.cell (p:=⟨g,a*7+3,none⟩) (zbU (show wr.drew.cell? _=some _ from x3))).trans x3,(hb2.cell (p:=⟨g,a*7+4,none⟩) (zbU (show wr.drew.cell? _=some _ from x4))).trans x4,(hb2.cell (p:=⟨g,a*7+5,none⟩) (zbU (show wr.drew.cell? _=some _ from x5))).trans x5,(hb2.cell (p:=⟨g,a*7+6,none⟩) (zbU (show wr.drew.cell? _=some _ from x6))).trans x6⟩:_∧_∧_∧_∧_∧_∧_);obtain⟨u0,u1,u2,u3,u4,u5,u6⟩:=(⟨(hb2.cell (p:=⟨g,h*7,none⟩) (zbU (show wr.drew.cell? _=some _ from z0))).trans z0,(hb2.cell (p:=⟨g,h*7+1,none⟩) (zbU (show wr.drew.cell? _=some _ from z1))).trans z1,(hb2.cell (p:=⟨g,h*7+2,none⟩) (zbU (show wr.drew.cell? _=some _ from z2))).trans z2,(hb2.cell (p:=⟨g,h*7+3,none⟩) (zbU (show wr.drew.cell? _=some _ from z3))).trans z3,(hb2.cell (p:=⟨g,h*7+4,none⟩) (zbU (show wr.drew.cell? _=some _ from z4))).trans z4,(hb2.cell (p:=⟨g,h*7+5,none⟩) (zbU (show wr.drew.cell? _=some _ from z5))).trans z5,(hb2.cell (p:=⟨g,h*7+6,none⟩) (zbU (show wr.drew.cell? _=some _ from z6))).trans z6⟩:_∧_∧_∧_∧_∧_∧_);clear hb2 hs2 hlt9)
       |fail "no arm")
    go_wp2_with fail;clear m5;go_roundw
    case rel=>
     have h9:=HN.out;exact⟨h+1,j,by simp,rfl,by omega,by omega,by omega,HM.out,H2.out,HS2.out,HB2.out⟩
    case measure=>
     have h9:=HN.out;simp[intOf];omega
   ·have HC:=lhd (show decide (vk z<vk x)=false from decide_eq_false hc);have HM:=lhd (HCN.out hc);obtain⟨m1,m2,m3,m4,m5⟩:=MID.out;clear hc;go_wp2_with fail;clear m1 m2 m3 m4
    go_region_held3 (fun w'=>w'.cell? ⟨g,h*7,none⟩=some (.string (bsB z.nm))∧w'.cell? ⟨g,h*7+1,none⟩=some (.int .i64 z.ty)∧w'.cell? ⟨g,h*7+2,none⟩=some (.int .i64 z.sc)∧w'.cell? ⟨g,h*7+3,none⟩=some (.int .i64 z.sg)∧w'.cell? ⟨g,h*7+4,none⟩=some (.bool z.rg)∧w'.cell? ⟨g,h*7+5,none⟩=some (.int .i64 z.mb)∧w'.cell? ⟨g,h*7+6,none⟩=some (.int .i64 z.lb)∧w'.cell? ⟨g,a*7,none⟩=some (.string (bsB x.nm))∧w'.cell? ⟨g,a*7+1,none⟩=some (.int .i64 x.ty)∧w'.cell? ⟨g,a*7+2,none⟩=some (.int .i64 x.sc)∧w'.cell? ⟨g,a*7+3,none⟩=some (.int .i64 x.sg)∧w'.cell? ⟨g,a*7+4,none⟩=some (.bool x.rg)∧w'.cell? ⟨g,a*7+5,none⟩=some (.int .i64 x.mb)∧w'.cell? ⟨g,a*7+6,none⟩=some (.int .i64 x.lb))
     (first|exact⟨z0,z1,z2,z3,z4,z5,z6,x0,x1,x2,x3,x4,x5,x6⟩|exact⟨u0,u1,u2,u3,u4,u5,u6,v0,v1,v2,v3,v4,v5,v6⟩|go_keep)
     (first
       |(go_at_call 208;refine(zpr z x _).mono ?_;rintro e w2 ⟨r,rfl,hz,hb2⟩;rw[HC.out]at hz;have hs2:=SO.after HS.out.drew hb2;have HS2:=lhd hs2;have HB2:=lhd (HB.out.drew.trans (hb2.mono HLO.out));have hlt9:=hs2.lo.2;obtain⟨v0,v1,v2,v3,v4,v5,v6⟩:=(⟨(hb2.cell (p:=⟨g,a*7,none⟩) (zbU (show wr.drew.cell? _=some _ from x0))).trans x0,(hb2.cell (p:=⟨g,a*7+1,none⟩) (zbU (show wr.drew.cell? _=some _ from x1))).trans x1,(hb2.cell (p:=⟨g,a*7+2,none⟩) (zbU (show wr.drew.cell? _=some _ from x2))).trans x2,(hb2.cell (p:=⟨g,a*7+3,none⟩) (zbU (show wr.drew.cell? _=some _ from x3))).trans x3,(hb2.cell (p:=⟨g,a*7+4,none⟩) (zbU (show wr.drew.cell? _=some _ from x4))).trans x4,(hb2.cell (p:=⟨g,a*7+5,none⟩) (zbU (show wr.drew.cell? _=some _ from x5))).trans x5,(hb2.cell (p:=⟨g,a*7+6,none⟩) (zbU (show wr.drew.cell? _=some _ from x6))).trans x6⟩:_∧_∧_∧_∧_∧_∧_);obtain⟨u0,u1,u2,u3,u4,u5,u6⟩:=(⟨(hb2.cell (p:=⟨g,h*7,none⟩) (zbU (show wr.drew.cell? _=some _ from z0))).trans z0,(hb2.cell (p:=⟨g,h*7+1,none⟩) (zbU (show wr.drew.cell? _=some _ from z1))).trans z1,(hb2.cell (p:=⟨g,h*7+2,none⟩) (zbU (show wr.drew.cell? _=some _ from z2))).trans z2,(hb2.cell (p:=⟨g,h*7+3,none⟩) (zbU (show wr.drew.cell? _=some _ from z3))).trans z3,(hb2.cell (p:=⟨g,h*7+4,none⟩) (zbU (show wr.drew.cell? _=some _ from z4))).trans z4,(hb2.cell (p:=⟨g,h*7+5,none⟩) (zbU (show wr.drew.cell? _=some _ from z5))).trans z5,(hb2.cell (p:=⟨g,h*7+6,none⟩) (zbU (show wr.drew.cell? _=some _ from z6))).trans z6⟩:_∧_∧_∧_∧_∧_∧_);clear hb2 hs2 hlt9)
       |fail "no arm")
    go_wp2_with fail;clear m5;go_roundw
    case rel=>
     have h9:=HN.out;exact⟨i,h,rfl,rfl,by omega,by omega,by omega,H1.out,HM.out,HS2.out,HB2.out⟩
    case measure=>
     have h9:=HN.out;simp[intOf];omega
  ·obtain rfl:i=j:=by omega
   obtain⟨d,hd⟩:∃d,i=a+1+d:=⟨i-(a+1),by omega⟩;have hdB:d≤B.length:=by have:=HL.out.2.1;omega
   have HF:=lhd (show mrg vk [x] B=B.take d++x::B.drop d by
    conv=>lhs;rw[←List.take_append_drop d B]
    refine zja (fun y hy=>?_) (fun y hy=>?_)
    ·obtain⟨t,ht,rfl⟩:=List.mem_iff_getElem.1 hy;rw[List.length_take]at ht;rw[List.getElem_take];exact H1.out t (by omega) (by omega)
    ·obtain⟨t,ht,rfl⟩:=List.mem_iff_getElem.1 hy;rw[List.length_drop]at ht;rw[List.getElem_drop];exact H2.out (d+t) (by omega) (by omega))
   have hwd:IntKind.i64.wrap ((i:Int)-1)=(a:Int)+(d:Int):=by
    have:=HL.out;rw[IntWalk.i64_in _ (by omega)];omega
   have HD:=lhd (And.intro hdB hd);clear h1 h2 h3 hij;go_wp2_with fail;clear hd hdB;go_loopw [13] (fun vk2 wj=>∃k t:Nat,vk2=.int .i64 (k:Int)∧k=a+t∧t≤d∧SO base g n c wj (P++(B.take t++x::(B.drop t++S)))∧Below base w wj) (fun vk2 _=>a+d-(intOf vk2).toNat)
   case atStart=>exact⟨a,0,by simp,rfl,Nat.zero_le _,by simpa using HS.out,HB.out⟩
   case round=>
    obtain⟨k,t,rfl,hk,htd,hs,hbj⟩:=hrel;have HBJ:=lhd hbj;clear hbj;by_cases hlt:t<d
    ·have hd1:decide ((k:Int)<(a:Int)+(d:Int))=true:=by rw[decide_eq_true_iff];omega
     have htB:t<B.length:=by have:=HD.out.1;omega
     have hL:=HL.out;rw[List.drop_eq_getElem_cons htB]at hs;have HN:=lhd (show B.take (t+1)=B.take t++ [B[t]]from List.take_succ_eq_append_getElem htB);generalize B[t]=y at hs HN;rw[show P++(B.take t++x::((y::B.drop (t+1))++S))=(P++B.take t)++x::([]++y::(B.drop (t+1)++S))by simp]at hs;have hPA:(P++B.take t).length=k:=by rw[List.length_append,List.length_take];omega
     have hz:=hs.at;have hs':=hs;rw[show(P++B.take t)++x::([]++y::(B.drop (t+1)++S))=(P++(B.take t++ [x]))++y::(B.drop (t+1)++S)by simp]at hs';have hz':=hs'.at;rw[show(P++(B.take t++ [x])).length=k+1 by simp only[List.length_append,List.length_singleton]at hPA⊢;omega]at hz';rw[hPA]at hz;obtain⟨x0,x1,x2,x3,x4,x5,x6⟩:=hz;obtain⟨y0,y1,y2,y3,y4,y5,y6⟩:=hz';have HSW:=lhd (hs.swap (p:=k) (q:=k+1) hPA (by rw[hPA];rfl));have hfz:=zlw hs;have n1:(0:Int)≤(k:Int):=by omega
     have n2:(k:Int)<(n:Int):=by omega
     have n3:(0:Int)≤(k:Int)+1:=by omega
     have n4:(k:Int)+1<(n:Int):=by omega
     have n5:((k:Int)+1).toNat=k+1:=by omega
     have hab:¬k+1=k:=by omega
     have hba:¬k=k+1:=by omega
     have HK:=lhd (And.intro hk (And.intro htd hlt));have m1:IntKind.i64.wrap ((k:Int)+1)=(k:Int)+1:=IntWalk.i64_in _ (by omega);clear hs hs' hPA hL htB hk htd hlt;go_upto_region 11 with fail;go_region
     clear x0 x1 x2 x3 x4 x5 x6 y0 y1 y2 y3 y4 y5 y6 hfz hab hba n1 n2 n3 n4 n5;go_wp2_with fail;clear m1;go_roundw
     case rel=>
      have h9:=HK.out;refine⟨k+1,t+1,by simp,by omega,by omega,?_,(HBJ.out.trans HSW.out.2).drew⟩;have h8:=HSW.out.1.drew;rw[show(P++B.take t)++y::([]++x::(B.drop (t+1)++S))=P++((B.take t++ [y])++x::(B.drop (t+1)++S))by simp,←HN.out]at h8;exact h8
     case measure=>
      have h9:=HK.out;simp[intOf];omega
    ·have hd1:decide ((k:Int)<(a:Int)+(d:Int))=false:=by rw[decide_eq_false_iff_not];omega
     obtain rfl:t=d:=by omega
     have HFF:=lhd (show SO base g n c wr (P++(mrg vk [x] B++S))by rw[HF.out];simpa using hs);clear hs;go_wp2_with fail;refine bodyPost_ret (v:=.tuple #[]) (by simp[results,Tryz.results306,go_sem]) rfl ?_;exact⟨rfl,HFF.out,HBJ.out⟩
theorem zpC (base g c a m:Nat) (l P A S:List Vr) (y:Vr) (w:World) (hg:SO base g l.length c w l) (hl:l=P++(A++(y::S))) (hp:P.length=a) (hA:a+A.length=m) (h2A:2≤A.length) (hs:Srt vk A) (hn:l.length≤1000):
 Calls Tryz.prog 306 #[.slice (some ⟨g,0,none⟩) l.length c,.int .i64 a,.int .i64 m,.int .i64 ((m:Int)+1),(.func (.func 208) #[] #[])] w fun e w'=>
  e=.returned (.tuple #[])∧SO base g l.length c w' (P++(mrg vk A [y]++S))∧Below base w w':=by
 have H0:=lhd (show SO base g l.length c w (P++(A++(y::S)))by rw[←hl];exact hg);have hlen:l.length=m+1+S.length:=by rw[hl,←hA,←hp];simp only[List.length_append,List.length_cons];omega
 have HL:=lhd (And.intro hp (And.intro hA (And.intro hlen hn)));have HSR:=lhd hs;have hw0:IntKind.i64.wrap ((m:Int)+1-(m:Int))=1:=by rw[IntWalk.i64_in _ (by omega)];omega
 obtain⟨r,hr⟩:∃r:Int,IntKind.i64.wrap ((m:Int)-(a:Int))=r:=⟨_,rfl⟩;have hr1:(r==1)=false:=by rw[beq_eq_false_iff_ne,←hr,IntWalk.i64_in _ (by omega)];omega
 have ham:a≤m:=by omega
 have HAM:=lhd ham;generalize l.length=n at*;clear hg hl hp hA hs hlen hn h2A ham;go_enter Tryz.func306,Tryz.ntmps306;go_wp2_with fail;clear hw0 hr hr1;go_loopw [14,15] (fun vi vj wr=>∃i j:Nat,vi=.int .i64 i∧vj=.int .i64 j∧a≤i∧i≤j∧j≤m∧(∀t (h:t<A.length),a+t<i→vk A[t]≤vk y)∧(∀t (h:t<A.length),j≤a+t→vk y<vk A[t])∧SO base g n c wr (P++(A++(y::S)))∧Below base w wr) (fun vi vj _=>(intOf vj).toNat-(intOf vi).toNat)
 case atStart=>
  have h9:=HL.out;exact⟨a,m,rfl,rfl,Nat.le_refl _,HAM.out,Nat.le_refl _,fun t h h2=>by omega,fun t h h2=>by omega,H0.out,Below.refl _ _⟩
 case round=>
  obtain⟨i,j,rfl,rfl,h1,h2,h3,hlt1,hge1,hs,hbw⟩:=hrel;have HB:=lhd hbw;have HS:=lhd hs;have H1:=lhd hlt1;have H2:=lhd hge1;clear hbw hs hlt1 hge1;by_cases hij:i<j
  ·have hbn:=HL.out.2.1;have hnn:=HL.out.2.2;obtain⟨h,hh⟩:∃h,(i+j)/2=h:=⟨_,rfl⟩;have MID:=lhd (ziT (i:=i) (j:=j) (h:=h) (by omega) (by omega) hh);have hhi:i≤h∧h<j:=by omega
   have hlt:h-a<A.length:=by omega
   have hsA:A=A.take (h-a)++A[h-a]::A.drop (h-a+1):=by rw[←List.drop_eq_getElem_cons hlt,List.take_append_drop]
   have HCM:=lhd (fun(hc:¬vk y<vk A[h-a]) t (ht:t<A.length) (h2:a+t<h+1)=>(show vk A[t]≤vk y from Int.le_trans (zpq HSR.out (show t≤h-a by omega) hlt) (Int.not_lt.1 hc)));have HCN:=lhd (fun(hc:vk y<vk A[h-a]) t (ht:t<A.length) (h2:h≤a+t)=>(show vk y<vk A[t]from Int.lt_of_lt_of_le hc (zpq HSR.out (show h-a≤t by omega) ht)))
   have e1:P++(A++(y::S))=(P++A.take (h-a))++A[h-a]::(A.drop (h-a+1)++(y::S)):=by
    conv=>lhs;rw[hsA]
    simp only[List.append_assoc,List.cons_append]
   have e2:P++(A++(y::S))=(P++A)++y::S:=by rw[List.append_assoc]
   have hz:=(show SO base g n c wr ((P++A)++y::S)from e2▸HS.out).at;rw[show(P++A).length=m by rw[List.length_append,HL.out.1];omega]at hz;have hz2:=(show SO base g n c wr ((P++A.take (h-a))++A[h-a]::(A.drop (h-a+1)++(y::S)))from e1▸HS.out).at;rw[show(P++A.take (h-a)).length=h by rw[List.length_append,List.length_take,HL.out.1];omega]at hz2;have n1:(0:Int)≤(h:Int):=by omega
   have n2:(h:Int)<(n:Int):=by omega
   have n3:(0:Int)≤(m:Int):=by omega
   have n4:(m:Int)<(n:Int):=by omega
   have HLO:=lhd (show base≤wr.drew.heap.size from Nat.le_of_lt (Nat.lt_of_le_of_lt HS.out.lo.1 HS.out.lo.2));have HN:=lhd (show a≤i∧i≤h∧h<j∧j≤m from⟨h1,hhi.1,hhi.2,h3⟩);generalize A[h-a]=z at hz2 HCM HCN;obtain⟨y0,y1,y2,y3,y4,y5,y6⟩:=hz;obtain⟨z0,z1,z2,z3,z4,z5,z6⟩:=hz2;clear hbn hnn hsA e1 e2 hlt hhi hh h1 h2 h3;by_cases hc:vk y<vk z
   ·have HC:=lhd (show decide (vk y<vk z)=true from decide_eq_true hc);have HM:=lhd (HCN.out hc);obtain⟨m1,m2,m3,m4,m5⟩:=MID.out;clear hc;go_wp2_with fail;clear m1 m2 m3 m4
    go_region_held3 (fun w'=>w'.cell? ⟨g,m*7,none⟩=some (.string (bsB y.nm))∧w'.cell? ⟨g,m*7+1,none⟩=some (.int .i64 y.ty)∧w'.cell? ⟨g,m*7+2,none⟩=some (.int .i64 y.sc)∧w'.cell? ⟨g,m*7+3,none⟩=some (.int .i64 y.sg)∧w'.cell? ⟨g,m*7+4,none⟩=some (.bool y.rg)∧w'.cell? ⟨g,m*7+5,none⟩=some (.int .i64 y.mb)∧w'.cell? ⟨g,m*7+6,none⟩=some (.int .i64 y.lb)∧w'.cell? ⟨g,h*7,none⟩=some (.string (bsB z.nm))∧w'.cell? ⟨g,h*7+1,none⟩=some (.int .i64 z.ty)∧w'.cell? ⟨g,h*7+2,none⟩=some (.int .i64 z.sc)∧w'.cell? ⟨g,h*7+3,none⟩=some (.int .i64 z.sg)∧w'.cell? ⟨g,h*7+4,none⟩=some (.bool z.rg)∧w'.cell? ⟨g,h*7+5,none⟩=some (.int .i64 z.mb)∧w'.cell? ⟨g,h*7+6,none⟩=some (.int .i64 z.lb))
     (first|exact⟨y0,y1,y2,y3,y4,y5,y6,z0,z1,z2,z3,z4,z5,z6⟩|exact⟨u0,u1,u2,u3,u4,u5,u6,v0,v1,v2,v3,v4,v5,v6⟩|go_keep)
     (first
       |(go_at_call 208;refine(zpr y z _).mono ?_;rintro e w2 ⟨r,rfl,hz,hb2⟩;rw[HC.out]at hz;have hs2:=SO.after HS.out.drew hb2;have HS2:=lhd hs2;have HB2:=lhd (HB.out.drew.trans (hb2.mono HLO.out));obtain⟨u0,u1,u2,u3,u4,u5,u6⟩:=(⟨(hb2.cell (p:=⟨g,m*7,none⟩) (zbU (show wr.drew.cell? _=some _ from y0))).trans y0,(hb2.cell (p:=⟨g,m*7+1,none⟩) (zbU (show wr.drew.cell? _=some _ from y1))).trans y1,(hb2.cell (p:=⟨g,m*7+2,none⟩) (zbU (show wr.drew.cell? _=some _ from y2))).trans y2,(hb2.cell (p:=⟨g,m*7+3,none⟩) (zbU (show wr.drew.cell? _=some _ from y3))).trans y3,(hb2.cell (p:=⟨g,m*7+4,none⟩) (zbU (show wr.drew.cell? _=some _ from y4))).trans y4,(hb2.cell (p:=⟨g,m*7+5,none⟩) (zbU (show wr.drew.cell? _=some _ from y5))).trans y5,(hb2.cell (p:=⟨g,m*7+6,none⟩) (zbU (show wr.drew.cell? _=some _ from y6))).trans y6⟩:_∧_∧_∧_∧_∧_∧_);obtain⟨v0,v1,v2,v3,v4,v5,v6⟩:=(⟨(hb2.cell (p:=⟨g,h*7,none⟩) (zbU (show wr.drew.cell? _=some _ from z0))).trans z0,(hb2.cell (p:=⟨g,h*7+1,none⟩) (zbU (show wr.drew.cell? _=some _ from z1))).trans z1,(hb2.cell (p:=⟨g,h*7+2,none⟩) (zbU (show wr.drew.cell? _=some _ from z2))).trans z2,(hb2.cell (p:=⟨g,h*7+3,none⟩) (zbU (show wr.drew.cell? _=some _ from z3))).trans z3,(hb2.cell (p:=⟨g,h*7+4,none⟩) (zbU (show wr.drew.cell? _=some _ from z4))).trans z4,(hb2.cell (p:=⟨g,h*7+5,none⟩) (zbU (show wr.drew.cell? _=some _ from z5))).trans z5,(hb2.cell (p:=⟨g,h*7+6,none⟩) (zbU (show wr.drew.cell? _=some _ from z6))).trans z6⟩:_∧_∧_∧_∧_∧_∧_);clear hb2 hs2)
       |fail "no arm")
    go_wp2_with fail;clear m5;go_roundw
    case rel=>
     have h9:=HN.out;exact⟨i,h,rfl,rfl,by omega,by omega,by omega,H1.out,HM.out,HS2.out,HB2.out⟩
    case measure=>
     have h9:=HN.out;simp[intOf];omega
   ·have HC:=lhd (show decide (vk y<vk z)=false from decide_eq_false hc);have HM:=lhd (HCM.out hc);obtain⟨m1,m2,m3,m4,m5⟩:=MID.out;clear hc;go_wp2_with fail;clear m1 m2 m3 m4
    go_region_held3 (fun w'=>w'.cell? ⟨g,m*7,none⟩=some (.string (bsB y.nm))∧w'.cell? ⟨g,m*7+1,none⟩=some (.int .i64 y.ty)∧w'.cell? ⟨g,m*7+2,none⟩=some (.int .i64 y.sc)∧w'.cell? ⟨g,m*7+3,none⟩=some (.int .i64 y.sg)∧w'.cell? ⟨g,m*7+4,none⟩=some (.bool y.rg)∧w'.cell? ⟨g,m*7+5,none⟩=some (.int .i64 y.mb)∧w'.cell? ⟨g,m*7+6,none⟩=some (.int .i64 y.lb)∧w'.cell? ⟨g,h*7,none⟩=some (.string (bsB z.nm))∧w'.cell? ⟨g,h*7+1,none⟩=some (.int .i64 z.ty)∧w'.cell? ⟨g,h*7+2,none⟩=some (.int .i64 z.sc)∧w'.cell? ⟨g,h*7+3,none⟩=some (.int .i64 z.sg)∧w'.cell? ⟨g,h*7+4,none⟩=some (.bool z.rg)∧w'.cell? ⟨g,h*7+5,none⟩=some (.int .i64 z.mb)∧w'.cell? ⟨g,h*7+6,none⟩=some (.int .i64 z.lb))
     (first|exact⟨y0,y1,y2,y3,y4,y5,y6,z0,z1,z2,z3,z4,z5,z6⟩|exact⟨u0,u1,u2,u3,u4,u5,u6,v0,v1,v2,v3,v4,v5,v6⟩|go_keep)
     (first
       |(go_at_call 208;refine(zpr y z _).mono ?_;rintro e w2 ⟨r,rfl,hz,hb2⟩;rw[HC.out]at hz;have hs2:=SO.after HS.out.drew hb2;have HS2:=lhd hs2;have HB2:=lhd (HB.out.drew.trans (hb2.mono HLO.out));obtain⟨u0,u1,u2,u3,u4,u5,u6⟩:=(⟨(hb2.cell (p:=⟨g,m*7,none⟩) (zbU (show wr.drew.cell? _=some _ from y0))).trans y0,(hb2.cell (p:=⟨g,m*7+1,none⟩) (zbU (show wr.drew.cell? _=some _ from y1))).trans y1,(hb2.cell (p:=⟨g,m*7+2,none⟩) (zbU (show wr.drew.cell? _=some _ from y2))).trans y2,(hb2.cell (p:=⟨g,m*7+3,none⟩) (zbU (show wr.drew.cell? _=some _ from y3))).trans y3,(hb2.cell (p:=⟨g,m*7+4,none⟩) (zbU (show wr.drew.cell? _=some _ from y4))).trans y4,(hb2.cell (p:=⟨g,m*7+5,none⟩) (zbU (show wr.drew.cell? _=some _ from y5))).trans y5,(hb2.cell (p:=⟨g,m*7+6,none⟩) (zbU (show wr.drew.cell? _=some _ from y6))).trans y6⟩:_∧_∧_∧_∧_∧_∧_);obtain⟨v0,v1,v2,v3,v4,v5,v6⟩:=(⟨(hb2.cell (p:=⟨g,h*7,none⟩) (zbU (show wr.drew.cell? _=some _ from z0))).trans z0,(hb2.cell (p:=⟨g,h*7+1,none⟩) (zbU (show wr.drew.cell? _=some _ from z1))).trans z1,(hb2.cell (p:=⟨g,h*7+2,none⟩) (zbU (show wr.drew.cell? _=some _ from z2))).trans z2,(hb2.cell (p:=⟨g,h*7+3,none⟩) (zbU (show wr.drew.cell? _=some _ from z3))).trans z3,(hb2.cell (p:=⟨g,h*7+4,none⟩) (zbU (show wr.drew.cell? _=some _ from z4))).trans z4,(hb2.cell (p:=⟨g,h*7+5,none⟩) (zbU (show wr.drew.cell? _=some _ from z5))).trans z5,(hb2.cell (p:=⟨g,h*7+6,none⟩) (zbU (show wr.drew.cell? _=some _ from z6))).trans z6⟩:_∧_∧_∧_∧_∧_∧_);clear hb2 hs2)
       |fail "no arm")
    go_wp2_with fail;clear m5;go_roundw
    case rel=>
     have h9:=HN.out;exact⟨h+1,j,by simp,rfl,by omega,by omega,by omega,HM.out,H2.out,HS2.out,HB2.out⟩
    case measure=>
     have h9:=HN.out;simp[intOf];omega
  ·obtain rfl:i=j:=by omega
   obtain⟨d,hd⟩:∃d,i=a+d:=⟨i-a,by omega⟩;have hdA:d≤A.length:=by have:=HL.out.2.1;omega
   have HF:=lhd (show mrg vk A [y]=A.take d++y::A.drop d by
    conv=>lhs;rw[←List.take_append_drop d A]
    refine zjb (by rw[List.take_append_drop];exact HSR.out) (fun x hx=>?_) (fun x hx=>?_)
    ·obtain⟨t,ht,rfl⟩:=List.mem_iff_getElem.1 hx;rw[List.length_take]at ht;rw[List.getElem_take];exact H1.out t (by omega) (by omega)
    ·obtain⟨t,ht,rfl⟩:=List.mem_iff_getElem.1 hx;rw[List.length_drop]at ht;rw[List.getElem_drop];exact H2.out (d+t) (by omega) (by omega))
   have HD:=lhd (And.intro hdA hd);clear h1 h2 h3 hij hd hdA;go_wp2_with fail;go_loopw [17] (fun vk2 wj=>∃k t:Nat,vk2=.int .i64 (k:Int)∧k=a+t∧d≤t∧t≤A.length∧SO base g n c wj (P++(A.take t++y::(A.drop t++S)))∧Below base w wj) (fun vk2 _=>(intOf vk2).toNat-a)
   case atStart=>
    have h9:=HL.out;exact⟨m,A.length,rfl,by omega,HD.out.1,Nat.le_refl _,by simpa using HS.out,HB.out⟩
   case round=>
    obtain⟨k,t,rfl,hk,htd,htA,hs,hbj⟩:=hrel;have HBJ:=lhd hbj;clear hbj;by_cases hlt:d<t
    ·have hd1:decide ((i:Int)<(k:Int))=true:=by have:=HD.out.2;rw[decide_eq_true_iff];omega
     have hd2:i<k:=by have:=HD.out.2;omega
     obtain⟨s,rfl⟩:∃s,t=s+1:=⟨t-1,by omega⟩;obtain⟨q,rfl⟩:∃q,k=q+1:=⟨k-1,by omega⟩;have hsA:s<A.length:=by omega
     have hL:=HL.out;have HN:=lhd (show A.drop s=A[s]::A.drop (s+1)from List.drop_eq_getElem_cons hsA);rw[List.take_succ_eq_append_getElem hsA]at hs;generalize A[s]=z at hs HN;rw[show P++((A.take s++ [z])++y::(A.drop (s+1)++S))=(P++A.take s)++z::([]++y::(A.drop (s+1)++S))by simp]at hs;have hPA:(P++A.take s).length=q:=by rw[List.length_append,List.length_take];omega
     have hz:=hs.at;have hs':=hs;rw[show(P++A.take s)++z::([]++y::(A.drop (s+1)++S))=(P++(A.take s++ [z]))++y::(A.drop (s+1)++S)by simp]at hs';have hz':=hs'.at;rw[show(P++(A.take s++ [z])).length=q+1 by simp only[List.length_append,List.length_singleton]at hPA⊢;omega]at hz';rw[hPA]at hz;obtain⟨x0,x1,x2,x3,x4,x5,x6⟩:=hz;obtain⟨y0,y1,y2,y3,y4,y5,y6⟩:=hz';have HSW:=lhd (hs.swap2 (p:=q) (q:=q+1) hPA (by rw[hPA];rfl));have hfz:=zlw hs;have n1:(0:Int)≤(q:Int):=by omega
     have n2:(q:Int)<(n:Int):=by omega
     have n3:(0:Int)≤(q:Int)+1:=by omega
     have n4:(q:Int)+1<(n:Int):=by omega
     have n5:((q:Int)+1).toNat=q+1:=by omega
     have hab:¬q+1=q:=by omega
     have hba:¬q=q+1:=by omega
     have HK:=lhd (And.intro hk (And.intro htd (And.intro hlt htA)));have m1:IntKind.i64.wrap ((q:Int)+1-1)=(q:Int):=by rw[IntWalk.i64_in _ (by omega)];omega
     have m2:IntKind.i64.wrap (q:Int)=(q:Int):=IntWalk.i64_in _ (by omega);clear hs hs' hPA hL hsA hk htd hlt htA;go_upto_region 23 with fail;go_region
     clear x0 x1 x2 x3 x4 x5 x6 y0 y1 y2 y3 y4 y5 y6 hfz hab hba n1 n2 n3 n4 n5;go_wp2_with fail;clear m1 m2;go_roundw
     case rel=>
      have h9:=HK.out;refine⟨q,s,rfl,by omega,by omega,by omega,?_,(HBJ.out.trans HSW.out.2).drew⟩;have h8:=HSW.out.1.drew;rw[show(P++A.take s)++y::([]++z::(A.drop (s+1)++S))=P++(A.take s++y::((z::A.drop (s+1))++S))by simp,←HN.out]at h8;exact h8
     case measure=>
      have h9:=HK.out;simp[intOf];omega
    ·have hd1:decide ((i:Int)<(k:Int))=false:=by have:=HD.out.2;rw[decide_eq_false_iff_not];omega
     have hd2:¬i<k:=by have:=HD.out.2;omega
     obtain rfl:t=d:=by omega
     have HFF:=lhd (show SO base g n c wr (P++(mrg vk A [y]++S))by rw[HF.out];simpa using hs);clear hs hk;go_wp2_with fail;refine bodyPost_ret (v:=.tuple #[]) (by simp[results,Tryz.results306,go_sem]) rfl ?_;exact⟨rfl,HFF.out,HBJ.out⟩
end Go.Proofs.YtfppgpamkdkckaaGreatDoor
