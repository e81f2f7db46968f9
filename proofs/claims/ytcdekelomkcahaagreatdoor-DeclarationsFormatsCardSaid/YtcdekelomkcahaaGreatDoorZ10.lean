import Derived.Test.YtcdekelomkcahaaGreatDoorZ00
import Derived.Test.YtcdekelomkcahaaGreatDoorZ01
import Derived.Test.YtcdekelomkcahaaGreatDoorZ05
import Derived.Test.YtcdekelomkcahaaGreatDoorZ06
set_option maxRecDepth 100000
set_option maxHeartbeats 16000000
namespace Go.Proofs.YtcdekelomkcahaaGreatDoor
open Go.RowKit
set_option linter.unusedSimpArgs false
def vk (v:Vr):Int:=v.sc
theorem SO.drw {base g n c:Nat} {w:World} {l:List Vr} (h:SO base g n c w l) (m:Nat):SO base g n c (w.drewN m) l:=h
theorem za2 {B:Nat} {a w:World} (h:RowKit.Below B a w) (m:Nat):RowKit.Below B a (w.drewN m):=⟨h.os,h.tape,h.output,h.size,h.block⟩
def zac (x y:Vr) (w:World) (e:Ending) (w':World):Prop:=∃z:Int,e=.returned (.int .i64 z)∧decide (z<0)=decide (vk x<vk y)∧Below w.heap.size w w'
theorem zbW (x y:Int):decide (Lib.compareInt x y<0)=decide (x<y):=by
 unfold Lib.compareInt;split
 ·rename_i h;rw[decide_eq_true h];rfl
 ·rename_i h
  rw[decide_eq_false h];split<;>rfl
theorem zm2 (x y:Vr) (w:World):Calls Tryz.prog 57 #[vrV x,vrV y] w (zac x y w):=by
 have hb:Below w.heap.size w ((w.alloc (.cells #[.string (bsB x.nm),.int .i64 x.ty,.int .i64 x.sc,.int .i64 x.sg,.bool x.rg,.int .i64 x.mb,.int .i64 x.lb] 48)).alloc (.cells #[.string (bsB y.nm),.int .i64 y.ty,.int .i64 y.sc,.int .i64 y.sg,.bool y.rg,.int .i64 y.mb,.int .i64 y.lb] 48)):=((Below.refl _ _).alloc (Nat.le_refl _) _).alloc (by simp) _;have HB:=lhd hb;clear hb;go_enter Tryz.func57,Tryz.ntmps57;go_wp2_with fail;refine(Tryz.cmp_Compare_int _ _ _).mono ?_;rintro e w1 ⟨rfl,hw⟩;have hw':=hw.symm;subst hw';go_wp2_with fail;go_ret;exact⟨_,rfl,zbW _ _,HB.out⟩
theorem zfw {Q A1 A2:List Vr} {x:Vr} (hQ:Srt vk Q) (h:Q=A1++A2) (h2:∀y∈A2,vk x<vk y) (h1:∀A y,A1=A++ [y]→¬vk x<vk y):mrg vk Q [x]=A1++x::A2:=by
 subst h;refine zht hQ (fun y hy=>?_) h2;obtain⟨A,z,rfl⟩:∃A z,A1=A++ [z]:=⟨A1.dropLast,A1.getLast (fun e=>by rw[e]at hy;cases hy),(List.dropLast_concat_getLast _).symm⟩;have h3:=h1 A z rfl;have hp:=(List.pairwise_append.1 hQ).1;rcases List.mem_append.1 hy with hy|hy
 ·have:=(List.pairwise_append.1 hp).2.2 y hy z (by simp);omega
 ·rw[List.mem_singleton]at hy;subst hy;omega
theorem zfQ (M:List Vr):zfL vk (M.take 1)=M.take 1:=by
 cases M with
 |nil=>rfl
 |cons x l=>rfl
theorem zm4 (base g c a b:Nat) (l P M S:List Vr) (w:World) (hg:SO base g l.length c w l) (hl:l=P++(M++S)) (hp:P.length=a) (hM:a+M.length=b) (hn:l.length≤1000):
 Calls Tryz.prog 150 #[.slice (some ⟨g,0,none⟩) l.length c,.int .i64 a,.int .i64 b,(.func (.func 57) #[] #[])] w fun e w'=>
  e=.returned (.tuple #[])∧SO base g l.length c w' (P++(zfL vk M++S))∧Below base w w':=by
 have hlen:l.length=P.length+M.length+S.length:=by rw[hl];simp only[List.length_append];omega
 have H0:=lhd (show SO base g l.length c w (P++(zfL vk (M.take 1)++(M.drop 1++S)))by rw[zfQ,←List.append_assoc (M.take 1),List.take_append_drop,←hl];exact hg);have hw0:IntKind.i64.wrap ((a:Int)+1)=(a:Int)+1:=IntWalk.i64_in _ (by omega);have HCAP:=lhd hg.cap;generalize hN:l.length=n at*;clear hg hl;go_enter Tryz.func150,Tryz.ntmps150;go_wp2_with fail;clear hw0;go_loopw [8] (fun vi wr=>∃q:Nat,vi=.int .i64 ((a:Int)+(q:Int))∧1≤q∧(q≤M.length∨q=1)∧SO base g n c wr (P++(zfL vk (M.take q)++(M.drop q++S)))∧Below base w wr) (fun vi _=>b-(intOf vi).toNat)
 case atStart=>exact⟨1,by simp,Nat.le_refl _,.inr rfl,H0.out,Below.refl _ _⟩
 case round=>
  obtain⟨q,rfl,hq1,hq2,hs,hbw⟩:=hrel;have HB:=lhd hbw;clear hbw;by_cases hlt:q<M.length
  ·have hd0:decide ((a:Int)+(q:Int)<(b:Int))=true:=by rw[decide_eq_true_iff];omega
   have hwq:IntKind.i64.wrap ((a:Int)+(q:Int)+1)=(a:Int)+(q:Int)+1:=IntWalk.i64_in _ (by omega);rw[List.drop_eq_getElem_cons hlt]at hs;have HX:=lhd (show zfL vk (M.take (q+1))=mrg vk (zfL vk (M.take q)) [M[q]]by rw[List.take_succ_eq_append_getElem hlt];exact zfS _ _);have HQS:=lhd (zfT (k:=vk) (M.take q));have hQl:(zfL vk (M.take q)).length=q:=by rw[zfO,List.length_take];omega
   generalize M[q]=x at hs HX;generalize zfL vk (M.take q)=Q at hs HX HQS hQl;have H1:=lhd hs;have hzl:=hs.len;simp only[List.length_append,List.length_cons]at hzl;clear hs;go_wp2_with fail;clear hd0;go_loopw [9] (fun vj wj=>∃(j:Nat) (A1 A2:List Vr),vj=.int .i64 (j:Int)∧a+A1.length=j∧Q=A1++A2∧(∀y∈A2,vk x<vk y)∧SO base g n c wj (P++(A1++x::(A2++(M.drop (q+1)++S))))∧Below base w wj) (fun vj _=>(intOf vj).toNat-a)
   case atStart=>exact⟨a+q,Q,[],by simp,by rw[hQl],by simp,by simp,by simpa using H1.out,HB.out⟩
   case round=>
    obtain⟨j,A1,A2,rfl,hj,hsp,hgt,hs,hbj⟩:=hrel;have HBJ:=lhd hbj;have HSP:=lhd hsp;have HGT:=lhd hgt;clear hbj hsp hgt;by_cases hA:A1=[]
    ·subst hA;have hja:j=a:=by simpa using hj.symm
     subst hja;have hdj:decide ((j:Int)<(j:Int))=false:=by simp
     have HF:=lhd (show SO base g n c wr (P++(zfL vk (M.take (q+1))++(M.drop (q+1)++S)))by
      rw[HX.out,zfw HQS.out HSP.out HGT.out (fun A y e=>by simp at e)];simpa using hs)
     clear hs;go_wp2_with fail;go_quiet (fail);go_wp2_with fail;go_roundw;case rel=>exact⟨q+1,by simp;omega,by omega,.inl (by omega),SO.drw HF.out _,za2 HBJ.out _⟩
     case measure=>simp[intOf];omega
    ·obtain⟨A,y,rfl⟩:∃A y,A1=A++ [y]:=⟨A1.dropLast,A1.getLast hA,(List.dropLast_concat_getLast _).symm⟩;rw[List.length_append,List.length_singleton]at hj;obtain⟨k,rfl⟩:∃k,j=k+1:=⟨j-1,by omega⟩;clear hA;rw[show P++(A++ [y]++x::(A2++(M.drop (q+1)++S)))=(P++A)++y::([]++x::(A2++(M.drop (q+1)++S)))by simp]at hs;have hPA:(P++A).length=k:=by rw[List.length_append];omega
     have hkn:k+1<n:=by have:=hs.len;simp only[List.length_append,List.length_cons,List.length_nil]at this hPA;omega
     have hd1:decide ((a:Int)<(k:Int)+1)=true:=by rw[decide_eq_true_iff];omega
     have hz:=hs.at;rw[hPA]at hz;have hs':=hs;rw[show(P++A)++y::([]++x::(A2++(M.drop (q+1)++S)))=(P++(A++ [y]))++x::(A2++(M.drop (q+1)++S))by simp]at hs';have hz':=hs'.at;rw[show(P++(A++ [y])).length=k+1 by simp only[List.length_append,List.length_singleton]at hPA⊢;omega]at hz';obtain⟨y0,y1,y2,y3,y4,y5,y6⟩:=hz;obtain⟨x0,x1,x2,x3,x4,x5,x6⟩:=hz';have HS:=lhd hs;have HPA:=lhd hPA;have HLO:=lhd (show base≤wr.drew.heap.size from Nat.le_of_lt (Nat.lt_of_le_of_lt hs.lo.1 hs.lo.2));have h1:(0:Int)≤(k:Int)+1:=by omega
     have h2:(k:Int)+1<(n:Int):=by omega
     have h3:((k:Int)+1).toNat=k+1:=by omega
     have h4:(0:Int)≤(k:Int):=by omega
     have h5:(k:Int)<(n:Int):=by omega
     have hwk:IntKind.i64.wrap ((k:Int)+1-1)=(k:Int):=by rw[IntWalk.i64_in _ (by omega)];omega
     have hwk2:IntKind.i64.wrap (k:Int)=(k:Int):=IntWalk.i64_in _ (by omega);have HL:=lhd (show a+A.length=k∧a+M.length=b∧q<M.length∧k+1<n∧n≤1000 from⟨by omega,hM,hlt,hkn,hn⟩);clear hs hs' hPA hkn hp hM hlen hzl hQl hj hlt hN hq1 hq2;by_cases hc:vk x<vk y
     ·have HC:=lhd (show decide (vk x<vk y)=true from decide_eq_true hc)
      have HGT2:=lhd (show ∀z∈y::A2,vk x<vk z from fun z hz=>by
       rcases List.mem_cons.1 hz with rfl|hz
       ·exact hc
       ·exact HGT.out z hz)
      clear hc;go_wp2_with fail
      go_region_held3 (fun w'=>w'.cell? ⟨g,(k+1)*7,none⟩=some (.string (bsB x.nm))∧w'.cell? ⟨g,(k+1)*7+1,none⟩=some (.int .i64 x.ty)∧w'.cell? ⟨g,(k+1)*7+2,none⟩=some (.int .i64 x.sc)∧w'.cell? ⟨g,(k+1)*7+3,none⟩=some (.int .i64 x.sg)∧w'.cell? ⟨g,(k+1)*7+4,none⟩=some (.bool x.rg)∧w'.cell? ⟨g,(k+1)*7+5,none⟩=some (.int .i64 x.mb)∧w'.cell? ⟨g,(k+1)*7+6,none⟩=some (.int .i64 x.lb)∧w'.cell? ⟨g,k*7,none⟩=some (.string (bsB y.nm))∧w'.cell? ⟨g,k*7+1,none⟩=some (.int .i64 y.ty)∧w'.cell? ⟨g,k*7+2,none⟩=some (.int .i64 y.sc)∧w'.cell? ⟨g,k*7+3,none⟩=some (.int .i64 y.sg)∧w'.cell? ⟨g,k*7+4,none⟩=some (.bool y.rg)∧w'.cell? ⟨g,k*7+5,none⟩=some (.int .i64 y.mb)∧w'.cell? ⟨g,k*7+6,none⟩=some (.int .i64 y.lb))
       (first|exact⟨x0,x1,x2,x3,x4,x5,x6,y0,y1,y2,y3,y4,y5,y6⟩|exact⟨u0,u1,u2,u3,u4,u5,u6,v0,v1,v2,v3,v4,v5,v6⟩|go_keep)
       (first
         |(go_at_call 57;refine(zm2 x y _).mono ?_;rintro e w2 ⟨z,rfl,hz,hb2⟩;rw[HC.out]at hz;have hs2:=SO.after HS.out.drew hb2;have HS2:=lhd hs2;have HB2:=lhd (HBJ.out.drew.trans (hb2.mono HLO.out));have hqa:=hs2.at;rw[HPA.out]at hqa;have hs3:=hs2;rw[show(P++A)++y::([]++x::(A2++(M.drop (q+1)++S)))=(P++(A++ [y]))++x::(A2++(M.drop (q+1)++S))by simp]at hs3;have hqb:=hs3.at;rw[show(P++(A++ [y])).length=k+1 by have:=HPA.out;simp only[List.length_append,List.length_singleton]at this⊢;omega]at hqb;obtain⟨v0,v1,v2,v3,v4,v5,v6⟩:=hqa;obtain⟨u0,u1,u2,u3,u4,u5,u6⟩:=hqb;clear hb2 hs2 hs3)
         |fail "no arm")
      have hsw:=HS2.out.swap2 (p:=k) (q:=k+1) HPA.out (by rw[HPA.out];rfl);have HSW:=lhd hsw;have hfz:=zjj HS2.out;have hab:¬k+1=k:=by omega
      have hba:¬k=k+1:=by omega
      clear hsw;go_upto_region 6 with fail;go_region
      clear u0 u1 u2 u3 u4 u5 u6 v0 v1 v2 v3 v4 v5 v6 x0 x1 x2 x3 x4 x5 x6 y0 y1 y2 y3 y4 y5 y6 hfz hab hba h1 h2 h3 h4 h5;go_wp2_with fail;go_roundw
      case rel=>
       refine⟨k,A,y::A2,rfl,HL.out.1,by rw[HSP.out];simp,HGT2.out,?_,(HB2.out.trans HSW.out.2).drew⟩;have h9:=HSW.out.1.drew;rw[show(P++A)++x::([]++y::(A2++(M.drop (q+1)++S)))=P++(A++x::((y::A2)++(M.drop (q+1)++S)))by simp]at h9;exact h9
      case measure=>
       have h9:=HL.out.1;simp[intOf];omega
     ·have HC:=lhd (show decide (vk x<vk y)=false from decide_eq_false hc)
      have HF:=lhd (show SO base g n c wr (P++(zfL vk (M.take (q+1))++(M.drop (q+1)++S)))by
       have h9:=HS.out
       rw[HX.out,zfw HQS.out HSP.out HGT.out (fun A' z e=>by
        have e2:=List.append_inj_right' e rfl;injection e2 with e2 _;subst e2;exact hc)]
       rw[show P++(A++ [y]++x::A2++(M.drop (q+1)++S))=(P++A)++y::([]++x::(A2++(M.drop (q+1)++S)))by simp];exact h9)
      clear hc;go_wp2_with fail
      go_region_held3 (fun w'=>w'.cell? ⟨g,(k+1)*7,none⟩=some (.string (bsB x.nm))∧w'.cell? ⟨g,(k+1)*7+1,none⟩=some (.int .i64 x.ty)∧w'.cell? ⟨g,(k+1)*7+2,none⟩=some (.int .i64 x.sc)∧w'.cell? ⟨g,(k+1)*7+3,none⟩=some (.int .i64 x.sg)∧w'.cell? ⟨g,(k+1)*7+4,none⟩=some (.bool x.rg)∧w'.cell? ⟨g,(k+1)*7+5,none⟩=some (.int .i64 x.mb)∧w'.cell? ⟨g,(k+1)*7+6,none⟩=some (.int .i64 x.lb)∧w'.cell? ⟨g,k*7,none⟩=some (.string (bsB y.nm))∧w'.cell? ⟨g,k*7+1,none⟩=some (.int .i64 y.ty)∧w'.cell? ⟨g,k*7+2,none⟩=some (.int .i64 y.sc)∧w'.cell? ⟨g,k*7+3,none⟩=some (.int .i64 y.sg)∧w'.cell? ⟨g,k*7+4,none⟩=some (.bool y.rg)∧w'.cell? ⟨g,k*7+5,none⟩=some (.int .i64 y.mb)∧w'.cell? ⟨g,k*7+6,none⟩=some (.int .i64 y.lb))
       (first|exact⟨x0,x1,x2,x3,x4,x5,x6,y0,y1,y2,y3,y4,y5,y6⟩|exact⟨u0,u1,u2,u3,u4,u5,u6,v0,v1,v2,v3,v4,v5,v6⟩|go_keep)
       (first
         |(go_at_call 57;refine(zm2 x y _).mono ?_;rintro e w2 ⟨z,rfl,hz,hb2⟩;rw[HC.out]at hz;have hs2:=SO.after HS.out.drew hb2;have HS2:=lhd hs2;have HFF:=lhd (SO.after HF.out.drew hb2);have HB2:=lhd (HBJ.out.drew.trans (hb2.mono HLO.out));have hqa:=hs2.at;rw[HPA.out]at hqa;have hs3:=hs2;rw[show(P++A)++y::([]++x::(A2++(M.drop (q+1)++S)))=(P++(A++ [y]))++x::(A2++(M.drop (q+1)++S))by simp]at hs3;have hqb:=hs3.at;rw[show(P++(A++ [y])).length=k+1 by have:=HPA.out;simp only[List.length_append,List.length_singleton]at this⊢;omega]at hqb;obtain⟨v0,v1,v2,v3,v4,v5,v6⟩:=hqa;obtain⟨u0,u1,u2,u3,u4,u5,u6⟩:=hqb;clear hb2 hs2 hs3)
         |fail "no arm")
      clear u0 u1 u2 u3 u4 u5 u6 v0 v1 v2 v3 v4 v5 v6 x0 x1 x2 x3 x4 x5 x6 y0 y1 y2 y3 y4 y5 y6 h1 h2 h3 h4 h5;go_wp2_with fail;go_roundw;case rel=>exact⟨q+1,by simp;omega,by omega,.inl (by have:=HL.out.2.2.1;omega),HFF.out,HB2.out⟩
      case measure=>
       have h9:=HL.out;simp[intOf];omega
  ·have hd0:decide ((a:Int)+(q:Int)<(b:Int))=false:=by rw[decide_eq_false_iff_not];omega
   have HF:=lhd (show SO base g n c wr (P++(zfL vk M++S))by
    rw[List.take_of_length_le (by omega),List.drop_of_length_le (by omega)]at hs;exact hs)
   clear hs;go_wp2_with fail;go_end0
   exact⟨rfl,HF.out,HB.out⟩
theorem zaJ:∀(s:Bs),Lib.containsAny s [92,46,91,93]=s.any fun d=>d==92||d==46||d==91||d==93
 | []=>rfl
 |b::l=>by
  have ih:=zaJ l;unfold Lib.containsAny at ih⊢;rw[List.any_cons,←ih,Lib.indexAny];have hge:=Lib.indexAny_ge [92,46,91,93] l
  have hb: [92,46,91,93].contains b=(b==92||b==46||b==91||b==93):=by
   simp only[List.contains_cons,List.contains_nil,Bool.or_false,Bool.or_assoc]
  rw[hb];cases h:(b==92||b==46||b==91||b==93)
  ·rw[if_neg (by simp),Bool.false_or];by_cases h1:Lib.indexAny l [92,46,91,93]= -1
   ·rw[if_pos (by simp[h1]),h1]
   ·rw[if_neg (by simp[h1])];rw[Bool.eq_iff_iff,decide_eq_true_iff,decide_eq_true_iff];omega
  ·rw[if_pos rfl,Bool.true_or];rfl
theorem zhW (s:ByteArray) (w:World) (hs:s.data.toList.all prn=true) (hm:s.size≤1000):
 Calls Tryz.prog 147 #[.string s,.string ⟨#[92,46,91,93]⟩] w fun e w'=>e=.returned (.bool (s.data.toList.any fun d=>d==92||d==46||d==91||d==93))∧Below w.heap.size w w':=by
 refine(Tryz.strings_ContainsAny_laid s ⟨#[92,46,91,93]⟩ w (by omega) (by decide) ?_ ?_).mono ?_
 ·intro j b hb;have:=List.all_eq_true.1 hs b (List.mem_of_getElem? hb);unfold prn at this;simp at this;omega
 ·intro j b hb;have:b∈([92,46,91,93]:List UInt8):=List.mem_of_getElem? hb;revert this
  simp only[List.mem_cons,List.mem_nil_iff,or_false];rintro(rfl|rfl|rfl|rfl)<;>decide
 ·rintro e w' ⟨rfl,hb⟩;exact⟨by rw[←zaJ],hb⟩
theorem znN {s:ByteArray} (h:s.size≠0):s.toList.isEmpty=false:=by
 rw[ByteArray.toList_eq];have h1:s.data.toList.length=s.size:=by simp
 cases hh:s.data.toList with
 |nil=>rw[hh]at h1;simp at h1;omega
 |cons _ _=>rfl
theorem zn8 (c:UInt8) (n:Nat) (hn:n<256):((c.toNat:Int)==(n:Int))=decide (c=UInt8.ofNat n):=by
 rw[Bool.eq_iff_iff,beq_iff_eq,decide_eq_true_iff];constructor
 ·intro h;have:c.toNat=n:=by omega
  rw[←this,UInt8.ofNat_toNat]
 ·rintro rfl;simp;omega
theorem zhU (s:ByteArray) (w:World) (hm:s.size≤2000000):Calls Tryz.prog 98 #[.string s] w fun e w'=>e=.returned (.bool (zhz s.data.toList))∧Below w.heap.size w w':=by
 have HP:=lhd (zh1 s w (by omega));obtain⟨R,hR⟩:∃R,R=zhz s.data.toList:=⟨_,rfl⟩;rw[←hR];have hls:s.data.toList.length=s.size:=by simp
 by_cases h0:s.size=0
 ·obtain rfl:s=⟨#[]⟩:=by
   have:s.data=#[]:=Array.eq_empty_of_size_eq_zero h0;cases s;simp_all
  have HR:=lhd (show R=false by rw[hR];rfl);have hb1:(⟨#[]⟩:ByteArray).toList.isEmpty=true:=by rw[ByteArray.toList_eq];rfl
  clear hR hls h0 hm HP;go_enter Tryz.func98,Tryz.ntmps98;go_wp2_with fail;go_ret;exact⟨zle HR.out.symm,Below.refl _ _⟩
 have hb1:=znN h0;by_cases h32:32<s.size
 ·have HR:=lhd (show R=false by
   rw[hR];unfold zhz;rw[decide_eq_false (show ¬s.data.toList.length≤32 by omega)];simp)
  have hb2:decide ((32:Int)<(s.size:Int))=true:=by rw[decide_eq_true_iff];omega
  clear hR hls h0 h32 HP;go_enter Tryz.func98,Tryz.ntmps98;go_wp2_with fail;go_ret;exact⟨zle HR.out.symm,Below.refl _ _⟩
 have hb2:decide ((32:Int)<(s.size:Int))=false:=by rw[decide_eq_false_iff_not];omega
 cases hp:s.data.toList.all prn
 ·have HR:=lhd (show R=false by
   rw[hR];unfold zhz;rw[hp];simp)
  rw[hp]at HP;clear hR hls h0 h32 hp;go_enter Tryz.func98,Tryz.ntmps98;go_wp2_with fail;refine HP.out.mono ?_;rintro e w1 ⟨rfl,rfl⟩;go_wp2_with fail;go_ret;exact⟨zle HR.out.symm,Below.refl _ _⟩
 rw[hp]at HP
 obtain⟨c,t,hct⟩:∃c t,s.data.toList=c::t:=by
  cases hh:s.data.toList with
  |nil=>rw[hh]at hls;simp at hls;omega
  |cons c t=>exact⟨c,t,rfl⟩
 have hR2:R=if c=92 then decide (2≤s.size)else decide (c≠36)&&!s.data.toList.any fun d=>d==92||d==46||d==91||d==93:=by
  rw[hR];unfold zhz;rw[hp,decide_eq_true (show s.data.toList≠ []by rw[hct];simp),decide_eq_true (show s.data.toList.length≤32 by omega)];rw[hct];have hl2:(c::t).length=s.size:=by rw[←hct];exact hls
  rw[hl2];simp only[Bool.true_and]
 have hcix:∀h:0<s.size,s[0]'h=c:=fun h=>by
  have:s[0]=s.data.toList[0]'(by simpa using h):=by simp;rfl
  rw[this];simp[hct]
 have h00:0<s.size:=by omega
 have HA:=lhd (fun W=>zhW s W hp (by omega));have e92:=zn8 c 92 (by decide);have e36:=zn8 c 36 (by decide);clear hR hct;by_cases h92:c=92
 ·have b3:((c.toNat:Int)==92)=true:=by rw[show(92:Int)=((92:Nat):Int)from rfl,e92];simp[h92]
  have HR:=lhd (show R=decide (2≤s.size)by rw[hR2,if_pos h92]);clear hR2 hls h0 h32 hp e92 e36 HA h92;by_cases h2:2≤s.size
  ·have b4:decide ((2:Int)≤(s.size:Int))=true:=by rw[decide_eq_true_iff];omega
   have HR3:=lhd (show R=true by rw[HR.out,decide_eq_true h2]);clear h2;go_enter Tryz.func98,Tryz.ntmps98;go_wp2_with fail;refine HP.out.mono ?_;rintro e w1 ⟨rfl,rfl⟩;go_wp2_with fail;go_ret;exact⟨zle HR3.out.symm,Below.refl _ _⟩
  ·have b4:decide ((2:Int)≤(s.size:Int))=false:=by rw[decide_eq_false_iff_not];omega
   have HR3:=lhd (show R=false by rw[HR.out,decide_eq_false h2]);clear h2;go_enter Tryz.func98,Tryz.ntmps98;go_wp2_with fail;refine HP.out.mono ?_;rintro e w1 ⟨rfl,rfl⟩;go_wp2_with fail;go_ret;exact⟨zle HR3.out.symm,Below.refl _ _⟩
 ·have b3:((c.toNat:Int)==92)=false:=by rw[show(92:Int)=((92:Nat):Int)from rfl,e92];simpa using h92
  rw[if_neg h92]at hR2;by_cases h36:c=36
  ·have b4:((c.toNat:Int)==36)=true:=by rw[show(36:Int)=((36:Nat):Int)from rfl,e36];simp[h36]
   have b5:((c.toNat:Int) !=36)=false:=by rw[bne,b4];rfl
   have HR:=lhd (show R=false by rw[hR2,h36];rfl);clear hR2 hls h0 h32 hp e92 e36 HA h92 h36;go_enter Tryz.func98,Tryz.ntmps98;go_wp2_with fail;refine HP.out.mono ?_;rintro e w1 ⟨rfl,rfl⟩;go_wp2_with fail;go_ret;exact⟨zle HR.out.symm,Below.refl _ _⟩
  ·have b4:((c.toNat:Int)==36)=false:=by rw[show(36:Int)=((36:Nat):Int)from rfl,e36];simpa using h36
   have b5:((c.toNat:Int) !=36)=true:=by rw[bne,b4];rfl
   rw[decide_eq_true h36,Bool.true_and]at hR2;have HR:=lhd hR2;generalize (s.data.toList.any fun d=>d==92||d==46||d==91||d==93)=q at HA HR;clear hR2 hls h0 h32 hp e92 e36 h92 h36;go_enter Tryz.func98,Tryz.ntmps98;go_wp2_with fail;refine HP.out.mono ?_;rintro e w1 ⟨rfl,rfl⟩;go_wp2_with fail;refine(HA.out _).mono ?_;rintro e w1 ⟨rfl,hb⟩;go_wp2_with fail;go_ret;exact⟨zle HR.out.symm,hb⟩
end Go.Proofs.YtcdekelomkcahaaGreatDoor
