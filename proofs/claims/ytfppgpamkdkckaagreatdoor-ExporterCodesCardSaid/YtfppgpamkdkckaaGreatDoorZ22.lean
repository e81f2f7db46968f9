import Derived.Test.YtfppgpamkdkckaaGreatDoorZ00
import Derived.Test.YtfppgpamkdkckaaGreatDoorZ14
import Derived.Test.YtfppgpamkdkckaaGreatDoorZ21
set_option maxRecDepth 100000
set_option maxHeartbeats 16000000
namespace Go.Proofs.YtfppgpamkdkckaaGreatDoor
open Go.RowKit
set_option linter.unusedSimpArgs false
def zaz (base g c q:Nat):Prop:=∀(n a m b:Nat) (P A B S:List Vr) (w:World),A.length+B.length≤q→SO base g n c w (P++(A++(B++S)))→P.length=a→a+A.length=m→m+B.length=b→0<A.length→0<B.length→Srt vk A→Srt vk B→n≤1000→
 Calls Tryz.prog 306 #[.slice (some ⟨g,0,none⟩) n c,.int .i64 a,.int .i64 m,.int .i64 b,(.func (.func 208) #[] #[])] w fun e w'=>
  e=.returned (.tuple #[])∧SO base g n c w' (P++(mrg vk A B++S))∧Below base w w'
theorem zqe {a m b d:Nat} (hd:(a+b)/2=d) (h1:a+2≤m) (h2:m+2≤b):
 ∃s0 r0,a≤s0∧s0≤r0∧r0≤m∧r0≤d∧d≤s0+(b-m)∧(s0=a∨d=s0+(b-m))∧(r0=m∨r0=d)∧(d<m→s0=d+m-b∧r0=d)∧(¬d<m→s0=a∧r0=m):=by
 by_cases h:d<m
 ·exact⟨d+m-b,d,by omega,by omega,by omega,by omega,by omega,Or.inr (by omega),Or.inr rfl,fun _=>⟨rfl,rfl⟩,fun h'=>absurd h h'⟩
 ·exact⟨a,m,by omega,by omega,by omega,by omega,by omega,Or.inl rfl,Or.inl rfl,fun h'=>absurd h' h,fun _=>⟨rfl,rfl⟩⟩
theorem zaI {x y:Nat} (hx:x+y≤1000000):IntKind.i64.wrap ((x:Int)+(y:Int))=((x+y:Nat):Int):=by rw[IntWalk.i64_in _ (by omega)];omega
theorem zpv (base g c n s m en:Nat) (P X1 X2 Y1 Y2 S:List Vr) (w:World) (hg:SO base g n c w (P++(X1++(X2++(Y1++(Y2++S)))))) (hp:P.length+X1.length=s) (hA:s+X2.length=m) (hB:m+Y1.length=en) (h0:0<X2.length) (h1:0<Y1.length) (hn:n≤1000):
 Calls Tryz.prog 333 #[.slice (some ⟨g,0,none⟩) n c,.int .i64 s,.int .i64 m,.int .i64 en,(.func (.func 208) #[] #[])] w fun e w'=>
  e=.returned (.tuple #[])∧SO base g n c w' (P++(X1++(Y1++(X2++(Y2++S)))))∧Below base w w':=by
 have h6:=hg.len;have h5:=zpw base g c s m en (P++(X1++(X2++(Y1++(Y2++S))))) (P++X1) X2 Y1 (Y2++S) w (by rw[h6];exact hg) (by rw[List.append_assoc]) (by rw[List.length_append];exact hp) hA hB h0 h1 (by rw[h6];exact hn);rw[h6,List.append_assoc]at h5;exact h5
theorem znq {P X1 X2 Y1 Y2 S:List Vr} {s m en:Nat} (h8:¬(s<m∧m<en)) (h1:s+X2.length=m) (h2:m+Y1.length=en):P++(X1++(Y1++(X2++(Y2++S))))=P++(X1++(X2++(Y1++(Y2++S)))):=by
 by_cases k1:s<m
 ·obtain rfl:Y1=[]:=List.length_eq_zero_iff.1 (by omega);rfl
 ·obtain rfl:X2=[]:=List.length_eq_zero_iff.1 (by omega);rfl
theorem zi2 {X Y:List Vr} {a s d:Nat} (h:¬(a<s∧s<d)) (h1:a+X.length=s) (h2:s+Y.length=d) (hs:Srt vk X):mrg vk X Y=X++Y:=by
 by_cases k:a<s
 ·obtain rfl:Y=[]:=List.length_eq_zero_iff.1 (by omega);rw[zi9 hs,List.append_nil]
 ·obtain rfl:X=[]:=List.length_eq_zero_iff.1 (by omega);rfl
theorem zpD (base g c q n a m b:Nat) (P A B S:List Vr) (w:World) (IH:zaz base g c q) (hq:A.length+B.length≤q+1) (hg:SO base g n c w (P++(A++(B++S)))) (hp:P.length=a) (hA:a+A.length=m) (hB:m+B.length=b)
 (h2A:2≤A.length) (h2B:2≤B.length) (hsA:Srt vk A) (hsB:Srt vk B) (hn:n≤1000):
 Calls Tryz.prog 306 #[.slice (some ⟨g,0,none⟩) n c,.int .i64 a,.int .i64 m,.int .i64 b,(.func (.func 208) #[] #[])] w fun e w'=>
  e=.returned (.tuple #[])∧SO base g n c w' (P++(mrg vk A B++S))∧Below base w w':=by
 have H0:=lhd hg;have hlen:n=b+S.length:=by have:=hg.len;simp only[List.length_append]at this;omega
 have HL:=lhd (show P.length=a∧a+A.length=m∧m+B.length=b∧n=b+S.length∧n≤1000∧2≤A.length∧2≤B.length∧A.length+B.length≤q+1 from⟨hp,hA,hB,hlen,hn,h2A,h2B,hq⟩);have HSA:=lhd hsA;have HSB:=lhd hsB;have HI:=lhd IH;obtain⟨d,hd⟩:∃d,(a+b)/2=d:=⟨_,rfl⟩;obtain⟨s0,r0,f1,f2,f3,f4,f5,f6,f7,f8,f9⟩:=zqe hd (show a+2≤m by omega) (show m+2≤b by omega);have HF:=lhd (show(a+b)/2=d∧a≤s0∧s0≤r0∧r0≤m∧r0≤d∧d≤s0+(b-m)∧(s0=a∨d=s0+(b-m))∧(r0=m∨r0=d)from⟨hd,f1,f2,f3,f4,f5,f6,f7⟩);have HC1:=lhd f8;have HC2:=lhd f9;obtain⟨nn,hnn⟩:∃nn,d+m=nn:=⟨_,rfl⟩;obtain⟨p,hpp⟩:∃p,nn=p+1:=⟨nn-1,by omega⟩;have HN:=lhd (show d+m=nn∧nn=p+1∧d≤1000∧m≤1000∧b≤1000 from⟨hnn,hpp,by omega,by omega,by omega⟩);have MID:=lhd (ziT (i:=a) (j:=b) (h:=d) (by omega) (by omega) hd);obtain⟨q1,w1⟩:∃q1:Int,IntKind.i64.wrap ((m:Int)-(a:Int))=q1:=⟨_,rfl⟩;obtain⟨q2,w2⟩:∃q2:Int,IntKind.i64.wrap ((b:Int)-(m:Int))=q2:=⟨_,rfl⟩;have w1n:(q1==1)=false:=by rw[beq_eq_false_iff_ne,←w1,IntWalk.i64_in _ (by omega)];omega
 have w2n:(q2==1)=false:=by rw[beq_eq_false_iff_ne,←w2,IntWalk.i64_in _ (by omega)];omega
 have w3:IntKind.i64.wrap ((d:Int)+(m:Int))=(nn:Int):=by rw[←hnn];exact zaI (by omega)
 have w4:IntKind.i64.wrap ((nn:Int)-1)=(p:Int):=by rw[IntWalk.i64_in _ (by omega)];omega
 clear IH hg hp hA hB h2A h2B hsA hsB hn hq hlen f1 f2 f3 f4 f5 f6 f7 f8 f9 hd hnn hpp;go_enter Tryz.func306,Tryz.ntmps306;obtain⟨m1,m2,m3,m4,m5⟩:=MID.out;clear m5;go_upto_region 24 with fail;clear w1 w2 w1n w2n;go_cut [18]from 129 to 134 (fun u wc=>u=.int .i64 d∧wc=w)
 case first=>
  go_wp2_with fail;go_meet
  case rel=>exact⟨by rw[MID.out.2.2.2.1],rfl⟩
 clear m1 m2 m3 m4;obtain⟨rfl,hcw⟩:=hcut;obtain rfl:w=wc:=hcw.symm;go_upto_if 140 with fail
 clear w3;go_cut [20,21]from 138 to 146 (fun u v wc=>u=.int .i64 s0∧v=.int .i64 r0∧wc=w)
 case first=>
  by_cases hdm:d<m
  ·have h8:=HC1.out hdm
   have w5:IntKind.i64.wrap ((nn:Int)-(b:Int))=(s0:Int):=by
    have h9:=HN.out;have h7:=HF.out;rw[IntWalk.i64_in _ (by omega)];omega
   obtain⟨-,h8⟩:=h8;clear w4;go_wp2_with fail;go_meet
   case rel=>exact⟨rfl,by rw[h8],rfl⟩
  ·obtain⟨h8,h9⟩:=HC2.out hdm;clear w4;go_wp2_with fail;go_meet
   case rel=>exact⟨by rw[h8],by rw[h9],rfl⟩
 case rest=>
  obtain⟨rfl,rfl,hcw⟩:=hcut;obtain rfl:w=wc:=hcw.symm;go_wp2_with fail;clear w4;go_loopw [20,21] (fun vs vr wr=>∃s r:Nat,vs=.int .i64 s∧vr=.int .i64 r∧s0≤s∧s≤r∧r≤r0∧(∀i u (hi:i<A.length) (hu:u<B.length),s0≤a+i→a+i<s→a+i+u+1=d→vk A[i]≤vk B[u])∧(∀i u (hi:i<A.length) (hu:u<B.length),r≤a+i→a+i<r0→a+i+u+1=d→vk B[u]<vk A[i])∧SO base g n c wr (P++(A++(B++S)))∧Below base w wr) (fun vs vr _=>(intOf vr).toNat-(intOf vs).toNat)
  case atStart=>
   have h9:=HF.out;exact⟨s0,r0,rfl,rfl,Nat.le_refl _,by omega,Nat.le_refl _,fun i u _ _ h1 h2 _=>by omega,fun i u _ _ h1 h2 _=>by omega,H0.out,Below.refl _ _⟩
  case round=>
   obtain⟨s,r,rfl,rfl,h1,h2,h3,hlt1,hge1,hs,hbw⟩:=hrel;have HB:=lhd hbw;have HS:=lhd hs;have H1:=lhd hlt1;have H2:=lhd hge1;clear hbw hs hlt1 hge1;by_cases hsr:s<r
   ·obtain⟨h,hh⟩:∃h,(s+r)/2=h:=⟨_,rfl⟩;have hL:=HL.out;have hF:=HF.out;have hN:=HN.out;have MD:=lhd (ziT (i:=s) (j:=r) (h:=h) (by omega) (by omega) hh);have hhi:s≤h∧h<r:=by omega
    obtain⟨i0,hi0⟩:∃i0,a+i0=h:=⟨h-a,by omega⟩;obtain⟨u0,hu0⟩:∃u0,h+u0+1=d:=⟨d-1-h,by omega⟩;obtain⟨pc,hpc⟩:∃pc,m+u0=pc:=⟨_,rfl⟩;have hiA:i0<A.length:=by omega
    have huB:u0<B.length:=by omega
    have W6:=lhd (show IntKind.i64.wrap ((p:Int)-(h:Int))=(pc:Int)by rw[IntWalk.i64_in _ (by omega)];omega);have hAA:A=A.take i0++A[i0]::A.drop (i0+1):=by rw[←List.drop_eq_getElem_cons hiA,List.take_append_drop]
    have hBB:B=B.take u0++B[u0]::B.drop (u0+1):=by rw[←List.drop_eq_getElem_cons huB,List.take_append_drop]
    have HCM:=lhd (fun(hc:¬vk B[u0]<vk A[i0]) i u (hi:i<A.length) (hu:u<B.length) (k1:s0≤a+i) (k2:a+i<h+1) (k3:a+i+u+1=d)=>(show vk A[i]≤vk B[u]from Int.le_trans (zpq HSA.out (show i≤i0 by omega) hiA) (Int.le_trans (Int.not_lt.1 hc) (zpq HSB.out (show u0≤u by omega) hu))));have HCN:=lhd (fun(hc:vk B[u0]<vk A[i0]) i u (hi:i<A.length) (hu:u<B.length) (k1:h≤a+i) (k2:a+i<r0) (k3:a+i+u+1=d)=>(show vk B[u]<vk A[i]from Int.lt_of_le_of_lt (zpq HSB.out (show u≤u0 by omega) huB) (Int.lt_of_lt_of_le hc (zpq HSA.out (show i0≤i by omega) hi))))
    have e1:P++(A++(B++S))=(P++A.take i0)++A[i0]::(A.drop (i0+1)++(B++S)):=by
     conv=>lhs;rw[hAA]
     simp only[List.append_assoc,List.cons_append]
    have e2:P++(A++(B++S))=(P++(A++B.take u0))++B[u0]::(B.drop (u0+1)++S):=by
     conv=>lhs;rw[hBB]
     simp only[List.append_assoc,List.cons_append]
    have hz:=(show SO base g n c wr ((P++(A++B.take u0))++B[u0]::(B.drop (u0+1)++S))from e2▸HS.out).at;rw[show(P++(A++B.take u0)).length=pc by rw[List.length_append,List.length_append,List.length_take];omega]at hz;have hz2:=(show SO base g n c wr ((P++A.take i0)++A[i0]::(A.drop (i0+1)++(B++S)))from e1▸HS.out).at;rw[show(P++A.take i0).length=h by rw[List.length_append,List.length_take];omega]at hz2;have n1:(0:Int)≤(h:Int):=by omega
    have n2:(h:Int)<(n:Int):=by omega
    have n3:(0:Int)≤(pc:Int):=by omega
    have n4:(pc:Int)<(n:Int):=by omega
    have HLO:=lhd (show base≤wr.drew.heap.size from Nat.le_of_lt (Nat.lt_of_le_of_lt HS.out.lo.1 HS.out.lo.2));have HX:=lhd (show s0≤s∧s≤h∧h<r∧r≤r0 from⟨h1,hhi.1,hhi.2,h3⟩);generalize A[i0]=z at hz2 HCM HCN;generalize B[u0]=y at hz HCM HCN;obtain⟨y0,y1,y2,y3,y4,y5,y6⟩:=hz;obtain⟨z0,z1,z2,z3,z4,z5,z6⟩:=hz2;clear hL hF hN hAA hBB e1 e2 hiA huB hhi hh hi0 hu0 hpc h1 h2 h3;by_cases hc:vk y<vk z
    ·have HC:=lhd (show decide (vk y<vk z)=true from decide_eq_true hc);have HM:=lhd (HCN.out hc);obtain⟨m1,m2,m3,m4,m5⟩:=MD.out;have w6:=W6.out;clear hc;go_wp2_with fail;clear m1 m2 m3 m4
     go_region_held3 (fun w'=>w'.cell? ⟨g,pc*7,none⟩=some (.string (bsB y.nm))∧w'.cell? ⟨g,pc*7+1,none⟩=some (.int .i64 y.ty)∧w'.cell? ⟨g,pc*7+2,none⟩=some (.int .i64 y.sc)∧w'.cell? ⟨g,pc*7+3,none⟩=some (.int .i64 y.sg)∧w'.cell? ⟨g,pc*7+4,none⟩=some (.bool y.rg)∧w'.cell? ⟨g,pc*7+5,none⟩=some (.int .i64 y.mb)∧w'.cell? ⟨g,pc*7+6,none⟩=some (.int .i64 y.lb)∧w'.cell? ⟨g,h*7,none⟩=some (.string (bsB z.nm))∧w'.cell? ⟨g,h*7+1,none⟩=some (.int .i64 z.ty)∧w'.cell? ⟨g,h*7+2,none⟩=some (.int .i64 z.sc)∧w'.cell? ⟨g,h*7+3,none⟩=some (.int .i64 z.sg)∧w'.cell? ⟨g,h*7+4,none⟩=some (.bool z.rg)∧w'.cell? ⟨g,h*7+5,none⟩=some (.int .i64 z.mb)∧w'.cell? ⟨g,h*7+6,none⟩=some (.int .i64 z.lb))
      (first|exact⟨y0,y1,y2,y3,y4,y5,y6,z0,z1,z2,z3,z4,z5,z6⟩|exact⟨u0,u1,u2,u3,u4,u5,u6,v0,v1,v2,v3,v4,v5,v6⟩|go_keep)
      (first
        |(go_at_call 208;refine(zpr y z _).mono ?_;rintro e w2 ⟨rz,rfl,hz,hb2⟩;rw[HC.out]at hz;have hs2:=SO.after HS.out.drew hb2;have HS2:=lhd hs2;have HB2:=lhd (HB.out.drew.trans (hb2.mono HLO.out));obtain⟨u0,u1,u2,u3,u4,u5,u6⟩:=(⟨(hb2.cell (p:=⟨g,pc*7,none⟩) (zbU (show wr.drew.cell? _=some _ from y0))).trans y0,(hb2.cell (p:=⟨g,pc*7+1,none⟩) (zbU (show wr.drew.cell? _=some _ from y1))).trans y1,(hb2.cell (p:=⟨g,pc*7+2,none⟩) (zbU (show wr.drew.cell? _=some _ from y2))).trans y2,(hb2.cell (p:=⟨g,pc*7+3,none⟩) (zbU (show wr.drew.cell? _=some _ from y3))).trans y3,(hb2.cell (p:=⟨g,pc*7+4,none⟩) (zbU (show wr.drew.cell? _=some _ from y4))).trans y4,(hb2.cell (p:=⟨g,pc*7+5,none⟩) (zbU (show wr.drew.cell? _=some _ from y5))).trans y5,(hb2.cell (p:=⟨g,pc*7+6,none⟩) (zbU (show wr.drew.cell? _=some _ from y6))).trans y6⟩:_∧_∧_∧_∧_∧_∧_);obtain⟨v0,v1,v2,v3,v4,v5,v6⟩:=(⟨(hb2.cell (p:=⟨g,h*7,none⟩) (zbU (show wr.drew.cell? _=some _ from z0))).trans z0,(hb2.cell (p:=⟨g,h*7+1,none⟩) (zbU (show wr.drew.cell? _=some _ from z1))).trans z1,(hb2.cell (p:=⟨g,h*7+2,none⟩) (zbU (show wr.drew.cell? _=some _ from z2))).trans z2,(hb2.cell (p:=⟨g,h*7+3,none⟩) (zbU (show wr.drew.cell? _=some _ from z3))).trans z3,(hb2.cell (p:=⟨g,h*7+4,none⟩) (zbU (show wr.drew.cell? _=some _ from z4))).trans z4,(hb2.cell (p:=⟨g,h*7+5,none⟩) (zbU (show wr.drew.cell? _=some _ from z5))).trans z5,(hb2.cell (p:=⟨g,h*7+6,none⟩) (zbU (show wr.drew.cell? _=some _ from z6))).trans z6⟩:_∧_∧_∧_∧_∧_∧_);clear hb2 hs2)
        |fail "no arm")
     go_wp2_with fail;clear m5 w6;go_roundw
     case rel=>
      have h9:=HX.out;exact⟨s,h,rfl,rfl,by omega,by omega,by omega,H1.out,HM.out,HS2.out,HB2.out⟩
     case measure=>
      have h9:=HX.out;simp[intOf];omega
    ·have HC:=lhd (show decide (vk y<vk z)=false from decide_eq_false hc);have HM:=lhd (HCM.out hc);obtain⟨m1,m2,m3,m4,m5⟩:=MD.out;have w6:=W6.out;clear hc;go_wp2_with fail;clear m1 m2 m3 m4
     go_region_held3 (fun w'=>w'.cell? ⟨g,pc*7,none⟩=some (.string (bsB y.nm))∧w'.cell? ⟨g,pc*7+1,none⟩=some (.int .i64 y.ty)∧w'.cell? ⟨g,pc*7+2,none⟩=some (.int .i64 y.sc)∧w'.cell? ⟨g,pc*7+3,none⟩=some (.int .i64 y.sg)∧w'.cell? ⟨g,pc*7+4,none⟩=some (.bool y.rg)∧w'.cell? ⟨g,pc*7+5,none⟩=some (.int .i64 y.mb)∧w'.cell? ⟨g,pc*7+6,none⟩=some (.int .i64 y.lb)∧w'.cell? ⟨g,h*7,none⟩=some (.string (bsB z.nm))∧w'.cell? ⟨g,h*7+1,none⟩=some (.int .i64 z.ty)∧w'.cell? ⟨g,h*7+2,none⟩=some (.int .i64 z.sc)∧w'.cell? ⟨g,h*7+3,none⟩=some (.int .i64 z.sg)∧w'.cell? ⟨g,h*7+4,none⟩=some (.bool z.rg)∧w'.cell? ⟨g,h*7+5,none⟩=some (.int .i64 z.mb)∧w'.cell? ⟨g,h*7+6,none⟩=some (.int .i64 z.lb))
      (first|exact⟨y0,y1,y2,y3,y4,y5,y6,z0,z1,z2,z3,z4,z5,z6⟩|exact⟨u0,u1,u2,u3,u4,u5,u6,v0,v1,v2,v3,v4,v5,v6⟩|go_keep)
      (first
        |(go_at_call 208;refine(zpr y z _).mono ?_;rintro e w2 ⟨rz,rfl,hz,hb2⟩;rw[HC.out]at hz;have hs2:=SO.after HS.out.drew hb2;have HS2:=lhd hs2;have HB2:=lhd (HB.out.drew.trans (hb2.mono HLO.out));obtain⟨u0,u1,u2,u3,u4,u5,u6⟩:=(⟨(hb2.cell (p:=⟨g,pc*7,none⟩) (zbU (show wr.drew.cell? _=some _ from y0))).trans y0,(hb2.cell (p:=⟨g,pc*7+1,none⟩) (zbU (show wr.drew.cell? _=some _ from y1))).trans y1,(hb2.cell (p:=⟨g,pc*7+2,none⟩) (zbU (show wr.drew.cell? _=some _ from y2))).trans y2,(hb2.cell (p:=⟨g,pc*7+3,none⟩) (zbU (show wr.drew.cell? _=some _ from y3))).trans y3,(hb2.cell (p:=⟨g,pc*7+4,none⟩) (zbU (show wr.drew.cell? _=some _ from y4))).trans y4,(hb2.cell (p:=⟨g,pc*7+5,none⟩) (zbU (show wr.drew.cell? _=some _ from y5))).trans y5,(hb2.cell (p:=⟨g,pc*7+6,none⟩) (zbU (show wr.drew.cell? _=some _ from y6))).trans y6⟩:_∧_∧_∧_∧_∧_∧_);obtain⟨v0,v1,v2,v3,v4,v5,v6⟩:=(⟨(hb2.cell (p:=⟨g,h*7,none⟩) (zbU (show wr.drew.cell? _=some _ from z0))).trans z0,(hb2.cell (p:=⟨g,h*7+1,none⟩) (zbU (show wr.drew.cell? _=some _ from z1))).trans z1,(hb2.cell (p:=⟨g,h*7+2,none⟩) (zbU (show wr.drew.cell? _=some _ from z2))).trans z2,(hb2.cell (p:=⟨g,h*7+3,none⟩) (zbU (show wr.drew.cell? _=some _ from z3))).trans z3,(hb2.cell (p:=⟨g,h*7+4,none⟩) (zbU (show wr.drew.cell? _=some _ from z4))).trans z4,(hb2.cell (p:=⟨g,h*7+5,none⟩) (zbU (show wr.drew.cell? _=some _ from z5))).trans z5,(hb2.cell (p:=⟨g,h*7+6,none⟩) (zbU (show wr.drew.cell? _=some _ from z6))).trans z6⟩:_∧_∧_∧_∧_∧_∧_);clear hb2 hs2)
        |fail "no arm")
     go_wp2_with fail;clear m5 w6;go_roundw
     case rel=>
      have h9:=HX.out;exact⟨h+1,r,by simp,rfl,by omega,by omega,by omega,HM.out,H2.out,HS2.out,HB2.out⟩
     case measure=>
      have h9:=HX.out;simp[intOf];omega
   ·obtain rfl:s=r:=by omega
    have hL:=HL.out;have hF:=HF.out;have hN:=HN.out
    obtain⟨X1,X2,Y1,Y2,eA,eB,l1,l2⟩:∃X1 X2 Y1 Y2:List Vr,A=X1++X2∧B=Y1++Y2∧X1.length=s-a∧Y1.length=d-s:=
     ⟨A.take (s-a),A.drop (s-a),B.take (d-s),B.drop (d-s),(List.take_append_drop _ _).symm,(List.take_append_drop _ _).symm,by rw[List.length_take];omega,by rw[List.length_take];omega⟩
    have HM:=lhd (show mrg vk A B=mrg vk X1 Y1++mrg vk X2 Y2 by
     have h8:=zqf (k:=vk) HSA.out HSB.out (s:=s-a) (e:=d-s) (by omega) (by omega)
      (fun k1 k2=>H1.out _ _ (by omega) (by omega) (by omega) (by omega) (by omega))
      (fun k1 k2=>H2.out _ _ (by omega) (by omega) (by omega) (by omega) (by omega))
     rw[h8,eA,eB,List.take_left' l1,List.drop_left' l1,List.take_left' l2,List.drop_left' l2])
    have sA:=HSA.out;have sB:=HSB.out;rw[eA]at sA;rw[eB]at sB;have HSX:=lhd (List.pairwise_append.1 sA);have HSY:=lhd (List.pairwise_append.1 sB)
    have HG:=lhd (show SO base g n c wr (P++(X1++(X2++(Y1++(Y2++S)))))by
     have:=HS.out;rw[eA,eB]at this;simpa using this)
    have lA:A.length=X1.length+X2.length:=by rw[eA,List.length_append]
    have lB:B.length=Y1.length+Y2.length:=by rw[eB,List.length_append]
    obtain⟨en,hen⟩:∃en,m+Y1.length=en:=⟨_,rfl⟩;have HP:=lhd (show P.length=a∧a+X1.length=s∧s+X2.length=m∧m+Y1.length=en∧en+Y2.length=b∧s+Y1.length=d∧d+X2.length=en∧n≤1000∧X1.length+Y1.length≤q∧X2.length+Y2.length≤q from⟨hL.1,by omega,by omega,hen,by omega,by omega,by omega,by omega,by omega,by omega⟩);have w7:IntKind.i64.wrap ((nn:Int)-(s:Int))=(en:Int):=by rw[IntWalk.i64_in _ (by omega)];omega
    clear hL hF hN eA eB l1 l2 sA sB lA lB hen h1 h2 h3 H1 H2 HS hsr;go_upto_region 39 with fail;clear w7;go_cut [185]from 178 to 185 (fun u wd=>u=.bool (decide (s<m∧m<en))∧wd=wr)
    case first=>
     by_cases q1:s<m
     ·by_cases q2:m<en
      ·go_wp2_with fail;go_meet
       case rel=>exact⟨by simp[q1,q2],rfl⟩
      ·go_wp2_with fail;go_meet
       case rel=>exact⟨by simp[q1,q2],rfl⟩
     ·go_wp2_with fail;go_meet
      case rel=>exact⟨by simp[q1],rfl⟩
    case rest=>
     obtain⟨rfl,hcw⟩:=hcut;obtain rfl:wr=wc:=hcw.symm;obtain⟨T,hT⟩:∃T,decide (s<m∧m<en)=T:=⟨_,rfl⟩;rw[hT];have HT:=lhd hT;clear hT;go_upto_if 185 with fail
     go_cut []from 186 to 191 (fun wd=>SO base g n c wd (P++(X1++(Y1++(X2++(Y2++S)))))∧Below base w wd)
     case first=>
      cases T
      ·have h9:=HP.out;have HE:=lhd (znq (P:=P) (X1:=X1) (Y2:=Y2) (S:=S) (of_decide_eq_false HT.out) h9.2.2.1 h9.2.2.2.1);clear h9;go_wp2_with fail;go_meet
       case rel=>exact⟨by rw[HE.out];exact HG.out,HB.out⟩
      ·have h8:=of_decide_eq_true HT.out;have h9:=HP.out;have HR:=lhd (zpv base g c n s m en P X1 X2 Y1 Y2 S wr HG.out (by omega) (by omega) (by omega) (by omega) (by omega) (by omega));clear h8 h9;go_wp2_with fail;refine HR.out.mono ?_;rintro e w1 ⟨rfl,hs1,hb1⟩;have HS1:=lhd hs1;have HB1:=lhd (HB.out.trans hb1);clear hs1 hb1;go_wp2_with fail;go_meet
       case rel=>exact⟨HS1.out,HB1.out⟩
     case rest=>
      obtain⟨hs2,hb2⟩:=hcut;obtain⟨wd,rfl⟩:∃wd,wd=wc:=⟨_,rfl⟩;have HG2:=lhd hs2;have HB2:=lhd hb2;clear hs2 hb2 HG HB;go_upto_region 41 with fail;go_cut [199]from 192 to 199 (fun u we=>u=.bool (decide (a<s∧s<d))∧we=wd)
      case first=>
       by_cases q1:a<s
       ·by_cases q2:s<d
        ·go_wp2_with fail;go_meet
         case rel=>exact⟨by simp[q1,q2],rfl⟩
        ·go_wp2_with fail;go_meet
         case rel=>exact⟨by simp[q1,q2],rfl⟩
       ·go_wp2_with fail;go_meet
        case rel=>exact⟨by simp[q1],rfl⟩
      case rest=>
       obtain⟨rfl,hcw⟩:=hcut;obtain rfl:wd=wc:=hcw.symm;obtain⟨T,hT⟩:∃T,decide (a<s∧s<d)=T:=⟨_,rfl⟩;rw[hT];have HT:=lhd hT;clear hT;go_upto_if 199 with fail
       go_cut []from 200 to 205 (fun we=>SO base g n c we ((P++mrg vk X1 Y1)++(X2++(Y2++S)))∧Below base w we)
       case first=>
        have h9:=HP.out;cases T
        ·have HE:=lhd (zi2 (of_decide_eq_false HT.out) h9.2.1 h9.2.2.2.2.2.1 HSX.out.1);clear h9;go_wp2_with fail;go_meet
         case rel=>exact⟨by rw[HE.out];simpa using HG2.out,HB2.out⟩
        ·have h8:=of_decide_eq_true HT.out;have HR:=lhd (HI.out n a s d P X1 Y1 (X2++(Y2++S)) wd (by omega) HG2.out h9.1 h9.2.1 h9.2.2.2.2.2.1 (by omega) (by omega) HSX.out.1 HSY.out.1 (by omega));clear h8 h9;go_wp2_with fail;refine HR.out.mono ?_;rintro e w1 ⟨rfl,hs1,hb1⟩;have HS1:=lhd hs1;have HB1:=lhd (HB2.out.trans hb1);clear hs1 hb1;go_wp2_with fail;go_meet
         case rel=>exact⟨by simpa using HS1.out,HB1.out⟩
       case rest=>
        obtain⟨hs3,hb3⟩:=hcut;obtain⟨we,rfl⟩:∃we,we=wc:=⟨_,rfl⟩;have HG3:=lhd hs3;have HB3:=lhd hb3;clear hs3 hb3 HG2 HB2 HT;by_cases q1:d<en∧en<b
        ·have h9:=HP.out;have hlm:=zi6 (k:=vk) Y1 X1;have HR:=lhd (HI.out n d en b (P++mrg vk X1 Y1) X2 Y2 S we (by omega) HG3.out (by rw[List.length_append];omega) h9.2.2.2.2.2.2.1 h9.2.2.2.2.1 (by omega) (by omega) HSX.out.2.1 HSY.out.2.1 (by omega));obtain⟨q1,q2⟩:=q1;clear h9 hlm;go_wp2_with fail;refine HR.out.mono ?_;rintro e w1 ⟨rfl,hs1,hb1⟩;have HS1:=lhd hs1;have HB1:=lhd (HB3.out.trans hb1);clear hs1 hb1;go_wp2_with fail;go_end0
         exact⟨rfl,by rw[HM.out];simpa using HS1.out,HB1.out⟩
        ·have h9:=HP.out;have HE:=lhd (zi2 q1 h9.2.2.2.2.2.2.1 h9.2.2.2.2.1 HSX.out.2.1);clear h9;by_cases q2:d<en
         ·have q3:¬en<b:=fun h=>q1 ⟨q2,h⟩;clear q1;go_wp2_with fail;go_end0
          exact⟨rfl,by rw[HM.out,HE.out];simpa using HG3.out,HB3.out⟩
         ·clear q1;go_wp2_with fail;go_end0
          exact⟨rfl,by rw[HM.out,HE.out];simpa using HG3.out,HB3.out⟩
theorem zpA (base g c:Nat):∀q,zaz base g c q
 |0=>fun n a m b P A B S w hq _ _ _ _ h1 h2=>by omega
 |q+1=>fun n a m b P A B S w hq hg hp hA hB h1 h2 hsA hsB hn=>by
  have h6:=hg.len;by_cases k1:A.length=1
  ·obtain⟨x,rfl⟩:=List.length_eq_one_iff.1 k1;have h5:=zpB base g c a b (P++([x]++(B++S))) P B S x w (by rw[h6];exact hg) rfl hp (by simp at hA;omega) hsB (by rw[h6];exact hn);rw[h6]at h5;obtain rfl:m=a+1:=by simp at hA;omega
   exact_mod_cast h5
  by_cases k2:B.length=1
  ·obtain⟨y,rfl⟩:=List.length_eq_one_iff.1 k2;have h5:=zpC base g c a m (P++(A++([y]++S))) P A S y w (by rw[h6];exact hg) rfl hp hA (by omega) hsA (by rw[h6];exact hn);rw[h6]at h5;obtain rfl:b=m+1:=by simp at hB;omega
   exact_mod_cast h5
  exact zpD base g c q n a m b P A B S w (zpA base g c q) hq hg hp hA hB (by omega) (by omega) hsA hsB hn
theorem zpu (base g c n a b:Nat) (P M S:List Vr) (w:World) (hg:SO base g n c w (P++(M++S))) (hp:P.length=a) (hM:a+M.length=b) (hn:n≤1000):
 Calls Tryz.prog 305 #[.slice (some ⟨g,0,none⟩) n c,.int .i64 a,.int .i64 b,(.func (.func 208) #[] #[])] w fun e w'=>
  e=.returned (.tuple #[])∧SO base g n c w' (P++(zhk vk M++S))∧Below base w w':=by
 have h6:=hg.len;have h5:=zpt base g c a b (P++(M++S)) P M S w (by rw[h6];exact hg) rfl hp hM (by rw[h6];exact hn);rw[h6]at h5;exact h5
theorem zpx (base g c n:Nat) (l:List Vr) (w:World) (hg:SO base g n c w l) (hn:n≤1000):
 Calls Tryz.prog 275 #[.slice (some ⟨g,0,none⟩) n c,.int .i64 n,(.func (.func 208) #[] #[])] w fun e w'=>
  e=.returned (.tuple #[])∧SO base g n c w' (zhk vk l)∧Below base w w':=by
 have H0:=lhd hg;have HN:=lhd (And.intro hg.len hn);clear hg hn;go_enter Tryz.func275,Tryz.ntmps275;go_wp2_with fail;go_loopw [7,8] (fun va vb wr=>∃(a b:Nat) (D R:List Vr),va=.int .i64 a∧vb=.int .i64 b∧b=a+20∧D.length=a∧a+R.length=n∧D++cs vk 20 R=cs vk 20 l∧SO base g n c wr (D++R)∧Below base w wr) (fun va _ _=>n-(intOf va).toNat)
 case atStart=>
  have h9:=HN.out;exact⟨0,20,[],l,rfl,rfl,rfl,rfl,by omega,rfl,H0.out,Below.refl _ _⟩
 case round=>
  obtain⟨a,b,D,R,rfl,rfl,hab,hD,hR,hc,hs,hbw⟩:=hrel;have h9:=HN.out;have HB:=lhd hbw;have HS:=lhd hs;have HC:=lhd hc;by_cases hle:b≤n
  ·have hw:IntKind.i64.wrap ((b:Int)+20)=((b+20:Nat):Int):=by rw[IntWalk.i64_in _ (by omega)];omega
   obtain⟨b2,hb2⟩:∃b2,b+20=b2:=⟨_,rfl⟩;rw[hb2]at hw;have HI:=lhd (zpu base g c n a b D (R.take 20) (R.drop 20) wr (by rw[List.take_append_drop];exact hs) hD (by rw[List.length_take];omega) h9.2);have HST:=lhd (zdv (k:=vk) (n:=20) (l:=R) (by omega) (by omega));have HX:=lhd (show b=a+20∧D.length=a∧a+R.length=n∧b+20=b2∧n≤1000 from⟨hab,hD,hR,hb2,h9.2⟩);clear hc hs hbw hab hD hR hb2 h9;go_wp2_with fail;refine HI.out.mono ?_;rintro e w1 ⟨rfl,hs1,hb1⟩;have HS1:=lhd hs1;have HB1:=lhd (HB.out.trans hb1);clear hs1 hb1;go_wp2_with fail;clear hw;go_roundw
   case rel=>
    have h9:=HX.out;exact⟨b,b2,D++zhk vk (R.take 20),R.drop 20,rfl,rfl,by omega,by rw[List.length_append,zhn,List.length_take];omega,by rw[List.length_drop];omega,by rw[List.append_assoc,←HST.out];exact HC.out,by rw[List.append_assoc];exact HS1.out,HB1.out⟩
   case measure=>
    have h9:=HX.out;simp[intOf];omega
  ·have hle2:R.length≤20:=by omega
   have HI:=lhd (zpu base g c n a n D R [] wr (by rw[List.append_nil];exact hs) hD hR h9.2);have HX:=lhd (show D++(zhk vk R++ [])=cs vk 20 l by rw[List.append_nil,←zdt hle2];exact hc);clear hc hs hbw hab hD hR h9 hle2 HS HC;go_wp2_with fail;refine HI.out.mono ?_;rintro e w1 ⟨rfl,hs1,hb1⟩;rw[HX.out]at hs1;have HS1:=lhd hs1;have HB1:=lhd (HB.out.trans hb1);clear hs1 hb1 HI HX HB;go_wp2_with fail;go_loopw [6,7,8,9] (fun vz _ _ _ wr=>∃z:Nat,vz=.int .i64 z∧0<z∧z≤2000∧SO base g n c wr (cs vk z l)∧Below base w wr) (fun vz _ _ _ _=>2000-(intOf vz).toNat)
   case atStart=>exact⟨20,rfl,by omega,by omega,HS1.out,HB1.out⟩
   case round=>
    obtain⟨z,rfl,hz0,hz1,hs2,hb2⟩:=hrel;have h9:=HN.out;have HB2:=lhd hb2;have HS2:=lhd hs2;by_cases hzn:z<n
    ·have HZ:=lhd (show 0<z∧z<n∧n≤1000∧l.length=n from⟨hz0,hzn,h9.2,h9.1⟩);have hzb:z≤1000:=by omega
     have hlz:(z:Int)<(n:Int):=by omega
     clear hz0 hz1 hs2 hb2 h9;go_wp2_with fail;clear hlz;go_loopw [7,8] (fun va vb wi=>∃(a b:Nat) (D R:List Vr),va=.int .i64 a∧vb=.int .i64 b∧b=a+2*z∧D.length=a∧a+R.length=n∧D++cs vk (2*z) R=cs vk (2*z) l∧SO base g n c wi (D++cs vk z R)∧Below base w wi) (fun va _ _=>n-(intOf va).toNat)
     case atStart=>
      have h9:=HZ.out;exact⟨0,2*z,[],l,rfl,by go_num,by omega,rfl,by omega,rfl,HS2.out,HB2.out⟩
     case round=>
      obtain⟨a,b,D,R,rfl,rfl,hab,hD,hR,hc,hs,hbw⟩:=hrel;have h9:=HZ.out;have HB:=lhd hbw;have HS:=lhd hs;have HC:=lhd hc;have hA1:a≤1000:=by omega
      have hA2:b≤4000:=by omega
      have hcm:((a+z:Nat):Int)=(a:Int)+(z:Int):=by omega
      by_cases hle:b≤n
      ·have hsR:2*z≤R.length:=by omega
       obtain⟨k1,k2,k3⟩:=zdx (k:=vk) (n:=z) (l:=R) h9.1 hsR;have hlen1:(zhk vk (R.take z)).length=z:=by rw[zhn,List.length_take];omega
       have hlen2:(zhk vk ((R.drop z).take z)).length=z:=by rw[zhn,List.length_take,List.length_drop];omega
       have HI:=lhd (zpA base g c _ n a (a+z) b D (zhk vk (R.take z)) (zhk vk ((R.drop z).take z)) (cs vk z (R.drop (2*z))) wr (Nat.le_refl _) (by rw[←k1];exact hs) hD (by omega) (by omega) (by omega) (by omega) (zhs _) (zhs _) (by omega));rw[k2,hcm]at HI;have HK:=lhd k3;have HX:=lhd (show b=a+2*z∧D.length=a∧a+R.length=n∧2*z≤R.length from⟨hab,hD,hR,hsR⟩);clear hc hs hbw hab hD hR h9 hsR k1 k2 k3 hlen1 hlen2 hcm;go_wp2_with fail;refine HI.out.mono ?_;rintro e w1 ⟨rfl,hs1,hb1⟩;have HS1:=lhd hs1;have HB1:=lhd (HB.out.trans hb1);clear hs1 hb1;go_wp2_with fail;go_roundw
       case rel=>
        have h9:=HX.out;have h8:=HZ.out;refine⟨b,b+2*z,D++zhk vk (R.take (2*z)),R.drop (2*z),rfl,by go_num,by omega,by rw[List.length_append,zhn,List.length_take];omega,by rw[List.length_drop];omega,?_,by rw[List.append_assoc];exact HS1.out,HB1.out⟩;have h7:=HK.out;rw[List.append_assoc,←h7];exact HC.out
       case measure=>
        have h9:=HX.out;have h8:=HZ.out;simp[intOf];omega
      ·by_cases hmn:a+z<n
       ·obtain⟨k1,k2⟩:=zdw (k:=vk) (n:=z) (l:=R) h9.1 (by omega) (by omega);have hlen1:(zhk vk (R.take z)).length=z:=by rw[zhn,List.length_take];omega
        have hlen2:(zhk vk (R.drop z)).length=R.length-z:=by rw[zhn,List.length_drop]
        have HI:=lhd (zpA base g c _ n a (a+z) n D (zhk vk (R.take z)) (zhk vk (R.drop z)) [] wr (Nat.le_refl _) (by rw[List.append_nil,←k1];exact hs) hD (by omega) (by omega) (by omega) (by omega) (zhs _) (zhs _) (by omega));rw[k2,List.append_nil,hc,hcm]at HI;have hlm:(a:Int)+(z:Int)<(n:Int):=by omega
        clear hc hs hbw hab hD hR h9 k1 k2 hlen1 hlen2 hmn hcm;go_wp2_with fail;refine HI.out.mono ?_;rintro e w1 ⟨rfl,hs1,hb1⟩;have HS1:=lhd hs1;have HB1:=lhd (HB.out.trans hb1);clear hs1 hb1;go_wp2_with fail;go_roundw
        case rel=>
         have h8:=HZ.out;exact⟨2*z,by go_num,by omega,by omega,HS1.out,HB1.out⟩
        case measure=>
         have h8:=HZ.out;simp[intOf];omega
       ·have HE:=lhd (show SO base g n c wr (cs vk (2*z) l)by
         rw[←hc,zdt (n:=2*z) (l:=R) (by omega),←zdt (k:=vk) (n:=z) (l:=R) (by omega)];exact hs)
        have hlm:¬(a:Int)+(z:Int)<(n:Int):=by omega
        clear hc hs hbw hab hD hR h9 hmn hcm;go_wp2_with fail;go_roundw
        case rel=>
         have h8:=HZ.out;exact⟨2*z,by go_num,by omega,by omega,HE.out,HB.out⟩
        case measure=>
         have h8:=HZ.out;simp[intOf];omega
    ·have HE:=lhd (show SO base g n c wr (zhk vk l)by rw[←zdt (k:=vk) (n:=z) (l:=l) (by omega)];exact hs2);clear hs2 hb2 h9;go_wp2_with fail;go_end0
     exact⟨rfl,HE.out,HB2.out⟩
theorem zps (w:World):Calls Tryz.prog 305 #[.slice none 0 0,.int .i64 0,.int .i64 0,(.func (.func 208) #[] #[])] w fun e w'=>e=.returned (.tuple #[])∧w=w':=by
 go_enter Tryz.func305,Tryz.ntmps305;go_wp2_with fail;refine wp_loop_rounds 1 ?_;rw[rounds_succ];go_wp2_with fail;go_end0
 exact⟨rfl,rfl⟩
theorem zpy (w:World):Calls Tryz.prog 275 #[.slice none 0 0,.int .i64 0,(.func (.func 208) #[] #[])] w fun e w'=>e=.returned (.tuple #[])∧w=w':=by
 go_enter Tryz.func275,Tryz.ntmps275;go_wp2_with fail;refine wp_loop_rounds 1 ?_;rw[rounds_succ];go_wp2_with fail;refine(zps w).mono ?_;rintro e w1 ⟨rfl,rfl⟩;go_wp2_with fail;refine wp_loop_rounds 1 ?_;rw[rounds_succ];go_wp2_with fail;go_end0
 exact⟨rfl,rfl⟩
theorem zgH (base:Nat) (v:Value) (l:List Vr) (w:World) (ho:w.ownsRow base 55 7 v l.length (vrs l)) (hn:l.length≤1000):
 Calls Tryz.prog 207 #[v,(.func (.func 208) #[] #[])] w fun e w'=>e=.returned (.tuple #[])∧w'.ownsRow base 55 7 v l.length (vrs (zhk vk l))∧Below base w w':=by
 rcases ho.2 with⟨rfl,h0⟩|⟨g,cap,cur,rfl,-⟩
 ·have h1:l=[]:=List.length_eq_zero_iff.1 h0;subst h1;have HO:=lhd ho;clear ho h0;go_enter Tryz.func207,Tryz.ntmps207;go_wp2_with fail;refine(zpy w).mono ?_;rintro e w1 ⟨rfl,rfl⟩;go_wp2_with fail;go_end0
  exact⟨rfl,HO.out,Below.refl _ _⟩
 ·have HS:=lhd (zpx base g cap l.length l w ho hn);clear ho;go_enter Tryz.func207,Tryz.ntmps207;go_wp2_with fail;refine HS.out.mono ?_;rintro e w1 ⟨rfl,ho1,hb1⟩;have HO:=lhd ho1;clear ho1 HS;go_wp2_with fail;go_end0
  exact⟨rfl,HO.out,hb1⟩
end Go.Proofs.YtfppgpamkdkckaaGreatDoor
