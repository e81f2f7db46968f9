import Derived.Test.YtcdekelomkcahaaGreatDoorZ00
import Derived.Deep.Cut
import Derived.Test.YtcdekelomkcahaaGreatDoorZ02
set_option maxRecDepth 100000
set_option maxHeartbeats 16000000
namespace Go.Proofs.YtcdekelomkcahaaGreatDoor
open Go.RowKit
set_option linter.unusedSimpArgs false
abbrev SO (base g n c:Nat) (w:World) (l:List Vr):Prop:=w.ownsRow base 48 7 (.slice (some ⟨g,0,none⟩) n c) n (vrs l)
theorem zpx {X Z:List Vr} (y x:Vr):((((((((vrs (X++y::Z)).set (X.length*7) (.string (bsB x.nm))).set (X.length*7+1) (.int .i64 x.ty)).set (X.length*7+2) (.int .i64 x.sc)).set (X.length*7+3) (.int .i64 x.sg)).set (X.length*7+4) (.bool x.rg)).set (X.length*7+5) (.int .i64 x.mb)).set (X.length*7+6) (.int .i64 x.lb))=vrs (X++x::Z):=by
 have hl:(vrs X).length=X.length*7:=by rw[zpt,Nat.mul_comm]
 rw[zpq,zpq,zps,zps,←hl];simp only[vrC,List.cons_append,List.nil_append];rw[List.set_append_right _ _ (Nat.le_refl _),Nat.sub_self,List.set_cons_zero];repeat (rw[List.set_append_right _ _ (by omega),Nat.add_sub_cancel_left])
 simp only[List.set_cons_succ,List.set_cons_zero]
theorem SO.put {base g n c:Nat} {w:World} {X Z:List Vr} {y:Vr} (h:SO base g n c w (X++y::Z)) (x:Vr):
 SO base g n c (((((((w.setCell ⟨g,X.length*7,none⟩ (.string (bsB x.nm))).setCell ⟨g,X.length*7+1,none⟩ (.int .i64 x.ty)).setCell ⟨g,X.length*7+2,none⟩ (.int .i64 x.sc)).setCell ⟨g,X.length*7+3,none⟩ (.int .i64 x.sg)).setCell ⟨g,X.length*7+4,none⟩ (.bool x.rg)).setCell ⟨g,X.length*7+5,none⟩ (.int .i64 x.mb)).setCell ⟨g,X.length*7+6,none⟩ (.int .i64 x.lb)) (X++x::Z):=by
 have:=zjq (zjq (zjq (zjq (zjq (zjq (zjq h (X.length*7) (.string (bsB x.nm))) (X.length*7+1) (.int .i64 x.ty)) (X.length*7+2) (.int .i64 x.sc)) (X.length*7+3) (.int .i64 x.sg)) (X.length*7+4) (.bool x.rg)) (X.length*7+5) (.int .i64 x.mb)) (X.length*7+6) (.int .i64 x.lb);rw[zpx]at this;exact this
theorem SO.lo {base g n c:Nat} {w:World} {l:List Vr} (h:SO base g n c w l):base≤g∧g<w.heap.size:=h.lt _ rfl
theorem SO.len {base g n c:Nat} {w:World} {l:List Vr} (h:SO base g n c w l):l.length=n:=by
 have:=h.1;rw[zpt]at this;omega
theorem SO.cap {base g n c:Nat} {w:World} {l:List Vr} (h:SO base g n c w l):n≤c∧c≤maxLen:=by
 obtain⟨a,cap,hv,h1,h2⟩:=(SlR.of_own h).shape;injection hv with _ _ e;subst e;exact⟨h1,h2⟩
theorem SO.at {base g n c:Nat} {w:World} {X Z:List Vr} {x:Vr} (h:SO base g n c w (X++x::Z)):
 w.cell? ⟨g,X.length*7,none⟩=some (.string (bsB x.nm))∧w.cell? ⟨g,X.length*7+1,none⟩=some (.int .i64 x.ty)∧w.cell? ⟨g,X.length*7+2,none⟩=some (.int .i64 x.sc)∧w.cell? ⟨g,X.length*7+3,none⟩=some (.int .i64 x.sg)∧
  w.cell? ⟨g,X.length*7+4,none⟩=some (.bool x.rg)∧w.cell? ⟨g,X.length*7+5,none⟩=some (.int .i64 x.mb)∧w.cell? ⟨g,X.length*7+6,none⟩=some (.int .i64 x.lb):=by
 have hr:=zjn h;have hl:(vrs X).length=X.length*7:=by rw[zpt,Nat.mul_comm]
 have aux:∀(j:Nat) (u:Value),(vrC x)[j]? =some u→w.cell? ⟨g,X.length*7+j,none⟩=some u:=fun j u hu=>hr.cell (j:=X.length*7+j) (by
  rw[zpq,zps,←hl,List.getElem?_append_right (Nat.le_add_right _ _),Nat.add_sub_cancel_left,List.getElem?_append_left (List.getElem?_eq_some_iff.1 hu).1];exact hu)
 exact⟨aux 0 _ rfl,aux 1 _ rfl,aux 2 _ rfl,aux 3 _ rfl,aux 4 _ rfl,aux 5 _ rfl,aux 6 _ rfl⟩
theorem zjj {w:World} {B e size n:Nat} {g c:Nat} {xs:List Value} (h:w.ownsRow B e size (.slice (some ⟨g,0,none⟩) n c) n xs) (o:Nat):w.frozen? ⟨g,o,none⟩=false:=by
 rcases h.2 with⟨h0,-⟩|⟨g',cap',cur,h0,hbase,hb,hn,hm,hsz,htk⟩
 ·cases h0
 injection h0 with e1 _ e3;injection e1 with e1;injection e1 with e1 _ _;subst e1 e3;simp[World.frozen?,hb]
theorem SO.after {base g n c:Nat} {w w':World} {l:List Vr} (h:SO base g n c w l) (hb:RowKit.Below w.heap.size w w'):SO base g n c w' l:=
 h.kept (row:=none) ⟨hb.os,hb.tape,hb.output,hb.size,fun i hi _=>hb.block i hi⟩ (by simp[Value.ownBlock])
abbrev put7 (w:World) (g o:Nat) (x:Vr):World:=((((((w.setCell ⟨g,o,none⟩ (.string (bsB x.nm))).setCell ⟨g,o+1,none⟩ (.int .i64 x.ty)).setCell ⟨g,o+2,none⟩ (.int .i64 x.sc)).setCell ⟨g,o+3,none⟩ (.int .i64 x.sg)).setCell ⟨g,o+4,none⟩ (.bool x.rg)).setCell ⟨g,o+5,none⟩ (.int .i64 x.mb)).setCell ⟨g,o+6,none⟩ (.int .i64 x.lb)
theorem za3 {base g:Nat} {w v:World} (h:RowKit.Below base w v) (hg:base≤g) (o:Nat) (x:Vr):RowKit.Below base w (put7 v g o x):=
 ((((((h.setCell hg _).setCell hg _).setCell hg _).setCell hg _).setCell hg _).setCell hg _).setCell hg _
theorem SO.swap {base g n c:Nat} {w:World} {X Y Z:List Vr} {x y:Vr} (h:SO base g n c w (X++x::(Y++y::Z))) {p q:Nat} (hp:X.length=p) (hq:X.length+1+Y.length=q):
 SO base g n c (put7 (put7 w g (p*7) y) g (q*7) x) (X++y::(Y++x::Z))∧RowKit.Below base w (put7 (put7 w g (p*7) y) g (q*7) x):=by
 have h1:=h.put y;rw[show X++y::(Y++y::Z)=(X++y::Y)++y::Z by simp]at h1;have h2:=SO.put h1 x;rw[show(X++y::Y)++x::Z=X++y::(Y++x::Z)by simp,List.length_append,List.length_cons,show X.length+(Y.length+1)=q by omega,hp]at h2;exact⟨h2,za3 (za3 (Below.refl _ _) h.lo.1 _ _) h.lo.1 _ _⟩
theorem SO.swap2 {base g n c:Nat} {w:World} {X Y Z:List Vr} {x y:Vr} (h:SO base g n c w (X++x::(Y++y::Z))) {p q:Nat} (hp:X.length=p) (hq:X.length+1+Y.length=q):
 SO base g n c (put7 (put7 w g (q*7) x) g (p*7) y) (X++y::(Y++x::Z))∧RowKit.Below base w (put7 (put7 w g (q*7) x) g (p*7) y):=by
 rw[show X++x::(Y++y::Z)=(X++x::Y)++y::Z by simp]at h;have h1:=SO.put h x;rw[show(X++x::Y)++x::Z=X++x::(Y++x::Z)by simp,List.length_append,List.length_cons,show X.length+(Y.length+1)=q by omega]at h1;have h2:=SO.put h1 y;rw[hp]at h2;exact⟨h2,za3 (za3 (Below.refl _ _) h.lo.1 _ _) h.lo.1 _ _⟩
theorem zna (base g c a b m:Nat) (l X A Y B Z:List Vr) (w:World) (hg:SO base g l.length c w l) (hl:l=X++(A++(Y++(B++Z)))) (hA:A.length=m) (hB:B.length=m) (ha:X.length=a) (hb:X.length+A.length+Y.length=b) (hn:l.length≤1000):
 Calls Tryz.prog 216 #[.slice (some ⟨g,0,none⟩) l.length c,.int .i64 a,.int .i64 b,.int .i64 m,(.func (.func 57) #[] #[])] w fun e w'=>
  e=.returned (.tuple #[])∧SO base g l.length c w' (X++(B++(Y++(A++Z))))∧Below base w w':=by
 have hlen:l.length=X.length+A.length+Y.length+B.length+Z.length:=by rw[hl];simp only[List.length_append];omega
 have hlo:=hg.lo;have HCAP:=lhd hg.cap;have H0:=lhd (show SO base g l.length c w (swpd X A Y B Z 0)by rw[znu,←hl];exact hg);have hAB:A.length=B.length:=by omega
 generalize hN:l.length=n at*;clear hg hl;go_enter Tryz.func216,Tryz.ntmps216;go_wp2_with fail;go_loopw [10] (fun i wr=>∃j:Nat,j≤m∧i=.int .i64 j∧SO base g n c wr (swpd X A Y B Z j)∧Below base w wr) (fun i _=>m-(intOf i).toNat)
 case atStart=>exact⟨0,Nat.zero_le _,rfl,H0.out,Below.refl _ _⟩
 case round=>
  obtain⟨j,hj,rfl,hs,hbw⟩:=hrel;have HB:=lhd hbw;clear hbw;by_cases hlt:j<m
  ·obtain⟨X1,Y1,Z1,e1,e2,e3,e4⟩:=znt (X:=X) (Y:=Y) (Z:=Z) hAB (i:=j) (by omega);rw[e3]at hs;have HE4:=lhd e4;generalize A[j]'(by omega)=x at hs HE4;generalize B[j]'(by omega)=y at hs HE4;have HSW:=lhd (hs.swap (p:=a+j) (q:=b+j) (by omega) (by omega));have hz1:=hs.at;rw[show X1++x::(Y1++y::Z1)=(X1++x::Y1)++y::Z1 by simp]at hs;have hz2:=hs.at;rw[List.length_append,List.length_cons,show X1.length+(Y1.length+1)=b+j by omega]at hz2;rw[show X1.length=a+j by omega]at hz1;obtain⟨p0,p1,p2,p3,p4,p5,p6⟩:=hz1;obtain⟨q0,q1,q2,q3,q4,q5,q6⟩:=hz2;have HS:=lhd hs;have hfz:=zjj hs;have hw1:IntKind.i64.wrap ((a:Int)+(j:Int))=(a:Int)+(j:Int):=IntWalk.i64_in _ (by omega);have hw2:IntKind.i64.wrap ((b:Int)+(j:Int))=(b:Int)+(j:Int):=IntWalk.i64_in _ (by omega);have hw3:IntKind.i64.wrap ((j:Int)+1)=(j:Int)+1:=IntWalk.i64_in _ (by omega);have h1:(0:Int)≤(a:Int)+(j:Int):=by omega
   have h2:(0:Int)≤(b:Int)+(j:Int):=by omega
   have h3:(a:Int)+(j:Int)<(n:Int):=by omega
   have h4:(b:Int)+(j:Int)<(n:Int):=by omega
   have h5:((a:Int)+(j:Int)).toNat=a+j:=by omega
   have h6:((b:Int)+(j:Int)).toNat=b+j:=by omega
   have HE:=lhd (And.intro e1 e2);have hab:¬a=b:=by omega
   have hba:¬b=a:=by omega
   clear hs e1 e2 e3 e4 hAB hA hB ha hb hlen;go_upto_region 3 with fail;go_region
   clear p0 p1 p2 p3 p4 p5 p6 q0 q1 q2 q3 q4 q5 q6 hw1 hw2 h1 h2 h3 h4 h5 h6 hab hba hfz;go_wp2_with fail;go_roundw;case rel=>exact⟨j+1,by omega,by go_num,by rw[HE4.out];exact HSW.out.1.drew,(HB.out.trans HSW.out.2).drew⟩
   case measure=>simp[intOf];omega
  ·obtain rfl:j=m:=by omega
   have HF:=lhd (show SO base g n c wr (X++(B++(Y++(A++Z))))by rw[←hA,zns hAB]at hs;exact hs);clear hs;go_wp2_with fail;go_end0
   exact⟨rfl,HF.out,HB.out⟩
theorem zm7 (base g c a m b:Nat) (l P A B S:List Vr) (w:World) (hg:SO base g l.length c w l) (hl:l=P++(A++(B++S))) (hp:P.length=a) (hA:a+A.length=m) (hB:m+B.length=b) (h0:0<A.length) (h1:0<B.length) (hn:l.length≤1000):
 Calls Tryz.prog 179 #[.slice (some ⟨g,0,none⟩) l.length c,.int .i64 a,.int .i64 m,.int .i64 b,(.func (.func 57) #[] #[])] w fun e w'=>
  e=.returned (.tuple #[])∧SO base g l.length c w' (P++(B++(A++S)))∧Below base w w':=by
 have hlen:l.length=P.length+A.length+B.length+S.length:=by rw[hl];simp only[List.length_append];omega
 have hR:Rot m A.length B.length l (P++(B++(A++S))):=⟨P,A,B,S,hl,rfl,by omega,rfl,rfl⟩;have HT:=lhd (show(P++(B++(A++S))).length=l.length by rw[hlen];simp only[List.length_append];omega);have e1:IntKind.i64.wrap ((m:Int)-(a:Int))=(A.length:Int):=by rw[IntWalk.i64_in _ (by omega)];omega
 have e2:IntKind.i64.wrap ((b:Int)-(m:Int))=(B.length:Int):=by rw[IntWalk.i64_in _ (by omega)];omega
 have h2:m≤1000:=by omega
 have h3:B.length≤1000:=by omega
 have h4:A.length≤m:=by omega
 have HR0:=lhd hR;have H0:=lhd hg;generalize hN:l.length=n at*;generalize P++(B++(A++S))=t at*;generalize A.length=i0 at*;generalize B.length=j0 at*;clear hg hl hlen hR hp hA hB;go_enter Tryz.func179,Tryz.ntmps179;go_wp2_with fail;clear e1 e2;go_loopw [10,11] (fun vi vj wr=>∃(i j:Nat) (l2:List Vr),vi=.int .i64 i∧vj=.int .i64 j∧0<i∧0<j∧i≤m∧j≤1000∧Rot m i j l2 t∧SO base g n c wr l2∧Below base w wr) (fun vi vj _=>(intOf vi).toNat+(intOf vj).toNat)
 case atStart=>exact⟨i0,j0,l,rfl,rfl,h0,h1,h4,h3,HR0.out,H0.out,Below.refl _ _⟩
 case round=>
  obtain⟨i,j,l2,rfl,rfl,hi,hj,him,hj1,hr,hs,hb⟩:=hrel;have HB:=lhd hb;have hl2:=hs.len;clear hb;by_cases hij:i=j
  ·subst hij;obtain⟨X,A',B',Z,f1,f2,f3,f4,f5⟩:=hr.last;have hne:((i:Int) !=(i:Int))=false:=by simp
   have hw1:IntKind.i64.wrap ((m:Int)-(i:Int))=((m-i:Nat):Int):=by rw[IntWalk.i64_in _ (by omega)];omega
   have HS:=lhd (zna base g c (m-i) m i l2 X A' [] B' Z wr (by rw[hl2];exact hs) f1 f3 f4 (by omega) (by simp;omega) (by omega));rw[hl2,←f5]at HS;clear hr hs f1 f2 f3 f4 f5 hl2;go_wp2_with fail;refine HS.out.mono ?_;rintro e w1 ⟨rfl,hs1,hb1⟩;have H1:=lhd hs1;have HB1:=lhd (HB.out.trans hb1);clear hs1 hb1;go_wp2_with fail;go_end0
   exact⟨rfl,H1.out,HB1.out⟩
  ·have hne:((i:Int) !=(j:Int))=true:=by rw[bne_iff_ne];omega
   have hw1:IntKind.i64.wrap ((m:Int)-(i:Int))=((m-i:Nat):Int):=by rw[IntWalk.i64_in _ (by omega)];omega
   by_cases hlt:j<i
   ·obtain⟨X,A',Y,B',Z,f1,f2,f3,f4,f5,f6⟩:=hr.more hlt;have hd:decide ((j:Int)<(i:Int))=true:=by rw[decide_eq_true_iff];omega
    have hw2:IntKind.i64.wrap ((i:Int)-(j:Int))=((i-j:Nat):Int):=by rw[IntWalk.i64_in _ (by omega)];omega
    have HS:=lhd (zna base g c (m-i) m j l2 X A' Y B' Z wr (by rw[hl2];exact hs) f1 f3 f4 (by omega) (by omega) (by omega));rw[hl2]at HS;have HR:=lhd f6;clear hr hs f1 f2 f3 f4 f5 f6 hl2 hij;go_wp2_with fail;refine HS.out.mono ?_;rintro e w1 ⟨rfl,hs1,hb1⟩;have H1:=lhd hs1;have HB1:=lhd (HB.out.trans hb1);clear hs1 hb1;go_wp2_with fail;go_roundw;case rel=>exact⟨i-j,j,_,rfl,rfl,by omega,hj,by omega,hj1,HR.out,H1.out,HB1.out⟩
    case measure=>simp[intOf];omega
   ·have hlt2:i<j:=by omega
    obtain⟨X,A',Y,B',Z,f1,f2,f3,f4,f5,f6⟩:=hr.less hlt2;have hd:decide ((j:Int)<(i:Int))=false:=by rw[decide_eq_false_iff_not];omega
    have hw2:IntKind.i64.wrap ((j:Int)-(i:Int))=((j-i:Nat):Int):=by rw[IntWalk.i64_in _ (by omega)];omega
    have hw3:IntKind.i64.wrap ((m:Int)+(j:Int))=(m:Int)+(j:Int):=IntWalk.i64_in _ (by omega);have hw4:IntKind.i64.wrap ((m:Int)+(j:Int)-(i:Int))=(m:Int)+(j:Int)-(i:Int):=IntWalk.i64_in _ (by omega);have HS:=lhd (zna base g c (m-i) (m+j-i) i l2 X A' Y B' Z wr (by rw[hl2];exact hs) f1 f3 f4 (by omega) (by omega) (by omega));rw[hl2,show((m+j-i:Nat):Int)=(m:Int)+(j:Int)-(i:Int)by omega]at HS;have HR:=lhd f6;clear hr hs f1 f2 f3 f4 f5 f6 hl2 hij;go_wp2_with fail;refine HS.out.mono ?_;rintro e w1 ⟨rfl,hs1,hb1⟩;have H1:=lhd hs1;have HB1:=lhd (HB.out.trans hb1);clear hs1 hb1;go_wp2_with fail;go_roundw;case rel=>exact⟨i,j-i,_,rfl,rfl,hi,by omega,him,by omega,HR.out,H1.out,HB1.out⟩
    case measure=>simp[intOf];omega
def IxP (b:Bool) (w:World) (e:Ending) (w':World):Prop:=(∃i:Int,e=.returned (.int .i64 i)∧decide (0≤i)=b∧ -1≤i)∧Below w.heap.size w w'
theorem zaI {α:Type} {p:α→Bool} {L:List α} {j:Nat} (h:j<L.length):(L.drop j).any p=(p L[j]||(L.drop (j+1)).any p):=by
 rw[List.drop_eq_getElem_cons h,List.any_cons]
theorem zf1 (pt:Nat) (p:Vr→Bool) (v:Value) (L:List (Vr)) (w:World) (hs:SlR w v L.length (vrs L))
 (hF:∀x∈L,∀W,Below w.heap.size w W→Calls Tryz.prog 143 #[vrV x,.pointer (some ⟨pt,0,none⟩)] W fun e w'=>e=.returned (.bool (p x))∧Below W.heap.size W w'):
 Calls Tryz.prog 149 #[v,.func (.func 143) #[] #[.pointer (some ⟨pt,0,none⟩)]] w (IxP (L.any p) w):=by
 obtain⟨a,cap,rfl,hc,hm⟩:=hs.shape;unfold maxLen at hm;have HS:=lhd hs;have HF:=lhd hF;clear hs hF;go_enter Tryz.func149,Tryz.ntmps149;go_wp2_with fail;go_loopw [8] (fun i wr=>∃j:Nat,j≤L.length∧i=.int .i64 j∧(L.drop j).any p=L.any p∧Below w.heap.size w wr) (fun i _=>L.length-(intOf i).toNat)
 case atStart=>exact⟨0,Nat.zero_le _,rfl,rfl,Below.refl _ _⟩
 case round=>
  obtain⟨j,hj,rfl,hgo,hb⟩:=hrel;have HGO:=lhd hgo;have HB:=lhd hb;clear hgo hb;by_cases hlt:j<L.length
  ·obtain⟨b,o,rfl,hcell⟩:=(HS.out.below HB.out).vrs hlt;have HC:=lhd (fun W hW=>HF.out L[j] (List.getElem_mem hlt) W hW);have HGO2:=lhd ((zaI (p:=p) hlt).symm.trans HGO.out);have HPX:=lhd (Eq.refl (p L[j]));generalize L[j]=x at hcell HC HGO2 HPX;obtain⟨px,hpx⟩:∃px,px=p x:=⟨_,rfl⟩;rw[←hpx]at HC HGO2;clear HPX hpx;obtain⟨nm,ty,sc,sg,rg,mb,lb⟩:=x;have d0:wr.cell? ⟨b,o+j*7,none⟩=some (.string (bsB nm)):=hcell 0 _ rfl;have d1:wr.cell? ⟨b,o+j*7+1,none⟩=some (.int .i64 ty):=hcell 1 _ rfl;have d2:wr.cell? ⟨b,o+j*7+2,none⟩=some (.int .i64 sc):=hcell 2 _ rfl;have d3:wr.cell? ⟨b,o+j*7+3,none⟩=some (.int .i64 sg):=hcell 3 _ rfl;have d4:wr.cell? ⟨b,o+j*7+4,none⟩=some (.bool rg):=hcell 4 _ rfl;have d5:wr.cell? ⟨b,o+j*7+5,none⟩=some (.int .i64 mb):=hcell 5 _ rfl;have d6:wr.cell? ⟨b,o+j*7+6,none⟩=some (.int .i64 lb):=hcell 6 _ rfl;clear hcell;go_wp2_with fail;refine(HC.out _ HB.out).mono ?_;rintro e w1 ⟨rfl,hb1⟩;have HB1:=lhd (zd5 HB.out hb1);clear hb1;cases px
   ·have HGO3:=lhd (show(L.drop (j+1)).any p=L.any p by rw[←HGO2.out,Bool.false_or]);go_wp2_with fail;go_roundw;case rel=>exact⟨j+1,by omega,by go_num,HGO3.out,HB1.out⟩
    case measure=>simp[intOf];omega
   ·have HR:=lhd (show true=L.any p by rw[←HGO2.out];rfl);go_wp2_with fail;go_ret;exact⟨⟨j,rfl,by rw[←HR.out];simp,by omega⟩,HB1.out⟩
  ·obtain rfl:j=L.length:=by omega
   have HR:=lhd (show false=L.any p by rw[←HGO.out,List.drop_length];rfl);go_wp2_with fail;go_ret;exact⟨⟨-1,rfl,by rw[←HR.out];rfl,by omega⟩,HB.out⟩
theorem zce (pt:Nat) (p:Vr→Bool) (v:Value) (L:List (Vr)) (w:World) (hs:SlR w v L.length (vrs L))
 (hF:∀x∈L,∀W,Below w.heap.size w W→Calls Tryz.prog 143 #[vrV x,.pointer (some ⟨pt,0,none⟩)] W fun e w'=>e=.returned (.bool (p x))∧Below W.heap.size W w'):
 Calls Tryz.prog 103 #[v,.func (.func 143) #[] #[.pointer (some ⟨pt,0,none⟩)]] w fun e w'=>e=.returned (.bool (L.any p))∧Below w.heap.size w w':=by
 have HI:=lhd (zf1 pt p v L w hs hF);generalize L.any p=r at HI⊢;obtain⟨a,cap,rfl,hc,hm⟩:=hs.shape;clear hs hF;go_enter Tryz.func103,Tryz.ntmps103;go_wp2_with fail;refine HI.out.mono ?_;rintro e w1 ⟨⟨i,rfl,hi,hi1⟩,hb⟩;have HH:=lhd hi;clear hi;go_wp2_with fail;go_ret;exact⟨zle HH.out,hb⟩
theorem zf7 (pt:Nat) (p:Vr→Bool) (v:Value) (L:List (Vr)) (w:World) (hs:SlR w v L.length (vrs L))
 (hF:∀x∈L,∀W,Below w.heap.size w W→Calls Tryz.prog 104 #[vrV x,.pointer (some ⟨pt,0,none⟩)] W fun e w'=>e=.returned (.bool (p x))∧Below W.heap.size W w'):
 Calls Tryz.prog 149 #[v,.func (.func 104) #[] #[.pointer (some ⟨pt,0,none⟩)]] w (IxP (L.any p) w):=by
 obtain⟨a,cap,rfl,hc,hm⟩:=hs.shape;unfold maxLen at hm;have HS:=lhd hs;have HF:=lhd hF;clear hs hF;go_enter Tryz.func149,Tryz.ntmps149;go_wp2_with fail;go_loopw [8] (fun i wr=>∃j:Nat,j≤L.length∧i=.int .i64 j∧(L.drop j).any p=L.any p∧Below w.heap.size w wr) (fun i _=>L.length-(intOf i).toNat)
 case atStart=>exact⟨0,Nat.zero_le _,rfl,rfl,Below.refl _ _⟩
 case round=>
  obtain⟨j,hj,rfl,hgo,hb⟩:=hrel;have HGO:=lhd hgo;have HB:=lhd hb;clear hgo hb;by_cases hlt:j<L.length
  ·obtain⟨b,o,rfl,hcell⟩:=(HS.out.below HB.out).vrs hlt;have HC:=lhd (fun W hW=>HF.out L[j] (List.getElem_mem hlt) W hW);have HGO2:=lhd ((zaI (p:=p) hlt).symm.trans HGO.out);have HPX:=lhd (Eq.refl (p L[j]));generalize L[j]=x at hcell HC HGO2 HPX;obtain⟨px,hpx⟩:∃px,px=p x:=⟨_,rfl⟩;rw[←hpx]at HC HGO2;clear HPX hpx;obtain⟨nm,ty,sc,sg,rg,mb,lb⟩:=x;have d0:wr.cell? ⟨b,o+j*7,none⟩=some (.string (bsB nm)):=hcell 0 _ rfl;have d1:wr.cell? ⟨b,o+j*7+1,none⟩=some (.int .i64 ty):=hcell 1 _ rfl;have d2:wr.cell? ⟨b,o+j*7+2,none⟩=some (.int .i64 sc):=hcell 2 _ rfl;have d3:wr.cell? ⟨b,o+j*7+3,none⟩=some (.int .i64 sg):=hcell 3 _ rfl;have d4:wr.cell? ⟨b,o+j*7+4,none⟩=some (.bool rg):=hcell 4 _ rfl;have d5:wr.cell? ⟨b,o+j*7+5,none⟩=some (.int .i64 mb):=hcell 5 _ rfl;have d6:wr.cell? ⟨b,o+j*7+6,none⟩=some (.int .i64 lb):=hcell 6 _ rfl;clear hcell;go_wp2_with fail;refine(HC.out _ HB.out).mono ?_;rintro e w1 ⟨rfl,hb1⟩;have HB1:=lhd (zd5 HB.out hb1);clear hb1;cases px
   ·have HGO3:=lhd (show(L.drop (j+1)).any p=L.any p by rw[←HGO2.out,Bool.false_or]);go_wp2_with fail;go_roundw;case rel=>exact⟨j+1,by omega,by go_num,HGO3.out,HB1.out⟩
    case measure=>simp[intOf];omega
   ·have HR:=lhd (show true=L.any p by rw[←HGO2.out];rfl);go_wp2_with fail;go_ret;exact⟨⟨j,rfl,by rw[←HR.out];simp,by omega⟩,HB1.out⟩
  ·obtain rfl:j=L.length:=by omega
   have HR:=lhd (show false=L.any p by rw[←HGO.out,List.drop_length];rfl);go_wp2_with fail;go_ret;exact⟨⟨-1,rfl,by rw[←HR.out];rfl,by omega⟩,HB.out⟩
theorem zch (pt:Nat) (p:Vr→Bool) (v:Value) (L:List (Vr)) (w:World) (hs:SlR w v L.length (vrs L))
 (hF:∀x∈L,∀W,Below w.heap.size w W→Calls Tryz.prog 104 #[vrV x,.pointer (some ⟨pt,0,none⟩)] W fun e w'=>e=.returned (.bool (p x))∧Below W.heap.size W w'):
 Calls Tryz.prog 103 #[v,.func (.func 104) #[] #[.pointer (some ⟨pt,0,none⟩)]] w fun e w'=>e=.returned (.bool (L.any p))∧Below w.heap.size w w':=by
 have HI:=lhd (zf7 pt p v L w hs hF);generalize L.any p=r at HI⊢;obtain⟨a,cap,rfl,hc,hm⟩:=hs.shape;clear hs hF;go_enter Tryz.func103,Tryz.ntmps103;go_wp2_with fail;refine HI.out.mono ?_;rintro e w1 ⟨⟨i,rfl,hi,hi1⟩,hb⟩;have HH:=lhd hi;clear hi;go_wp2_with fail;go_ret;exact⟨zle HH.out,hb⟩
theorem zf9 (pt:Nat) (p:Vr→Bool) (v:Value) (L:List (Vr)) (w:World) (hs:SlR w v L.length (vrs L))
 (hF:∀x∈L,∀W,Below w.heap.size w W→Calls Tryz.prog 106 #[vrV x,.pointer (some ⟨pt,0,none⟩)] W fun e w'=>e=.returned (.bool (p x))∧Below W.heap.size W w'):
 Calls Tryz.prog 149 #[v,.func (.func 106) #[] #[.pointer (some ⟨pt,0,none⟩)]] w (IxP (L.any p) w):=by
 obtain⟨a,cap,rfl,hc,hm⟩:=hs.shape;unfold maxLen at hm;have HS:=lhd hs;have HF:=lhd hF;clear hs hF;go_enter Tryz.func149,Tryz.ntmps149;go_wp2_with fail;go_loopw [8] (fun i wr=>∃j:Nat,j≤L.length∧i=.int .i64 j∧(L.drop j).any p=L.any p∧Below w.heap.size w wr) (fun i _=>L.length-(intOf i).toNat)
 case atStart=>exact⟨0,Nat.zero_le _,rfl,rfl,Below.refl _ _⟩
 case round=>
  obtain⟨j,hj,rfl,hgo,hb⟩:=hrel;have HGO:=lhd hgo;have HB:=lhd hb;clear hgo hb;by_cases hlt:j<L.length
  ·obtain⟨b,o,rfl,hcell⟩:=(HS.out.below HB.out).vrs hlt;have HC:=lhd (fun W hW=>HF.out L[j] (List.getElem_mem hlt) W hW);have HGO2:=lhd ((zaI (p:=p) hlt).symm.trans HGO.out);have HPX:=lhd (Eq.refl (p L[j]));generalize L[j]=x at hcell HC HGO2 HPX;obtain⟨px,hpx⟩:∃px,px=p x:=⟨_,rfl⟩;rw[←hpx]at HC HGO2;clear HPX hpx;obtain⟨nm,ty,sc,sg,rg,mb,lb⟩:=x;have d0:wr.cell? ⟨b,o+j*7,none⟩=some (.string (bsB nm)):=hcell 0 _ rfl;have d1:wr.cell? ⟨b,o+j*7+1,none⟩=some (.int .i64 ty):=hcell 1 _ rfl;have d2:wr.cell? ⟨b,o+j*7+2,none⟩=some (.int .i64 sc):=hcell 2 _ rfl;have d3:wr.cell? ⟨b,o+j*7+3,none⟩=some (.int .i64 sg):=hcell 3 _ rfl;have d4:wr.cell? ⟨b,o+j*7+4,none⟩=some (.bool rg):=hcell 4 _ rfl;have d5:wr.cell? ⟨b,o+j*7+5,none⟩=some (.int .i64 mb):=hcell 5 _ rfl;have d6:wr.cell? ⟨b,o+j*7+6,none⟩=some (.int .i64 lb):=hcell 6 _ rfl;clear hcell;go_wp2_with fail;refine(HC.out _ HB.out).mono ?_;rintro e w1 ⟨rfl,hb1⟩;have HB1:=lhd (zd5 HB.out hb1);clear hb1;cases px
   ·have HGO3:=lhd (show(L.drop (j+1)).any p=L.any p by rw[←HGO2.out,Bool.false_or]);go_wp2_with fail;go_roundw;case rel=>exact⟨j+1,by omega,by go_num,HGO3.out,HB1.out⟩
    case measure=>simp[intOf];omega
   ·have HR:=lhd (show true=L.any p by rw[←HGO2.out];rfl);go_wp2_with fail;go_ret;exact⟨⟨j,rfl,by rw[←HR.out];simp,by omega⟩,HB1.out⟩
  ·obtain rfl:j=L.length:=by omega
   have HR:=lhd (show false=L.any p by rw[←HGO.out,List.drop_length];rfl);go_wp2_with fail;go_ret;exact⟨⟨-1,rfl,by rw[←HR.out];rfl,by omega⟩,HB.out⟩
theorem zcj (pt:Nat) (p:Vr→Bool) (v:Value) (L:List (Vr)) (w:World) (hs:SlR w v L.length (vrs L))
 (hF:∀x∈L,∀W,Below w.heap.size w W→Calls Tryz.prog 106 #[vrV x,.pointer (some ⟨pt,0,none⟩)] W fun e w'=>e=.returned (.bool (p x))∧Below W.heap.size W w'):
 Calls Tryz.prog 103 #[v,.func (.func 106) #[] #[.pointer (some ⟨pt,0,none⟩)]] w fun e w'=>e=.returned (.bool (L.any p))∧Below w.heap.size w w':=by
 have HI:=lhd (zf9 pt p v L w hs hF);generalize L.any p=r at HI⊢;obtain⟨a,cap,rfl,hc,hm⟩:=hs.shape;clear hs hF;go_enter Tryz.func103,Tryz.ntmps103;go_wp2_with fail;refine HI.out.mono ?_;rintro e w1 ⟨⟨i,rfl,hi,hi1⟩,hb⟩;have HH:=lhd hi;clear hi;go_wp2_with fail;go_ret;exact⟨zle HH.out,hb⟩
theorem zf8 (_pt:Nat) (p:Vr→Bool) (v:Value) (L:List (Vr)) (w:World) (hs:SlR w v L.length (vrs L))
 (hF:∀x∈L,∀W,Below w.heap.size w W→Calls Tryz.prog 100 #[vrV x] W fun e w'=>e=.returned (.bool (p x))∧Below W.heap.size W w'):
 Calls Tryz.prog 149 #[v,.func (.func 100) #[] #[]] w (IxP (L.any p) w):=by
 obtain⟨a,cap,rfl,hc,hm⟩:=hs.shape;unfold maxLen at hm;have HS:=lhd hs;have HF:=lhd hF;clear hs hF;go_enter Tryz.func149,Tryz.ntmps149;go_wp2_with fail;go_loopw [8] (fun i wr=>∃j:Nat,j≤L.length∧i=.int .i64 j∧(L.drop j).any p=L.any p∧Below w.heap.size w wr) (fun i _=>L.length-(intOf i).toNat)
 case atStart=>exact⟨0,Nat.zero_le _,rfl,rfl,Below.refl _ _⟩
 case round=>
  obtain⟨j,hj,rfl,hgo,hb⟩:=hrel;have HGO:=lhd hgo;have HB:=lhd hb;clear hgo hb;by_cases hlt:j<L.length
  ·obtain⟨b,o,rfl,hcell⟩:=(HS.out.below HB.out).vrs hlt;have HC:=lhd (fun W hW=>HF.out L[j] (List.getElem_mem hlt) W hW);have HGO2:=lhd ((zaI (p:=p) hlt).symm.trans HGO.out);have HPX:=lhd (Eq.refl (p L[j]));generalize L[j]=x at hcell HC HGO2 HPX;obtain⟨px,hpx⟩:∃px,px=p x:=⟨_,rfl⟩;rw[←hpx]at HC HGO2;clear HPX hpx;obtain⟨nm,ty,sc,sg,rg,mb,lb⟩:=x;have d0:wr.cell? ⟨b,o+j*7,none⟩=some (.string (bsB nm)):=hcell 0 _ rfl;have d1:wr.cell? ⟨b,o+j*7+1,none⟩=some (.int .i64 ty):=hcell 1 _ rfl;have d2:wr.cell? ⟨b,o+j*7+2,none⟩=some (.int .i64 sc):=hcell 2 _ rfl;have d3:wr.cell? ⟨b,o+j*7+3,none⟩=some (.int .i64 sg):=hcell 3 _ rfl;have d4:wr.cell? ⟨b,o+j*7+4,none⟩=some (.bool rg):=hcell 4 _ rfl;have d5:wr.cell? ⟨b,o+j*7+5,none⟩=some (.int .i64 mb):=hcell 5 _ rfl;have d6:wr.cell? ⟨b,o+j*7+6,none⟩=some (.int .i64 lb):=hcell 6 _ rfl;clear hcell;go_wp2_with fail;refine(HC.out _ HB.out).mono ?_;rintro e w1 ⟨rfl,hb1⟩;have HB1:=lhd (zd5 HB.out hb1);clear hb1;cases px
   ·have HGO3:=lhd (show(L.drop (j+1)).any p=L.any p by rw[←HGO2.out,Bool.false_or]);go_wp2_with fail;go_roundw;case rel=>exact⟨j+1,by omega,by go_num,HGO3.out,HB1.out⟩
    case measure=>simp[intOf];omega
   ·have HR:=lhd (show true=L.any p by rw[←HGO2.out];rfl);go_wp2_with fail;go_ret;exact⟨⟨j,rfl,by rw[←HR.out];simp,by omega⟩,HB1.out⟩
  ·obtain rfl:j=L.length:=by omega
   have HR:=lhd (show false=L.any p by rw[←HGO.out,List.drop_length];rfl);go_wp2_with fail;go_ret;exact⟨⟨-1,rfl,by rw[←HR.out];rfl,by omega⟩,HB.out⟩
theorem zci (_pt:Nat) (p:Vr→Bool) (v:Value) (L:List (Vr)) (w:World) (hs:SlR w v L.length (vrs L))
 (hF:∀x∈L,∀W,Below w.heap.size w W→Calls Tryz.prog 100 #[vrV x] W fun e w'=>e=.returned (.bool (p x))∧Below W.heap.size W w'):
 Calls Tryz.prog 103 #[v,.func (.func 100) #[] #[]] w fun e w'=>e=.returned (.bool (L.any p))∧Below w.heap.size w w':=by
 have HI:=lhd (zf8 _pt p v L w hs hF);generalize L.any p=r at HI⊢;obtain⟨a,cap,rfl,hc,hm⟩:=hs.shape;clear hs hF;go_enter Tryz.func103,Tryz.ntmps103;go_wp2_with fail;refine HI.out.mono ?_;rintro e w1 ⟨⟨i,rfl,hi,hi1⟩,hb⟩;have HH:=lhd hi;clear hi;go_wp2_with fail;go_ret;exact⟨zle HH.out,hb⟩
theorem zf4 (pt:Nat) (p:Sc→Bool) (v:Value) (L:List (Sc)) (w:World) (hs:SlR w v L.length (scs L))
 (hF:∀x∈L,∀W,Below w.heap.size w W→Calls Tryz.prog 102 #[scV x,.pointer (some ⟨pt,0,none⟩)] W fun e w'=>e=.returned (.bool (p x))∧Below W.heap.size W w'):
 Calls Tryz.prog 148 #[v,.func (.func 102) #[] #[.pointer (some ⟨pt,0,none⟩)]] w (IxP (L.any p) w):=by
 obtain⟨a,cap,rfl,hc,hm⟩:=hs.shape;unfold maxLen at hm;have HS:=lhd hs;have HF:=lhd hF;clear hs hF;go_enter Tryz.func148,Tryz.ntmps148;go_wp2_with fail;go_loopw [8] (fun i wr=>∃j:Nat,j≤L.length∧i=.int .i64 j∧(L.drop j).any p=L.any p∧Below w.heap.size w wr) (fun i _=>L.length-(intOf i).toNat)
 case atStart=>exact⟨0,Nat.zero_le _,rfl,rfl,Below.refl _ _⟩
 case round=>
  obtain⟨j,hj,rfl,hgo,hb⟩:=hrel;have HGO:=lhd hgo;have HB:=lhd hb;clear hgo hb;by_cases hlt:j<L.length
  ·obtain⟨b,o,rfl,hcell⟩:=(HS.out.below HB.out).scs hlt;have HC:=lhd (fun W hW=>HF.out L[j] (List.getElem_mem hlt) W hW);have HGO2:=lhd ((zaI (p:=p) hlt).symm.trans HGO.out);have HPX:=lhd (Eq.refl (p L[j]));generalize L[j]=x at hcell HC HGO2 HPX;obtain⟨px,hpx⟩:∃px,px=p x:=⟨_,rfl⟩;rw[←hpx]at HC HGO2;clear HPX hpx;obtain⟨nm,ty,pa⟩:=x;have d0:wr.cell? ⟨b,o+j*3,none⟩=some (.string (bsB nm)):=hcell 0 _ rfl;have d1:wr.cell? ⟨b,o+j*3+1,none⟩=some (.int .i64 ty):=hcell 1 _ rfl;have d2:wr.cell? ⟨b,o+j*3+2,none⟩=some (.int .i64 pa):=hcell 2 _ rfl;clear hcell;go_wp2_with fail;refine(HC.out _ HB.out).mono ?_;rintro e w1 ⟨rfl,hb1⟩;have HB1:=lhd (zd5 HB.out hb1);clear hb1;cases px
   ·have HGO3:=lhd (show(L.drop (j+1)).any p=L.any p by rw[←HGO2.out,Bool.false_or]);go_wp2_with fail;go_roundw;case rel=>exact⟨j+1,by omega,by go_num,HGO3.out,HB1.out⟩
    case measure=>simp[intOf];omega
   ·have HR:=lhd (show true=L.any p by rw[←HGO2.out];rfl);go_wp2_with fail;go_ret;exact⟨⟨j,rfl,by rw[←HR.out];simp,by omega⟩,HB1.out⟩
  ·obtain rfl:j=L.length:=by omega
   have HR:=lhd (show false=L.any p by rw[←HGO.out,List.drop_length];rfl);go_wp2_with fail;go_ret;exact⟨⟨-1,rfl,by rw[←HR.out];rfl,by omega⟩,HB.out⟩
theorem zcf (pt:Nat) (p:Sc→Bool) (v:Value) (L:List (Sc)) (w:World) (hs:SlR w v L.length (scs L))
 (hF:∀x∈L,∀W,Below w.heap.size w W→Calls Tryz.prog 102 #[scV x,.pointer (some ⟨pt,0,none⟩)] W fun e w'=>e=.returned (.bool (p x))∧Below W.heap.size W w'):
 Calls Tryz.prog 101 #[v,.func (.func 102) #[] #[.pointer (some ⟨pt,0,none⟩)]] w fun e w'=>e=.returned (.bool (L.any p))∧Below w.heap.size w w':=by
 have HI:=lhd (zf4 pt p v L w hs hF);generalize L.any p=r at HI⊢;obtain⟨a,cap,rfl,hc,hm⟩:=hs.shape;clear hs hF;go_enter Tryz.func101,Tryz.ntmps101;go_wp2_with fail;refine HI.out.mono ?_;rintro e w1 ⟨⟨i,rfl,hi,hi1⟩,hb⟩;have HH:=lhd hi;clear hi;go_wp2_with fail;go_ret;exact⟨zle HH.out,hb⟩
theorem zf6 (pt:Nat) (p:Sc→Bool) (v:Value) (L:List (Sc)) (w:World) (hs:SlR w v L.length (scs L))
 (hF:∀x∈L,∀W,Below w.heap.size w W→Calls Tryz.prog 105 #[scV x,.pointer (some ⟨pt,0,none⟩)] W fun e w'=>e=.returned (.bool (p x))∧Below W.heap.size W w'):
 Calls Tryz.prog 148 #[v,.func (.func 105) #[] #[.pointer (some ⟨pt,0,none⟩)]] w (IxP (L.any p) w):=by
 obtain⟨a,cap,rfl,hc,hm⟩:=hs.shape;unfold maxLen at hm;have HS:=lhd hs;have HF:=lhd hF;clear hs hF;go_enter Tryz.func148,Tryz.ntmps148;go_wp2_with fail;go_loopw [8] (fun i wr=>∃j:Nat,j≤L.length∧i=.int .i64 j∧(L.drop j).any p=L.any p∧Below w.heap.size w wr) (fun i _=>L.length-(intOf i).toNat)
 case atStart=>exact⟨0,Nat.zero_le _,rfl,rfl,Below.refl _ _⟩
 case round=>
  obtain⟨j,hj,rfl,hgo,hb⟩:=hrel;have HGO:=lhd hgo;have HB:=lhd hb;clear hgo hb;by_cases hlt:j<L.length
  ·obtain⟨b,o,rfl,hcell⟩:=(HS.out.below HB.out).scs hlt;have HC:=lhd (fun W hW=>HF.out L[j] (List.getElem_mem hlt) W hW);have HGO2:=lhd ((zaI (p:=p) hlt).symm.trans HGO.out);have HPX:=lhd (Eq.refl (p L[j]));generalize L[j]=x at hcell HC HGO2 HPX;obtain⟨px,hpx⟩:∃px,px=p x:=⟨_,rfl⟩;rw[←hpx]at HC HGO2;clear HPX hpx;obtain⟨nm,ty,pa⟩:=x;have d0:wr.cell? ⟨b,o+j*3,none⟩=some (.string (bsB nm)):=hcell 0 _ rfl;have d1:wr.cell? ⟨b,o+j*3+1,none⟩=some (.int .i64 ty):=hcell 1 _ rfl;have d2:wr.cell? ⟨b,o+j*3+2,none⟩=some (.int .i64 pa):=hcell 2 _ rfl;clear hcell;go_wp2_with fail;refine(HC.out _ HB.out).mono ?_;rintro e w1 ⟨rfl,hb1⟩;have HB1:=lhd (zd5 HB.out hb1);clear hb1;cases px
   ·have HGO3:=lhd (show(L.drop (j+1)).any p=L.any p by rw[←HGO2.out,Bool.false_or]);go_wp2_with fail;go_roundw;case rel=>exact⟨j+1,by omega,by go_num,HGO3.out,HB1.out⟩
    case measure=>simp[intOf];omega
   ·have HR:=lhd (show true=L.any p by rw[←HGO2.out];rfl);go_wp2_with fail;go_ret;exact⟨⟨j,rfl,by rw[←HR.out];simp,by omega⟩,HB1.out⟩
  ·obtain rfl:j=L.length:=by omega
   have HR:=lhd (show false=L.any p by rw[←HGO.out,List.drop_length];rfl);go_wp2_with fail;go_ret;exact⟨⟨-1,rfl,by rw[←HR.out];rfl,by omega⟩,HB.out⟩
theorem zcg (pt:Nat) (p:Sc→Bool) (v:Value) (L:List (Sc)) (w:World) (hs:SlR w v L.length (scs L))
 (hF:∀x∈L,∀W,Below w.heap.size w W→Calls Tryz.prog 105 #[scV x,.pointer (some ⟨pt,0,none⟩)] W fun e w'=>e=.returned (.bool (p x))∧Below W.heap.size W w'):
 Calls Tryz.prog 101 #[v,.func (.func 105) #[] #[.pointer (some ⟨pt,0,none⟩)]] w fun e w'=>e=.returned (.bool (L.any p))∧Below w.heap.size w w':=by
 have HI:=lhd (zf6 pt p v L w hs hF);generalize L.any p=r at HI⊢;obtain⟨a,cap,rfl,hc,hm⟩:=hs.shape;clear hs hF;go_enter Tryz.func101,Tryz.ntmps101;go_wp2_with fail;refine HI.out.mono ?_;rintro e w1 ⟨⟨i,rfl,hi,hi1⟩,hb⟩;have HH:=lhd hi;clear hi;go_wp2_with fail;go_ret;exact⟨zle HH.out,hb⟩
def badD (n:Nat) (v:Vr):Bool:=decide (v.sc< -1)||decide ((n:Int)≤v.sc)||decide (v.sg<0)
theorem zeV (pt:Nat) (x:Vr) (a:Option Addr) (n cap:Nat) (w:World) (hc:w.cell? ⟨pt,0,none⟩=some (.slice a n cap)):
 Calls Tryz.prog 143 #[vrV x,.pointer (some ⟨pt,0,none⟩)] w fun e w'=>e=.returned (.bool (badD n x))∧Below w.heap.size w w':=by
 have hlt:=zbA hc;have hne:pt≠w.heap.size:=Nat.ne_of_lt hlt;obtain⟨nm,ty,sc,sg,rg,mb,lb⟩:=x;by_cases h1:sc< -1
 ·have b1:decide (sc< -1)=true:=by simpa using h1
  have HR:=lhd (show true=badD n ⟨nm,ty,sc,sg,rg,mb,lb⟩by simp[badD,b1]);clear h1;go_enter Tryz.func143,Tryz.ntmps143;go_wp2_with fail;go_ret;exact⟨zle HR.out,(Below.refl _ _).alloc (Nat.le_refl _) _⟩
 ·have b1:decide (sc< -1)=false:=by simpa using h1
  by_cases h2:(n:Int)≤sc
  ·have b2:decide ((n:Int)≤sc)=true:=by simpa using h2
   have HR:=lhd (show true=badD n ⟨nm,ty,sc,sg,rg,mb,lb⟩by simp[badD,b2]);clear h1 h2;go_enter Tryz.func143,Tryz.ntmps143;go_wp2_with fail;go_ret;exact⟨zle HR.out,(Below.refl _ _).alloc (Nat.le_refl _) _⟩
  ·have b2:decide ((n:Int)≤sc)=false:=by simpa using h2
   by_cases h3:sg<0
   ·have b3:decide (sg<0)=true:=by simpa using h3
    have HR:=lhd (show true=badD n ⟨nm,ty,sc,sg,rg,mb,lb⟩by simp[badD,b3]);clear h1 h2 h3;go_enter Tryz.func143,Tryz.ntmps143;go_wp2_with fail;go_ret;exact⟨zle HR.out,(Below.refl _ _).alloc (Nat.le_refl _) _⟩
   ·have b3:decide (sg<0)=false:=by simpa using h3
    have HR:=lhd (show false=badD n ⟨nm,ty,sc,sg,rg,mb,lb⟩by simp[badD,b1,b2,b3]);clear h1 h2 h3;go_enter Tryz.func143,Tryz.ntmps143;go_wp2_with fail;go_ret;exact⟨zle HR.out,(Below.refl _ _).alloc (Nat.le_refl _) _⟩
def scOk (k:Nat):List Sc→Bool
 | []=>true
 |s::t=>decide (-1≤s.2.2)&&decide (s.2.2<(k:Int))&&scOk (k+1) t
theorem zlN:∀(S:List Sc) (k:Nat),(S.zipIdx k).all (fun x=>decide (-1≤x.1.2.2)&&decide (x.1.2.2<(x.2:Int)))=scOk k S
 | [],_=>rfl
 |s::t,k=>by rw[List.zipIdx_cons,List.all_cons,zlN t (k+1)];rfl
theorem zcW (S:List Sc) (V:List Vr):zcV S V=(scOk 0 S&&!V.any (badD S.length)):=by
 unfold zcV;rw[zlN];congr 1
 rw[List.not_any_eq_all_not];congr 1
 funext v
 unfold badD;rw[Bool.eq_iff_iff];simp only[Bool.and_eq_true,decide_eq_true_iff,Bool.not_eq_true',Bool.or_eq_false_iff,decide_eq_false_iff_not];omega
theorem box1 {w W:World} {x:Value} {T:TypeId} (hb:Below (w.alloc (.cells #[x] T)).heap.size (w.alloc (.cells #[x] T)) W):W.cell? ⟨w.heap.size,0,none⟩=some x∧w.heap.size<W.heap.size:=by
 have h1:w.heap.size<(w.alloc (.cells #[x] T)).heap.size:=by simp
 have h2:=hb.size;refine⟨?_,by omega⟩;rw[hb.cell (p:=⟨w.heap.size,0,none⟩) h1];exact(zaq.fresh w #[x] T).cell (j:=0) rfl
theorem zeU (v v2:Value) (S:List Sc) (V:List Vr) (w:World) (hs:SlR w v S.length (scs S)) (hv:SlR w v2 V.length (vrs V)) (hl:S.length≤1000000):
 Calls Tryz.prog 95 #[v,v2] w fun e w'=>e=.returned (.bool (zcV S V))∧Below w.heap.size w w':=by
 have HEQ:=lhd (zcW S V);obtain⟨a,cap,rfl,hc,hm⟩:=hs.shape;have HS:=lhd hs;have HV:=lhd hv;clear hs hv hc hm
 have HX:=lhd (fun W hW=>zce w.heap.size (badD S.length) v2 V W (HV.out.below (zd3 (o:=.cells #[.slice a S.length cap] 22) hW)) (fun x hx U hU=>zeV w.heap.size x a S.length cap U (by
  have h1:=box1 hW;exact(hU.cell (p:=⟨w.heap.size,0,none⟩) h1.2).trans h1.1)))
 go_enter Tryz.func95,Tryz.ntmps95;go_wp2_with fail;have HB0:=lhd (Below.refl (w.alloc (.cells #[.slice a S.length cap] 22)).heap.size (w.alloc (.cells #[.slice a S.length cap] 22)));go_loopw [9] (fun i wr=>∃k:Nat,k≤S.length∧i=.int .i64 k∧scOk k (S.drop k)=scOk 0 S∧Below (w.alloc (.cells #[.slice a S.length cap] 22)).heap.size (w.alloc (.cells #[.slice a S.length cap] 22)) wr) (fun i _=>S.length-(intOf i).toNat)
 case atStart=>exact⟨0,Nat.zero_le _,rfl,rfl,HB0.out⟩
 case round=>
  obtain⟨k,hk,rfl,hgo,hb⟩:=hrel;have HB:=lhd hb;have HGO:=lhd hgo;obtain⟨c0,hz⟩:=box1 hb;clear hgo hb;by_cases hlt:k<S.length
  ·obtain⟨b,o,rfl,hcell⟩:=(HS.out.below (zd3 HB.out)).scs hlt
   have HGO2:=lhd (show(decide (-1≤S[k].2.2)&&decide (S[k].2.2<(k:Int))&&scOk (k+1) (S.drop (k+1)))=scOk 0 S by
    rw[←HGO.out,List.drop_eq_getElem_cons hlt];rfl)
   generalize S[k]=x at hcell HGO2;obtain⟨nm,ty,pa⟩:=x;have d0:wr.cell? ⟨b,o+k*3,none⟩=some (.string (bsB nm)):=hcell 0 _ rfl;have d1:wr.cell? ⟨b,o+k*3+1,none⟩=some (.int .i64 ty):=hcell 1 _ rfl;have d2:wr.cell? ⟨b,o+k*3+2,none⟩=some (.int .i64 pa):=hcell 2 _ rfl;clear hcell;dsimp only at HGO2;by_cases h1:pa< -1
   ·have b1:decide (pa< -1)=true:=by simpa using h1
    have HR:=lhd (show false=zcV S V by
     rw[HEQ.out,←HGO2.out,show decide (-1≤pa)=false by simp;omega];rfl)
    clear h1;go_wp2_with fail;go_ret;exact⟨zle HR.out,zd3 (HB.out.alloc HB.out.size _)⟩
   ·have b1:decide (pa< -1)=false:=by simpa using h1
    by_cases h2:(k:Int)≤pa
    ·have b2:decide ((k:Int)≤pa)=true:=by simpa using h2
     have HR:=lhd (show false=zcV S V by
      rw[HEQ.out,←HGO2.out,show decide (pa<(k:Int))=false by simp;omega,Bool.and_false];rfl)
     clear h1 h2;go_wp2_with fail;go_ret;exact⟨zle HR.out,zd3 (HB.out.alloc HB.out.size _)⟩
    ·have b2:decide ((k:Int)≤pa)=false:=by simpa using h2
     have HGO3:=lhd (show scOk (k+1) (S.drop (k+1))=scOk 0 S by
      rw[←HGO2.out,show decide (-1≤pa)=true by simp;omega,show decide (pa<(k:Int))=true by simp;omega];rfl)
     clear h1 h2;go_wp2_with fail;go_roundw;case rel=>exact⟨k+1,by omega,by go_num,HGO3.out,HB.out.alloc HB.out.size _⟩
     case measure=>simp[intOf];omega
  ·obtain rfl:k=S.length:=by omega
   have HR:=lhd (show(!V.any (badD S.length))=zcV S V by
    rw[HEQ.out,←HGO.out,List.drop_length];rfl)
   generalize V.any (badD S.length)=r at HX HR;go_wp2_with fail;refine(HX.out _ HB.out).mono ?_;rintro e w1 ⟨rfl,hb1⟩;have HB1:=lhd (zd5 (zd3 HB.out) hb1);clear hb1;go_wp2_with fail;go_ret;exact⟨zle HR.out,HB1.out⟩
end Go.Proofs.YtcdekelomkcahaaGreatDoor
