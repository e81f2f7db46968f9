import Derived.Test.YtfppgpamkdkckaaGreatDoorZ00
import Derived.Below
import Derived.Deep.Cut
import Derived.Deep.CutRange
import Derived.Deep.LoopGhost
import Derived.DeepKeys4
import Derived.Lib.IndexAny
import Derived.Lib.LazyBuf
import Derived.Maps.OwnIn
import Derived.Test.YtfppgpamkdkckaaGreatDoorZ05
set_option maxRecDepth 100000
set_option maxHeartbeats 16000000
namespace Go.Proofs.YtfppgpamkdkckaaGreatDoor
open Go.RowKit
set_option linter.unusedSimpArgs false
theorem zpz (base g c a b m:Nat) (l X A Y B Z:List Vr) (w:World) (hg:SO base g l.length c w l) (hl:l=X++(A++(Y++(B++Z)))) (hA:A.length=m) (hB:B.length=m) (ha:X.length=a) (hb:X.length+A.length+Y.length=b) (hn:l.length≤1000):
 Calls Tryz.prog 348 #[.slice (some ⟨g,0,none⟩) l.length c,.int .i64 a,.int .i64 b,.int .i64 m,(.func (.func 208) #[] #[])] w fun e w'=>
  e=.returned (.tuple #[])∧SO base g l.length c w' (X++(B++(Y++(A++Z))))∧Below base w w':=by
 have hlen:l.length=X.length+A.length+Y.length+B.length+Z.length:=by rw[hl];simp only[List.length_append];omega
 have hlo:=hg.lo;have HCAP:=lhd hg.cap;have H0:=lhd (show SO base g l.length c w (swpd X A Y B Z 0)by rw[zqd,←hl];exact hg);have hAB:A.length=B.length:=by omega
 generalize hN:l.length=n at*;clear hg hl;go_enter Tryz.func348,Tryz.ntmps348;go_wp2_with fail;go_loopw [10] (fun i wr=>∃j:Nat,j≤m∧i=.int .i64 j∧SO base g n c wr (swpd X A Y B Z j)∧Below base w wr) (fun i _=>m-(intOf i).toNat)
 case atStart=>exact⟨0,Nat.zero_le _,rfl,H0.out,Below.refl _ _⟩
 case round=>
  obtain⟨j,hj,rfl,hs,hbw⟩:=hrel;have HB:=lhd hbw;clear hbw;by_cases hlt:j<m
  ·obtain⟨X1,Y1,Z1,e1,e2,e3,e4⟩:=zqc (X:=X) (Y:=Y) (Z:=Z) hAB (i:=j) (by omega);rw[e3]at hs;have HE4:=lhd e4;generalize A[j]'(by omega)=x at hs HE4;generalize B[j]'(by omega)=y at hs HE4;have HSW:=lhd (hs.swap (p:=a+j) (q:=b+j) (by omega) (by omega));have hz1:=hs.at;rw[show X1++x::(Y1++y::Z1)=(X1++x::Y1)++y::Z1 by simp]at hs;have hz2:=hs.at;rw[List.length_append,List.length_cons,show X1.length+(Y1.length+1)=b+j by omega]at hz2;rw[show X1.length=a+j by omega]at hz1;obtain⟨p0,p1,p2,p3,p4,p5,p6⟩:=hz1;obtain⟨q0,q1,q2,q3,q4,q5,q6⟩:=hz2;have HS:=lhd hs;have hfz:=zlw hs;have hw1:IntKind.i64.wrap ((a:Int)+(j:Int))=(a:Int)+(j:Int):=IntWalk.i64_in _ (by omega);have hw2:IntKind.i64.wrap ((b:Int)+(j:Int))=(b:Int)+(j:Int):=IntWalk.i64_in _ (by omega);have hw3:IntKind.i64.wrap ((j:Int)+1)=(j:Int)+1:=IntWalk.i64_in _ (by omega);have h1:(0:Int)≤(a:Int)+(j:Int):=by omega
   have h2:(0:Int)≤(b:Int)+(j:Int):=by omega
   have h3:(a:Int)+(j:Int)<(n:Int):=by omega
   have h4:(b:Int)+(j:Int)<(n:Int):=by omega
   have h5:((a:Int)+(j:Int)).toNat=a+j:=by omega
   have h6:((b:Int)+(j:Int)).toNat=b+j:=by omega
   have HE:=lhd (And.intro e1 e2);have hab:¬a=b:=by omega
   have hba:¬b=a:=by omega
   clear hs e1 e2 e3 e4 hAB hA hB ha hb hlen;go_upto_region 3 with fail;go_region
   clear p0 p1 p2 p3 p4 p5 p6 q0 q1 q2 q3 q4 q5 q6 hw1 hw2 h1 h2 h3 h4 h5 h6 hab hba hfz;go_wp2_with fail;go_roundw;case rel=>exact⟨j+1,by omega,by go_num,by rw[HE4.out];exact HSW.out.1.drew,(HB.out.trans HSW.out.2).drew⟩
   case measure=>simp[intOf];omega
  ·obtain rfl:j=m:=by omega
   have HF:=lhd (show SO base g n c wr (X++(B++(Y++(A++Z))))by rw[←hA,zqb hAB]at hs;exact hs);clear hs;go_wp2_with fail;go_end0
   exact⟨rfl,HF.out,HB.out⟩
theorem zpw (base g c a m b:Nat) (l P A B S:List Vr) (w:World) (hg:SO base g l.length c w l) (hl:l=P++(A++(B++S))) (hp:P.length=a) (hA:a+A.length=m) (hB:m+B.length=b) (h0:0<A.length) (h1:0<B.length) (hn:l.length≤1000):
 Calls Tryz.prog 333 #[.slice (some ⟨g,0,none⟩) l.length c,.int .i64 a,.int .i64 m,.int .i64 b,(.func (.func 208) #[] #[])] w fun e w'=>
  e=.returned (.tuple #[])∧SO base g l.length c w' (P++(B++(A++S)))∧Below base w w':=by
 have hlen:l.length=P.length+A.length+B.length+S.length:=by rw[hl];simp only[List.length_append];omega
 have hR:Rot m A.length B.length l (P++(B++(A++S))):=⟨P,A,B,S,hl,rfl,by omega,rfl,rfl⟩;have HT:=lhd (show(P++(B++(A++S))).length=l.length by rw[hlen];simp only[List.length_append];omega);have e1:IntKind.i64.wrap ((m:Int)-(a:Int))=(A.length:Int):=by rw[IntWalk.i64_in _ (by omega)];omega
 have e2:IntKind.i64.wrap ((b:Int)-(m:Int))=(B.length:Int):=by rw[IntWalk.i64_in _ (by omega)];omega
 have h2:m≤1000:=by omega
 have h3:B.length≤1000:=by omega
 have h4:A.length≤m:=by omega
 have HR0:=lhd hR;have H0:=lhd hg;generalize hN:l.length=n at*;generalize P++(B++(A++S))=t at*;generalize A.length=i0 at*;generalize B.length=j0 at*;clear hg hl hlen hR hp hA hB;go_enter Tryz.func333,Tryz.ntmps333;go_wp2_with fail;clear e1 e2;go_loopw [10,11] (fun vi vj wr=>∃(i j:Nat) (l2:List Vr),vi=.int .i64 i∧vj=.int .i64 j∧0<i∧0<j∧i≤m∧j≤1000∧Rot m i j l2 t∧SO base g n c wr l2∧Below base w wr) (fun vi vj _=>(intOf vi).toNat+(intOf vj).toNat)
 case atStart=>exact⟨i0,j0,l,rfl,rfl,h0,h1,h4,h3,HR0.out,H0.out,Below.refl _ _⟩
 case round=>
  obtain⟨i,j,l2,rfl,rfl,hi,hj,him,hj1,hr,hs,hb⟩:=hrel;have HB:=lhd hb;have hl2:=hs.len;clear hb;by_cases hij:i=j
  ·subst hij;obtain⟨X,A',B',Z,f1,f2,f3,f4,f5⟩:=hr.last;have hne:((i:Int) !=(i:Int))=false:=by simp
   have hw1:IntKind.i64.wrap ((m:Int)-(i:Int))=((m-i:Nat):Int):=by rw[IntWalk.i64_in _ (by omega)];omega
   have HS:=lhd (zpz base g c (m-i) m i l2 X A' [] B' Z wr (by rw[hl2];exact hs) f1 f3 f4 (by omega) (by simp;omega) (by omega));rw[hl2,←f5]at HS;clear hr hs f1 f2 f3 f4 f5 hl2;go_wp2_with fail;refine HS.out.mono ?_;rintro e w1 ⟨rfl,hs1,hb1⟩;have H1:=lhd hs1;have HB1:=lhd (HB.out.trans hb1);clear hs1 hb1;go_wp2_with fail;go_end0
   exact⟨rfl,H1.out,HB1.out⟩
  ·have hne:((i:Int) !=(j:Int))=true:=by rw[bne_iff_ne];omega
   have hw1:IntKind.i64.wrap ((m:Int)-(i:Int))=((m-i:Nat):Int):=by rw[IntWalk.i64_in _ (by omega)];omega
   by_cases hlt:j<i
   ·obtain⟨X,A',Y,B',Z,f1,f2,f3,f4,f5,f6⟩:=hr.more hlt;have hd:decide ((j:Int)<(i:Int))=true:=by rw[decide_eq_true_iff];omega
    have hw2:IntKind.i64.wrap ((i:Int)-(j:Int))=((i-j:Nat):Int):=by rw[IntWalk.i64_in _ (by omega)];omega
    have HS:=lhd (zpz base g c (m-i) m j l2 X A' Y B' Z wr (by rw[hl2];exact hs) f1 f3 f4 (by omega) (by omega) (by omega));rw[hl2]at HS;have HR:=lhd f6;clear hr hs f1 f2 f3 f4 f5 f6 hl2 hij;go_wp2_with fail;refine HS.out.mono ?_;rintro e w1 ⟨rfl,hs1,hb1⟩;have H1:=lhd hs1;have HB1:=lhd (HB.out.trans hb1);clear hs1 hb1;go_wp2_with fail;go_roundw;case rel=>exact⟨i-j,j,_,rfl,rfl,by omega,hj,by omega,hj1,HR.out,H1.out,HB1.out⟩
    case measure=>simp[intOf];omega
   ·have hlt2:i<j:=by omega
    obtain⟨X,A',Y,B',Z,f1,f2,f3,f4,f5,f6⟩:=hr.less hlt2;have hd:decide ((j:Int)<(i:Int))=false:=by rw[decide_eq_false_iff_not];omega
    have hw2:IntKind.i64.wrap ((j:Int)-(i:Int))=((j-i:Nat):Int):=by rw[IntWalk.i64_in _ (by omega)];omega
    have hw3:IntKind.i64.wrap ((m:Int)+(j:Int))=(m:Int)+(j:Int):=IntWalk.i64_in _ (by omega);have hw4:IntKind.i64.wrap ((m:Int)+(j:Int)-(i:Int))=(m:Int)+(j:Int)-(i:Int):=IntWalk.i64_in _ (by omega);have HS:=lhd (zpz base g c (m-i) (m+j-i) i l2 X A' Y B' Z wr (by rw[hl2];exact hs) f1 f3 f4 (by omega) (by omega) (by omega));rw[hl2,show((m+j-i:Nat):Int)=(m:Int)+(j:Int)-(i:Int)by omega]at HS;have HR:=lhd f6;clear hr hs f1 f2 f3 f4 f5 f6 hl2 hij;go_wp2_with fail;refine HS.out.mono ?_;rintro e w1 ⟨rfl,hs1,hb1⟩;have H1:=lhd hs1;have HB1:=lhd (HB.out.trans hb1);clear hs1 hb1;go_wp2_with fail;go_roundw;case rel=>exact⟨i,j-i,_,rfl,rfl,hi,by omega,him,by omega,HR.out,H1.out,HB1.out⟩
    case measure=>simp[intOf];omega
set_option linter.unusedVariables false
section
variable {α : Type} (k : α → Int)
def cs (n:Nat) (l:List α):List α:=if h:l.length≤n∨n=0 then zhk k l else zhk k (l.take n)++cs n (l.drop n)
termination_by l.length
decreasing_by rw[List.length_drop];omega
variable {k}
theorem zdt {n:Nat} {l:List α} (h:l.length≤n):cs k n l=zhk k l:=by
 rw[cs,dif_pos (Or.inl h)]
theorem zdu (n:Nat):cs k n ([]:List α)=[]:=by rw[zdt (Nat.zero_le _)];rfl
theorem zdv {n:Nat} {l:List α} (h0:0<n) (h:n≤l.length):cs k n l=zhk k (l.take n)++cs k n (l.drop n):=by
 by_cases h1:l.length≤n
 ·rw[zdt h1,List.take_of_length_le h1,List.drop_eq_nil_of_le h1,zdu,List.append_nil]
 ·rw[cs,dif_neg (by omega)]
theorem zdx {n:Nat} {l:List α} (h0:0<n) (h:2*n≤l.length):
 cs k n l=zhk k (l.take n)++(zhk k ((l.drop n).take n)++cs k n (l.drop (2*n)))∧
  mrg k (zhk k (l.take n)) (zhk k ((l.drop n).take n))=zhk k (l.take (2*n))∧cs k (2*n) l=zhk k (l.take (2*n))++cs k (2*n) (l.drop (2*n)):=by
 refine⟨?_,?_,zdv (by omega) h⟩
 ·rw[zdv h0 (by omega),zdv h0 (l:=l.drop n) (by rw[List.length_drop];omega),List.drop_drop,Nat.two_mul]
 ·rw[←zhl,Nat.two_mul,List.take_add]
theorem zdw {n:Nat} {l:List α} (h0:0<n) (h:n<l.length) (h2:l.length≤2*n):
 cs k n l=zhk k (l.take n)++zhk k (l.drop n)∧mrg k (zhk k (l.take n)) (zhk k (l.drop n))=cs k (2*n) l:=by
 refine⟨?_,?_⟩
 ·rw[zdv h0 (by omega),zdt (l:=l.drop n) (by rw[List.length_drop];omega)]
 ·rw[←zhl,List.take_append_drop,zdt h2]
end
open Go.RowKit
set_option linter.unusedSimpArgs false
def IxP (b:Bool) (w:World) (e:Ending) (w':World):Prop:=(∃i:Int,e=.returned (.int .i64 i)∧decide (0≤i)=b∧ -1≤i)∧Below w.heap.size w w'
theorem zaQ {α:Type} {p:α→Bool} {L:List α} {j:Nat} (h:j<L.length):(L.drop j).any p=(p L[j]||(L.drop (j+1)).any p):=by
 rw[List.drop_eq_getElem_cons h,List.any_cons]
theorem zhC (pt:Nat) (p:Vr→Bool) (v:Value) (L:List (Vr)) (w:World) (hs:SlR w v L.length (vrs L))
 (hF:∀x∈L,∀W,Below w.heap.size w W→Calls Tryz.prog 300 #[vrV x,.pointer (some ⟨pt,0,none⟩)] W fun e w'=>e=.returned (.bool (p x))∧Below W.heap.size W w'):
 Calls Tryz.prog 304 #[v,.func (.func 300) #[] #[.pointer (some ⟨pt,0,none⟩)]] w (IxP (L.any p) w):=by
 obtain⟨a,cap,rfl,hc,hm⟩:=hs.shape;unfold maxLen at hm;have HS:=lhd hs;have HF:=lhd hF;clear hs hF;go_enter Tryz.func304,Tryz.ntmps304;go_wp2_with fail;go_loopw [8] (fun i wr=>∃j:Nat,j≤L.length∧i=.int .i64 j∧(L.drop j).any p=L.any p∧Below w.heap.size w wr) (fun i _=>L.length-(intOf i).toNat)
 case atStart=>exact⟨0,Nat.zero_le _,rfl,rfl,Below.refl _ _⟩
 case round=>
  obtain⟨j,hj,rfl,hgo,hb⟩:=hrel;have HGO:=lhd hgo;have HB:=lhd hb;clear hgo hb;by_cases hlt:j<L.length
  ·obtain⟨b,o,rfl,hcell⟩:=(HS.out.below HB.out).vrs hlt;have HC:=lhd (fun W hW=>HF.out L[j] (List.getElem_mem hlt) W hW);have HGO2:=lhd ((zaQ (p:=p) hlt).symm.trans HGO.out);have HPX:=lhd (Eq.refl (p L[j]));generalize L[j]=x at hcell HC HGO2 HPX;obtain⟨px,hpx⟩:∃px,px=p x:=⟨_,rfl⟩;rw[←hpx]at HC HGO2;clear HPX hpx;obtain⟨nm,ty,sc,sg,rg,mb,lb⟩:=x;have d0:wr.cell? ⟨b,o+j*7,none⟩=some (.string (bsB nm)):=hcell 0 _ rfl;have d1:wr.cell? ⟨b,o+j*7+1,none⟩=some (.int .i64 ty):=hcell 1 _ rfl;have d2:wr.cell? ⟨b,o+j*7+2,none⟩=some (.int .i64 sc):=hcell 2 _ rfl;have d3:wr.cell? ⟨b,o+j*7+3,none⟩=some (.int .i64 sg):=hcell 3 _ rfl;have d4:wr.cell? ⟨b,o+j*7+4,none⟩=some (.bool rg):=hcell 4 _ rfl;have d5:wr.cell? ⟨b,o+j*7+5,none⟩=some (.int .i64 mb):=hcell 5 _ rfl;have d6:wr.cell? ⟨b,o+j*7+6,none⟩=some (.int .i64 lb):=hcell 6 _ rfl;clear hcell;go_wp2_with fail;refine(HC.out _ HB.out).mono ?_;rintro e w1 ⟨rfl,hb1⟩;have HB1:=lhd (zfj HB.out hb1);clear hb1;cases px
   ·have HGO3:=lhd (show(L.drop (j+1)).any p=L.any p by rw[←HGO2.out,Bool.false_or]);go_wp2_with fail;go_roundw;case rel=>exact⟨j+1,by omega,by go_num,HGO3.out,HB1.out⟩
    case measure=>simp[intOf];omega
   ·have HR:=lhd (show true=L.any p by rw[←HGO2.out];rfl);go_wp2_with fail;go_ret;exact⟨⟨j,rfl,by rw[←HR.out];simp,by omega⟩,HB1.out⟩
  ·obtain rfl:j=L.length:=by omega
   have HR:=lhd (show false=L.any p by rw[←HGO.out,List.drop_length];rfl);go_wp2_with fail;go_ret;exact⟨⟨-1,rfl,by rw[←HR.out];rfl,by omega⟩,HB.out⟩
theorem zdb (pt:Nat) (p:Vr→Bool) (v:Value) (L:List (Vr)) (w:World) (hs:SlR w v L.length (vrs L))
 (hF:∀x∈L,∀W,Below w.heap.size w W→Calls Tryz.prog 300 #[vrV x,.pointer (some ⟨pt,0,none⟩)] W fun e w'=>e=.returned (.bool (p x))∧Below W.heap.size W w'):
 Calls Tryz.prog 265 #[v,.func (.func 300) #[] #[.pointer (some ⟨pt,0,none⟩)]] w fun e w'=>e=.returned (.bool (L.any p))∧Below w.heap.size w w':=by
 have HI:=lhd (zhC pt p v L w hs hF);generalize L.any p=r at HI⊢;obtain⟨a,cap,rfl,hc,hm⟩:=hs.shape;clear hs hF;go_enter Tryz.func265,Tryz.ntmps265;go_wp2_with fail;refine HI.out.mono ?_;rintro e w1 ⟨⟨i,rfl,hi,hi1⟩,hb⟩;have HH:=lhd hi;clear hi;go_wp2_with fail;go_ret;exact⟨znc HH.out,hb⟩
theorem zhJ (pt:Nat) (p:Vr→Bool) (v:Value) (L:List (Vr)) (w:World) (hs:SlR w v L.length (vrs L))
 (hF:∀x∈L,∀W,Below w.heap.size w W→Calls Tryz.prog 266 #[vrV x,.pointer (some ⟨pt,0,none⟩)] W fun e w'=>e=.returned (.bool (p x))∧Below W.heap.size W w'):
 Calls Tryz.prog 304 #[v,.func (.func 266) #[] #[.pointer (some ⟨pt,0,none⟩)]] w (IxP (L.any p) w):=by
 obtain⟨a,cap,rfl,hc,hm⟩:=hs.shape;unfold maxLen at hm;have HS:=lhd hs;have HF:=lhd hF;clear hs hF;go_enter Tryz.func304,Tryz.ntmps304;go_wp2_with fail;go_loopw [8] (fun i wr=>∃j:Nat,j≤L.length∧i=.int .i64 j∧(L.drop j).any p=L.any p∧Below w.heap.size w wr) (fun i _=>L.length-(intOf i).toNat)
 case atStart=>exact⟨0,Nat.zero_le _,rfl,rfl,Below.refl _ _⟩
 case round=>
  obtain⟨j,hj,rfl,hgo,hb⟩:=hrel;have HGO:=lhd hgo;have HB:=lhd hb;clear hgo hb;by_cases hlt:j<L.length
  ·obtain⟨b,o,rfl,hcell⟩:=(HS.out.below HB.out).vrs hlt;have HC:=lhd (fun W hW=>HF.out L[j] (List.getElem_mem hlt) W hW);have HGO2:=lhd ((zaQ (p:=p) hlt).symm.trans HGO.out);have HPX:=lhd (Eq.refl (p L[j]));generalize L[j]=x at hcell HC HGO2 HPX;obtain⟨px,hpx⟩:∃px,px=p x:=⟨_,rfl⟩;rw[←hpx]at HC HGO2;clear HPX hpx;obtain⟨nm,ty,sc,sg,rg,mb,lb⟩:=x;have d0:wr.cell? ⟨b,o+j*7,none⟩=some (.string (bsB nm)):=hcell 0 _ rfl;have d1:wr.cell? ⟨b,o+j*7+1,none⟩=some (.int .i64 ty):=hcell 1 _ rfl;have d2:wr.cell? ⟨b,o+j*7+2,none⟩=some (.int .i64 sc):=hcell 2 _ rfl;have d3:wr.cell? ⟨b,o+j*7+3,none⟩=some (.int .i64 sg):=hcell 3 _ rfl;have d4:wr.cell? ⟨b,o+j*7+4,none⟩=some (.bool rg):=hcell 4 _ rfl;have d5:wr.cell? ⟨b,o+j*7+5,none⟩=some (.int .i64 mb):=hcell 5 _ rfl;have d6:wr.cell? ⟨b,o+j*7+6,none⟩=some (.int .i64 lb):=hcell 6 _ rfl;clear hcell;go_wp2_with fail;refine(HC.out _ HB.out).mono ?_;rintro e w1 ⟨rfl,hb1⟩;have HB1:=lhd (zfj HB.out hb1);clear hb1;cases px
   ·have HGO3:=lhd (show(L.drop (j+1)).any p=L.any p by rw[←HGO2.out,Bool.false_or]);go_wp2_with fail;go_roundw;case rel=>exact⟨j+1,by omega,by go_num,HGO3.out,HB1.out⟩
    case measure=>simp[intOf];omega
   ·have HR:=lhd (show true=L.any p by rw[←HGO2.out];rfl);go_wp2_with fail;go_ret;exact⟨⟨j,rfl,by rw[←HR.out];simp,by omega⟩,HB1.out⟩
  ·obtain rfl:j=L.length:=by omega
   have HR:=lhd (show false=L.any p by rw[←HGO.out,List.drop_length];rfl);go_wp2_with fail;go_ret;exact⟨⟨-1,rfl,by rw[←HR.out];rfl,by omega⟩,HB.out⟩
theorem zdj (pt:Nat) (p:Vr→Bool) (v:Value) (L:List (Vr)) (w:World) (hs:SlR w v L.length (vrs L))
 (hF:∀x∈L,∀W,Below w.heap.size w W→Calls Tryz.prog 266 #[vrV x,.pointer (some ⟨pt,0,none⟩)] W fun e w'=>e=.returned (.bool (p x))∧Below W.heap.size W w'):
 Calls Tryz.prog 265 #[v,.func (.func 266) #[] #[.pointer (some ⟨pt,0,none⟩)]] w fun e w'=>e=.returned (.bool (L.any p))∧Below w.heap.size w w':=by
 have HI:=lhd (zhJ pt p v L w hs hF);generalize L.any p=r at HI⊢;obtain⟨a,cap,rfl,hc,hm⟩:=hs.shape;clear hs hF;go_enter Tryz.func265,Tryz.ntmps265;go_wp2_with fail;refine HI.out.mono ?_;rintro e w1 ⟨⟨i,rfl,hi,hi1⟩,hb⟩;have HH:=lhd hi;clear hi;go_wp2_with fail;go_ret;exact⟨znc HH.out,hb⟩
theorem zhL (pt:Nat) (p:Vr→Bool) (v:Value) (L:List (Vr)) (w:World) (hs:SlR w v L.length (vrs L))
 (hF:∀x∈L,∀W,Below w.heap.size w W→Calls Tryz.prog 268 #[vrV x,.pointer (some ⟨pt,0,none⟩)] W fun e w'=>e=.returned (.bool (p x))∧Below W.heap.size W w'):
 Calls Tryz.prog 304 #[v,.func (.func 268) #[] #[.pointer (some ⟨pt,0,none⟩)]] w (IxP (L.any p) w):=by
 obtain⟨a,cap,rfl,hc,hm⟩:=hs.shape;unfold maxLen at hm;have HS:=lhd hs;have HF:=lhd hF;clear hs hF;go_enter Tryz.func304,Tryz.ntmps304;go_wp2_with fail;go_loopw [8] (fun i wr=>∃j:Nat,j≤L.length∧i=.int .i64 j∧(L.drop j).any p=L.any p∧Below w.heap.size w wr) (fun i _=>L.length-(intOf i).toNat)
 case atStart=>exact⟨0,Nat.zero_le _,rfl,rfl,Below.refl _ _⟩
 case round=>
  obtain⟨j,hj,rfl,hgo,hb⟩:=hrel;have HGO:=lhd hgo;have HB:=lhd hb;clear hgo hb;by_cases hlt:j<L.length
  ·obtain⟨b,o,rfl,hcell⟩:=(HS.out.below HB.out).vrs hlt;have HC:=lhd (fun W hW=>HF.out L[j] (List.getElem_mem hlt) W hW);have HGO2:=lhd ((zaQ (p:=p) hlt).symm.trans HGO.out);have HPX:=lhd (Eq.refl (p L[j]));generalize L[j]=x at hcell HC HGO2 HPX;obtain⟨px,hpx⟩:∃px,px=p x:=⟨_,rfl⟩;rw[←hpx]at HC HGO2;clear HPX hpx;obtain⟨nm,ty,sc,sg,rg,mb,lb⟩:=x;have d0:wr.cell? ⟨b,o+j*7,none⟩=some (.string (bsB nm)):=hcell 0 _ rfl;have d1:wr.cell? ⟨b,o+j*7+1,none⟩=some (.int .i64 ty):=hcell 1 _ rfl;have d2:wr.cell? ⟨b,o+j*7+2,none⟩=some (.int .i64 sc):=hcell 2 _ rfl;have d3:wr.cell? ⟨b,o+j*7+3,none⟩=some (.int .i64 sg):=hcell 3 _ rfl;have d4:wr.cell? ⟨b,o+j*7+4,none⟩=some (.bool rg):=hcell 4 _ rfl;have d5:wr.cell? ⟨b,o+j*7+5,none⟩=some (.int .i64 mb):=hcell 5 _ rfl;have d6:wr.cell? ⟨b,o+j*7+6,none⟩=some (.int .i64 lb):=hcell 6 _ rfl;clear hcell;go_wp2_with fail;refine(HC.out _ HB.out).mono ?_;rintro e w1 ⟨rfl,hb1⟩;have HB1:=lhd (zfj HB.out hb1);clear hb1;cases px
   ·have HGO3:=lhd (show(L.drop (j+1)).any p=L.any p by rw[←HGO2.out,Bool.false_or]);go_wp2_with fail;go_roundw;case rel=>exact⟨j+1,by omega,by go_num,HGO3.out,HB1.out⟩
    case measure=>simp[intOf];omega
   ·have HR:=lhd (show true=L.any p by rw[←HGO2.out];rfl);go_wp2_with fail;go_ret;exact⟨⟨j,rfl,by rw[←HR.out];simp,by omega⟩,HB1.out⟩
  ·obtain rfl:j=L.length:=by omega
   have HR:=lhd (show false=L.any p by rw[←HGO.out,List.drop_length];rfl);go_wp2_with fail;go_ret;exact⟨⟨-1,rfl,by rw[←HR.out];rfl,by omega⟩,HB.out⟩
theorem zdl (pt:Nat) (p:Vr→Bool) (v:Value) (L:List (Vr)) (w:World) (hs:SlR w v L.length (vrs L))
 (hF:∀x∈L,∀W,Below w.heap.size w W→Calls Tryz.prog 268 #[vrV x,.pointer (some ⟨pt,0,none⟩)] W fun e w'=>e=.returned (.bool (p x))∧Below W.heap.size W w'):
 Calls Tryz.prog 265 #[v,.func (.func 268) #[] #[.pointer (some ⟨pt,0,none⟩)]] w fun e w'=>e=.returned (.bool (L.any p))∧Below w.heap.size w w':=by
 have HI:=lhd (zhL pt p v L w hs hF);generalize L.any p=r at HI⊢;obtain⟨a,cap,rfl,hc,hm⟩:=hs.shape;clear hs hF;go_enter Tryz.func265,Tryz.ntmps265;go_wp2_with fail;refine HI.out.mono ?_;rintro e w1 ⟨⟨i,rfl,hi,hi1⟩,hb⟩;have HH:=lhd hi;clear hi;go_wp2_with fail;go_ret;exact⟨znc HH.out,hb⟩
theorem zhK (_pt:Nat) (p:Vr→Bool) (v:Value) (L:List (Vr)) (w:World) (hs:SlR w v L.length (vrs L))
 (hF:∀x∈L,∀W,Below w.heap.size w W→Calls Tryz.prog 262 #[vrV x] W fun e w'=>e=.returned (.bool (p x))∧Below W.heap.size W w'):
 Calls Tryz.prog 304 #[v,.func (.func 262) #[] #[]] w (IxP (L.any p) w):=by
 obtain⟨a,cap,rfl,hc,hm⟩:=hs.shape;unfold maxLen at hm;have HS:=lhd hs;have HF:=lhd hF;clear hs hF;go_enter Tryz.func304,Tryz.ntmps304;go_wp2_with fail;go_loopw [8] (fun i wr=>∃j:Nat,j≤L.length∧i=.int .i64 j∧(L.drop j).any p=L.any p∧Below w.heap.size w wr) (fun i _=>L.length-(intOf i).toNat)
 case atStart=>exact⟨0,Nat.zero_le _,rfl,rfl,Below.refl _ _⟩
 case round=>
  obtain⟨j,hj,rfl,hgo,hb⟩:=hrel;have HGO:=lhd hgo;have HB:=lhd hb;clear hgo hb;by_cases hlt:j<L.length
  ·obtain⟨b,o,rfl,hcell⟩:=(HS.out.below HB.out).vrs hlt;have HC:=lhd (fun W hW=>HF.out L[j] (List.getElem_mem hlt) W hW);have HGO2:=lhd ((zaQ (p:=p) hlt).symm.trans HGO.out);have HPX:=lhd (Eq.refl (p L[j]));generalize L[j]=x at hcell HC HGO2 HPX;obtain⟨px,hpx⟩:∃px,px=p x:=⟨_,rfl⟩;rw[←hpx]at HC HGO2;clear HPX hpx;obtain⟨nm,ty,sc,sg,rg,mb,lb⟩:=x;have d0:wr.cell? ⟨b,o+j*7,none⟩=some (.string (bsB nm)):=hcell 0 _ rfl;have d1:wr.cell? ⟨b,o+j*7+1,none⟩=some (.int .i64 ty):=hcell 1 _ rfl;have d2:wr.cell? ⟨b,o+j*7+2,none⟩=some (.int .i64 sc):=hcell 2 _ rfl;have d3:wr.cell? ⟨b,o+j*7+3,none⟩=some (.int .i64 sg):=hcell 3 _ rfl;have d4:wr.cell? ⟨b,o+j*7+4,none⟩=some (.bool rg):=hcell 4 _ rfl;have d5:wr.cell? ⟨b,o+j*7+5,none⟩=some (.int .i64 mb):=hcell 5 _ rfl;have d6:wr.cell? ⟨b,o+j*7+6,none⟩=some (.int .i64 lb):=hcell 6 _ rfl;clear hcell;go_wp2_with fail;refine(HC.out _ HB.out).mono ?_;rintro e w1 ⟨rfl,hb1⟩;have HB1:=lhd (zfj HB.out hb1);clear hb1;cases px
   ·have HGO3:=lhd (show(L.drop (j+1)).any p=L.any p by rw[←HGO2.out,Bool.false_or]);go_wp2_with fail;go_roundw;case rel=>exact⟨j+1,by omega,by go_num,HGO3.out,HB1.out⟩
    case measure=>simp[intOf];omega
   ·have HR:=lhd (show true=L.any p by rw[←HGO2.out];rfl);go_wp2_with fail;go_ret;exact⟨⟨j,rfl,by rw[←HR.out];simp,by omega⟩,HB1.out⟩
  ·obtain rfl:j=L.length:=by omega
   have HR:=lhd (show false=L.any p by rw[←HGO.out,List.drop_length];rfl);go_wp2_with fail;go_ret;exact⟨⟨-1,rfl,by rw[←HR.out];rfl,by omega⟩,HB.out⟩
theorem zdk (_pt:Nat) (p:Vr→Bool) (v:Value) (L:List (Vr)) (w:World) (hs:SlR w v L.length (vrs L))
 (hF:∀x∈L,∀W,Below w.heap.size w W→Calls Tryz.prog 262 #[vrV x] W fun e w'=>e=.returned (.bool (p x))∧Below W.heap.size W w'):
 Calls Tryz.prog 265 #[v,.func (.func 262) #[] #[]] w fun e w'=>e=.returned (.bool (L.any p))∧Below w.heap.size w w':=by
 have HI:=lhd (zhK _pt p v L w hs hF);generalize L.any p=r at HI⊢;obtain⟨a,cap,rfl,hc,hm⟩:=hs.shape;clear hs hF;go_enter Tryz.func265,Tryz.ntmps265;go_wp2_with fail;refine HI.out.mono ?_;rintro e w1 ⟨⟨i,rfl,hi,hi1⟩,hb⟩;have HH:=lhd hi;clear hi;go_wp2_with fail;go_ret;exact⟨znc HH.out,hb⟩
theorem zhG (pt:Nat) (p:Sc→Bool) (v:Value) (L:List (Sc)) (w:World) (hs:SlR w v L.length (scs L))
 (hF:∀x∈L,∀W,Below w.heap.size w W→Calls Tryz.prog 264 #[scV x,.pointer (some ⟨pt,0,none⟩)] W fun e w'=>e=.returned (.bool (p x))∧Below W.heap.size W w'):
 Calls Tryz.prog 303 #[v,.func (.func 264) #[] #[.pointer (some ⟨pt,0,none⟩)]] w (IxP (L.any p) w):=by
 obtain⟨a,cap,rfl,hc,hm⟩:=hs.shape;unfold maxLen at hm;have HS:=lhd hs;have HF:=lhd hF;clear hs hF;go_enter Tryz.func303,Tryz.ntmps303;go_wp2_with fail;go_loopw [8] (fun i wr=>∃j:Nat,j≤L.length∧i=.int .i64 j∧(L.drop j).any p=L.any p∧Below w.heap.size w wr) (fun i _=>L.length-(intOf i).toNat)
 case atStart=>exact⟨0,Nat.zero_le _,rfl,rfl,Below.refl _ _⟩
 case round=>
  obtain⟨j,hj,rfl,hgo,hb⟩:=hrel;have HGO:=lhd hgo;have HB:=lhd hb;clear hgo hb;by_cases hlt:j<L.length
  ·obtain⟨b,o,rfl,hcell⟩:=(HS.out.below HB.out).scs hlt;have HC:=lhd (fun W hW=>HF.out L[j] (List.getElem_mem hlt) W hW);have HGO2:=lhd ((zaQ (p:=p) hlt).symm.trans HGO.out);have HPX:=lhd (Eq.refl (p L[j]));generalize L[j]=x at hcell HC HGO2 HPX;obtain⟨px,hpx⟩:∃px,px=p x:=⟨_,rfl⟩;rw[←hpx]at HC HGO2;clear HPX hpx;obtain⟨nm,ty,pa⟩:=x;have d0:wr.cell? ⟨b,o+j*3,none⟩=some (.string (bsB nm)):=hcell 0 _ rfl;have d1:wr.cell? ⟨b,o+j*3+1,none⟩=some (.int .i64 ty):=hcell 1 _ rfl;have d2:wr.cell? ⟨b,o+j*3+2,none⟩=some (.int .i64 pa):=hcell 2 _ rfl;clear hcell;go_wp2_with fail;refine(HC.out _ HB.out).mono ?_;rintro e w1 ⟨rfl,hb1⟩;have HB1:=lhd (zfj HB.out hb1);clear hb1;cases px
   ·have HGO3:=lhd (show(L.drop (j+1)).any p=L.any p by rw[←HGO2.out,Bool.false_or]);go_wp2_with fail;go_roundw;case rel=>exact⟨j+1,by omega,by go_num,HGO3.out,HB1.out⟩
    case measure=>simp[intOf];omega
   ·have HR:=lhd (show true=L.any p by rw[←HGO2.out];rfl);go_wp2_with fail;go_ret;exact⟨⟨j,rfl,by rw[←HR.out];simp,by omega⟩,HB1.out⟩
  ·obtain rfl:j=L.length:=by omega
   have HR:=lhd (show false=L.any p by rw[←HGO.out,List.drop_length];rfl);go_wp2_with fail;go_ret;exact⟨⟨-1,rfl,by rw[←HR.out];rfl,by omega⟩,HB.out⟩
theorem zdh (pt:Nat) (p:Sc→Bool) (v:Value) (L:List (Sc)) (w:World) (hs:SlR w v L.length (scs L))
 (hF:∀x∈L,∀W,Below w.heap.size w W→Calls Tryz.prog 264 #[scV x,.pointer (some ⟨pt,0,none⟩)] W fun e w'=>e=.returned (.bool (p x))∧Below W.heap.size W w'):
 Calls Tryz.prog 263 #[v,.func (.func 264) #[] #[.pointer (some ⟨pt,0,none⟩)]] w fun e w'=>e=.returned (.bool (L.any p))∧Below w.heap.size w w':=by
 have HI:=lhd (zhG pt p v L w hs hF);generalize L.any p=r at HI⊢;obtain⟨a,cap,rfl,hc,hm⟩:=hs.shape;clear hs hF;go_enter Tryz.func263,Tryz.ntmps263;go_wp2_with fail;refine HI.out.mono ?_;rintro e w1 ⟨⟨i,rfl,hi,hi1⟩,hb⟩;have HH:=lhd hi;clear hi;go_wp2_with fail;go_ret;exact⟨znc HH.out,hb⟩
theorem zhI (pt:Nat) (p:Sc→Bool) (v:Value) (L:List (Sc)) (w:World) (hs:SlR w v L.length (scs L))
 (hF:∀x∈L,∀W,Below w.heap.size w W→Calls Tryz.prog 267 #[scV x,.pointer (some ⟨pt,0,none⟩)] W fun e w'=>e=.returned (.bool (p x))∧Below W.heap.size W w'):
 Calls Tryz.prog 303 #[v,.func (.func 267) #[] #[.pointer (some ⟨pt,0,none⟩)]] w (IxP (L.any p) w):=by
 obtain⟨a,cap,rfl,hc,hm⟩:=hs.shape;unfold maxLen at hm;have HS:=lhd hs;have HF:=lhd hF;clear hs hF;go_enter Tryz.func303,Tryz.ntmps303;go_wp2_with fail;go_loopw [8] (fun i wr=>∃j:Nat,j≤L.length∧i=.int .i64 j∧(L.drop j).any p=L.any p∧Below w.heap.size w wr) (fun i _=>L.length-(intOf i).toNat)
 case atStart=>exact⟨0,Nat.zero_le _,rfl,rfl,Below.refl _ _⟩
 case round=>
  obtain⟨j,hj,rfl,hgo,hb⟩:=hrel;have HGO:=lhd hgo;have HB:=lhd hb;clear hgo hb;by_cases hlt:j<L.length
  ·obtain⟨b,o,rfl,hcell⟩:=(HS.out.below HB.out).scs hlt;have HC:=lhd (fun W hW=>HF.out L[j] (List.getElem_mem hlt) W hW);have HGO2:=lhd ((zaQ (p:=p) hlt).symm.trans HGO.out);have HPX:=lhd (Eq.refl (p L[j]));generalize L[j]=x at hcell HC HGO2 HPX;obtain⟨px,hpx⟩:∃px,px=p x:=⟨_,rfl⟩;rw[←hpx]at HC HGO2;clear HPX hpx;obtain⟨nm,ty,pa⟩:=x;have d0:wr.cell? ⟨b,o+j*3,none⟩=some (.string (bsB nm)):=hcell 0 _ rfl;have d1:wr.cell? ⟨b,o+j*3+1,none⟩=some (.int .i64 ty):=hcell 1 _ rfl;have d2:wr.cell? ⟨b,o+j*3+2,none⟩=some (.int .i64 pa):=hcell 2 _ rfl;clear hcell;go_wp2_with fail;refine(HC.out _ HB.out).mono ?_;rintro e w1 ⟨rfl,hb1⟩;have HB1:=lhd (zfj HB.out hb1);clear hb1;cases px
   ·have HGO3:=lhd (show(L.drop (j+1)).any p=L.any p by rw[←HGO2.out,Bool.false_or]);go_wp2_with fail;go_roundw;case rel=>exact⟨j+1,by omega,by go_num,HGO3.out,HB1.out⟩
    case measure=>simp[intOf];omega
   ·have HR:=lhd (show true=L.any p by rw[←HGO2.out];rfl);go_wp2_with fail;go_ret;exact⟨⟨j,rfl,by rw[←HR.out];simp,by omega⟩,HB1.out⟩
  ·obtain rfl:j=L.length:=by omega
   have HR:=lhd (show false=L.any p by rw[←HGO.out,List.drop_length];rfl);go_wp2_with fail;go_ret;exact⟨⟨-1,rfl,by rw[←HR.out];rfl,by omega⟩,HB.out⟩
theorem zdi (pt:Nat) (p:Sc→Bool) (v:Value) (L:List (Sc)) (w:World) (hs:SlR w v L.length (scs L))
 (hF:∀x∈L,∀W,Below w.heap.size w W→Calls Tryz.prog 267 #[scV x,.pointer (some ⟨pt,0,none⟩)] W fun e w'=>e=.returned (.bool (p x))∧Below W.heap.size W w'):
 Calls Tryz.prog 263 #[v,.func (.func 267) #[] #[.pointer (some ⟨pt,0,none⟩)]] w fun e w'=>e=.returned (.bool (L.any p))∧Below w.heap.size w w':=by
 have HI:=lhd (zhI pt p v L w hs hF);generalize L.any p=r at HI⊢;obtain⟨a,cap,rfl,hc,hm⟩:=hs.shape;clear hs hF;go_enter Tryz.func263,Tryz.ntmps263;go_wp2_with fail;refine HI.out.mono ?_;rintro e w1 ⟨⟨i,rfl,hi,hi1⟩,hb⟩;have HH:=lhd hi;clear hi;go_wp2_with fail;go_ret;exact⟨znc HH.out,hb⟩
theorem zhE (pt:Nat) (p:Int×Int→Bool) (v:Value) (L:List (Int×Int)) (w:World) (hs:SlR w v L.length (gps L))
 (hF:∀x∈L,∀W,Below w.heap.size w W→Calls Tryz.prog 147 #[gpV x,.pointer (some ⟨pt,0,none⟩)] W fun e w'=>e=.returned (.bool (p x))∧Below W.heap.size W w'):
 Calls Tryz.prog 149 #[v,.func (.func 147) #[] #[.pointer (some ⟨pt,0,none⟩)]] w (IxP (L.any p) w):=by
 obtain⟨a,cap,rfl,hc,hm⟩:=hs.shape;unfold maxLen at hm;have HS:=lhd hs;have HF:=lhd hF;clear hs hF;go_enter Tryz.func149,Tryz.ntmps149;go_wp2_with fail;go_loopw [8] (fun i wr=>∃j:Nat,j≤L.length∧i=.int .i64 j∧(L.drop j).any p=L.any p∧Below w.heap.size w wr) (fun i _=>L.length-(intOf i).toNat)
 case atStart=>exact⟨0,Nat.zero_le _,rfl,rfl,Below.refl _ _⟩
 case round=>
  obtain⟨j,hj,rfl,hgo,hb⟩:=hrel;have HGO:=lhd hgo;have HB:=lhd hb;clear hgo hb;by_cases hlt:j<L.length
  ·obtain⟨b,o,rfl,hcell⟩:=(HS.out.below HB.out).gps hlt;have HC:=lhd (fun W hW=>HF.out L[j] (List.getElem_mem hlt) W hW);have HGO2:=lhd ((zaQ (p:=p) hlt).symm.trans HGO.out);have HPX:=lhd (Eq.refl (p L[j]));generalize L[j]=x at hcell HC HGO2 HPX;obtain⟨px,hpx⟩:∃px,px=p x:=⟨_,rfl⟩;rw[←hpx]at HC HGO2;clear HPX hpx;obtain⟨ga,gb⟩:=x;have d0:wr.cell? ⟨b,o+j*2,none⟩=some (.int .i64 ga):=hcell 0 _ rfl;have d1:wr.cell? ⟨b,o+j*2+1,none⟩=some (.int .i64 gb):=hcell 1 _ rfl;clear hcell;go_wp2_with fail;refine(HC.out _ HB.out).mono ?_;rintro e w1 ⟨rfl,hb1⟩;have HB1:=lhd (zfj HB.out hb1);clear hb1;cases px
   ·have HGO3:=lhd (show(L.drop (j+1)).any p=L.any p by rw[←HGO2.out,Bool.false_or]);go_wp2_with fail;go_roundw;case rel=>exact⟨j+1,by omega,by go_num,HGO3.out,HB1.out⟩
    case measure=>simp[intOf];omega
   ·have HR:=lhd (show true=L.any p by rw[←HGO2.out];rfl);go_wp2_with fail;go_ret;exact⟨⟨j,rfl,by rw[←HR.out];simp,by omega⟩,HB1.out⟩
  ·obtain rfl:j=L.length:=by omega
   have HR:=lhd (show false=L.any p by rw[←HGO.out,List.drop_length];rfl);go_wp2_with fail;go_ret;exact⟨⟨-1,rfl,by rw[←HR.out];rfl,by omega⟩,HB.out⟩
theorem zdd (pt:Nat) (p:Int×Int→Bool) (v:Value) (L:List (Int×Int)) (w:World) (hs:SlR w v L.length (gps L))
 (hF:∀x∈L,∀W,Below w.heap.size w W→Calls Tryz.prog 147 #[gpV x,.pointer (some ⟨pt,0,none⟩)] W fun e w'=>e=.returned (.bool (p x))∧Below W.heap.size W w'):
 Calls Tryz.prog 86 #[v,.func (.func 147) #[] #[.pointer (some ⟨pt,0,none⟩)]] w fun e w'=>e=.returned (.bool (L.any p))∧Below w.heap.size w w':=by
 have HI:=lhd (zhE pt p v L w hs hF);generalize L.any p=r at HI⊢;obtain⟨a,cap,rfl,hc,hm⟩:=hs.shape;clear hs hF;go_enter Tryz.func86,Tryz.ntmps86;go_wp2_with fail;refine HI.out.mono ?_;rintro e w1 ⟨⟨i,rfl,hi,hi1⟩,hb⟩;have HH:=lhd hi;clear hi;go_wp2_with fail;go_ret;exact⟨znc HH.out,hb⟩
theorem zne {k:IntKind} {a b:Int} (h:a=b):Ending.returned (.int k a)=.returned (.int k b):=by rw[h]
theorem zjC (n:Int) (w:World):Calls Tryz.prog 158 #[.int .i64 n] w fun e w'=>e=.returned (.bool (zbj n))∧w=w':=by
 have HR:=lhd (show(decide (-32768≤n)&&decide (n≤32768))=zbj n from rfl);by_cases h1: -32768≤n
 ·have b1:decide (-32768≤n)=true:=by simpa using h1
  by_cases h2:n≤32768
  ·have b2:decide (n≤32768)=true:=by simpa using h2
   rw[b1,b2]at HR;go_enter Tryz.func158,Tryz.ntmps158;go_wp2_with fail;go_ret;exact⟨znc HR.out,rfl⟩
  ·have b2:decide (n≤32768)=false:=by simpa using h2
   rw[b1,b2]at HR;go_enter Tryz.func158,Tryz.ntmps158;go_wp2_with fail;go_ret;exact⟨znc HR.out,rfl⟩
 ·have b1:decide (-32768≤n)=false:=by simpa using h1
  rw[b1]at HR;go_enter Tryz.func158,Tryz.ntmps158;go_wp2_with fail;go_ret;exact⟨znc HR.out,rfl⟩
theorem zjA (m l:Int) (w:World):Calls Tryz.prog 111 #[.int .i64 m,.int .i64 l] w fun e w'=>e=.returned (.int .i64 (ztw m l))∧w=w':=by
 have H1:=lhd (zjC m w);have H2:=lhd (zjC l w);cases h1:zbj m
 ·rw[h1]at H1;have HR:=lhd (show(0:Int)=ztw m l by unfold ztw;rw[h1];rfl);clear h1;go_enter Tryz.func111,Tryz.ntmps111;go_wp2_with fail;refine H1.out.mono ?_;rintro e w1 ⟨rfl,rfl⟩;go_wp2_with fail;go_ret;exact⟨zne HR.out,rfl⟩
 ·rw[h1]at H1;cases h2:zbj l
  ·rw[h2]at H2;have HR:=lhd (show(0:Int)=ztw m l by unfold ztw;rw[h2,Bool.and_false];rfl);clear h1 h2;go_enter Tryz.func111,Tryz.ntmps111;go_wp2_with fail;refine H1.out.mono ?_;rintro e w1 ⟨rfl,rfl⟩;go_wp2_with fail;refine H2.out.mono ?_;rintro e w1 ⟨rfl,rfl⟩;go_wp2_with fail;go_ret;exact⟨zne HR.out,rfl⟩
  ·rw[h2]at H2;have HR:=lhd (show max m l-min m l+1=ztw m l by unfold ztw;rw[h1,h2];rfl)
   have hb: -32768≤m∧m≤32768∧ -32768≤l∧l≤32768:=by
    unfold zbj at h1 h2;simp only[Bool.and_eq_true,decide_eq_true_iff]at h1 h2;omega
   obtain⟨q1,q2,q3,q4⟩:=hb;clear h1 h2;rcases Int.lt_trichotomy m l with hml|rfl|hml
   all_goals
    go_enter Tryz.func111,Tryz.ntmps111;go_wp2_with fail;refine H1.out.mono ?_;rintro e w1 ⟨rfl,rfl⟩;go_wp2_with fail;refine H2.out.mono ?_;rintro e w1 ⟨rfl,rfl⟩;go_wp2_with fail;go_ret;exact⟨zne (by have:=HR.out;omega),rfl⟩
theorem zrc (n:Int) (w:World):Calls Tryz.prog 106 #[.int .i64 n] w fun e w'=>e=.returned (.bool (decide (-15≤n)&&decide (n≤2)))∧w=w':=by
 by_cases h1: -15≤n
 ·have b1:decide (-15≤n)=true:=by simpa using h1
  by_cases h2:n≤2
  ·have b2:decide (n≤2)=true:=by simpa using h2
   go_enter Tryz.func106,Tryz.ntmps106;go_wp2_with fail;go_ret;exact⟨by simp[b1,b2],rfl⟩
  ·have b2:decide (n≤2)=false:=by simpa using h2
   go_enter Tryz.func106,Tryz.ntmps106;go_wp2_with fail;go_ret;exact⟨by simp[b1,b2],rfl⟩
 ·have b1:decide (-15≤n)=false:=by simpa using h1
  go_enter Tryz.func106,Tryz.ntmps106;go_wp2_with fail;go_ret;exact⟨by simp[b1],rfl⟩
theorem zjE (s:ByteArray) (w:World) (hm:s.size≤140737488351232):Calls Tryz.prog 216 #[.string s] w fun e w'=>e=.returned (.bool (s.data.toList.all prn))∧w=w':=by
 obtain⟨R,hR⟩:∃R,R=s.data.toList.all prn:=⟨_,rfl⟩;rw[←hR];have HRR:=lhd hR;clear hR;go_enter Tryz.func216,Tryz.ntmps216;go_wp2_with fail;go_loop [6] (fun i=>∃k:Nat,k≤s.size∧i=.int .i64 k∧(s.data.toList.take k).all prn=true) (fun i=>s.size-(intOf i).toNat)
 case atStart=>exact⟨0,Nat.zero_le _,rfl,rfl⟩
 case round=>
  obtain⟨k,hk,rfl,hall⟩:=hrel;have HA:=lhd hall;clear hall;by_cases hlt:k<s.size
  ·have hlt2:(k:Int)<(s.size:Int):=by omega
   have HT:=lhd (zaM (p:=prn) hlt);have HN:=lhd (fun h=>zaL (p:=prn) hlt h);by_cases hp:33≤(s[k]'hlt).toNat∧(s[k]'hlt).toNat≤126
   ·have hb1:decide (((s[k]'hlt).toNat:Int)<33)=false:=by rw[decide_eq_false_iff_not];omega
    have hb2:decide ((126:Int)<((s[k]'hlt).toNat:Int))=false:=by rw[decide_eq_false_iff_not];omega
    have HA2:=lhd (show(s.data.toList.take (k+1)).all prn=true by
     rw[HT.out,HA.out];unfold prn;rw[decide_eq_true hp.1,decide_eq_true hp.2];rfl)
    clear hp;go_wp2_with fail;go_round
    case rel=>exact⟨k+1,by omega,by go_num,HA2.out⟩
    case measure=>simp[intOf];omega
   ·have HR:=lhd (show s.data.toList.all prn=false from HN.out (by
     unfold prn;rw[Bool.and_eq_false_iff,decide_eq_false_iff_not,decide_eq_false_iff_not];omega))
    by_cases h1:(s[k]'hlt).toNat<33
    ·have hb1:decide (((s[k]'hlt).toNat:Int)<33)=true:=by rw[decide_eq_true_iff];omega
     go_wp2_with fail;go_ret;exact⟨znc (HRR.out.trans HR.out).symm,rfl⟩
    ·have hb1:decide (((s[k]'hlt).toNat:Int)<33)=false:=by rw[decide_eq_false_iff_not];omega
     have hb2:decide ((126:Int)<((s[k]'hlt).toNat:Int))=true:=by rw[decide_eq_true_iff];omega
     go_wp2_with fail;go_ret;exact⟨znc (HRR.out.trans HR.out).symm,rfl⟩
  ·obtain rfl:k=s.size:=by omega
   have HR:=lhd (show s.data.toList.all prn=true by
    have:=HA.out;rwa [List.take_of_length_le (by simp)]at this)
   go_wp2_with fail;go_ret;exact⟨znc (HRR.out.trans HR.out).symm,rfl⟩
def badD (n:Nat) (v:Vr):Bool:=decide (v.sc< -1)||decide ((n:Int)≤v.sc)||decide (v.sg<0)
theorem zgC (pt:Nat) (x:Vr) (a:Option Addr) (n cap:Nat) (w:World) (hc:w.cell? ⟨pt,0,none⟩=some (.slice a n cap)):
 Calls Tryz.prog 300 #[vrV x,.pointer (some ⟨pt,0,none⟩)] w fun e w'=>e=.returned (.bool (badD n x))∧Below w.heap.size w w':=by
 have hlt:=zbU hc;have hne:pt≠w.heap.size:=Nat.ne_of_lt hlt;obtain⟨nm,ty,sc,sg,rg,mb,lb⟩:=x;by_cases h1:sc< -1
 ·have b1:decide (sc< -1)=true:=by simpa using h1
  have HR:=lhd (show true=badD n ⟨nm,ty,sc,sg,rg,mb,lb⟩by simp[badD,b1]);clear h1;go_enter Tryz.func300,Tryz.ntmps300;go_wp2_with fail;go_ret;exact⟨znc HR.out,(Below.refl _ _).alloc (Nat.le_refl _) _⟩
 ·have b1:decide (sc< -1)=false:=by simpa using h1
  by_cases h2:(n:Int)≤sc
  ·have b2:decide ((n:Int)≤sc)=true:=by simpa using h2
   have HR:=lhd (show true=badD n ⟨nm,ty,sc,sg,rg,mb,lb⟩by simp[badD,b2]);clear h1 h2;go_enter Tryz.func300,Tryz.ntmps300;go_wp2_with fail;go_ret;exact⟨znc HR.out,(Below.refl _ _).alloc (Nat.le_refl _) _⟩
  ·have b2:decide ((n:Int)≤sc)=false:=by simpa using h2
   by_cases h3:sg<0
   ·have b3:decide (sg<0)=true:=by simpa using h3
    have HR:=lhd (show true=badD n ⟨nm,ty,sc,sg,rg,mb,lb⟩by simp[badD,b3]);clear h1 h2 h3;go_enter Tryz.func300,Tryz.ntmps300;go_wp2_with fail;go_ret;exact⟨znc HR.out,(Below.refl _ _).alloc (Nat.le_refl _) _⟩
   ·have b3:decide (sg<0)=false:=by simpa using h3
    have HR:=lhd (show false=badD n ⟨nm,ty,sc,sg,rg,mb,lb⟩by simp[badD,b1,b2,b3]);clear h1 h2 h3;go_enter Tryz.func300,Tryz.ntmps300;go_wp2_with fail;go_ret;exact⟨znc HR.out,(Below.refl _ _).alloc (Nat.le_refl _) _⟩
def scOk (k:Nat):List Sc→Bool
 | []=>true
 |s::t=>decide (-1≤s.2.2)&&decide (s.2.2<(k:Int))&&scOk (k+1) t
theorem znL:∀(S:List Sc) (k:Nat),(S.zipIdx k).all (fun x=>decide (-1≤x.1.2.2)&&decide (x.1.2.2<(x.2:Int)))=scOk k S
 | [],_=>rfl
 |s::t,k=>by rw[List.zipIdx_cons,List.all_cons,znL t (k+1)];rfl
theorem zdY (S:List Sc) (V:List Vr):zdX S V=(scOk 0 S&&!V.any (badD S.length)):=by
 unfold zdX;rw[znL];congr 1
 rw[List.not_any_eq_all_not];congr 1
 funext v
 unfold badD;rw[Bool.eq_iff_iff];simp only[Bool.and_eq_true,decide_eq_true_iff,Bool.not_eq_true',Bool.or_eq_false_iff,decide_eq_false_iff_not];omega
theorem box1 {w W:World} {x:Value} {T:TypeId} (hb:Below (w.alloc (.cells #[x] T)).heap.size (w.alloc (.cells #[x] T)) W):W.cell? ⟨w.heap.size,0,none⟩=some x∧w.heap.size<W.heap.size:=by
 have h1:w.heap.size<(w.alloc (.cells #[x] T)).heap.size:=by simp
 have h2:=hb.size;refine⟨?_,by omega⟩;rw[hb.cell (p:=⟨w.heap.size,0,none⟩) h1];exact(zan.fresh w #[x] T).cell (j:=0) rfl
theorem zgB (v v2:Value) (S:List Sc) (V:List Vr) (w:World) (hs:SlR w v S.length (scs S)) (hv:SlR w v2 V.length (vrs V)) (hl:S.length≤1000000):
 Calls Tryz.prog 258 #[v,v2] w fun e w'=>e=.returned (.bool (zdX S V))∧Below w.heap.size w w':=by
 have HEQ:=lhd (zdY S V);obtain⟨a,cap,rfl,hc,hm⟩:=hs.shape;have HS:=lhd hs;have HV:=lhd hv;clear hs hv hc hm
 have HX:=lhd (fun W hW=>zdb w.heap.size (badD S.length) v2 V W (HV.out.below (zfg (o:=.cells #[.slice a S.length cap] 27) hW)) (fun x hx U hU=>zgC w.heap.size x a S.length cap U (by
  have h1:=box1 hW;exact(hU.cell (p:=⟨w.heap.size,0,none⟩) h1.2).trans h1.1)))
 go_enter Tryz.func258,Tryz.ntmps258;go_wp2_with fail;have HB0:=lhd (Below.refl (w.alloc (.cells #[.slice a S.length cap] 27)).heap.size (w.alloc (.cells #[.slice a S.length cap] 27)));go_loopw [9] (fun i wr=>∃k:Nat,k≤S.length∧i=.int .i64 k∧scOk k (S.drop k)=scOk 0 S∧Below (w.alloc (.cells #[.slice a S.length cap] 27)).heap.size (w.alloc (.cells #[.slice a S.length cap] 27)) wr) (fun i _=>S.length-(intOf i).toNat)
 case atStart=>exact⟨0,Nat.zero_le _,rfl,rfl,HB0.out⟩
 case round=>
  obtain⟨k,hk,rfl,hgo,hb⟩:=hrel;have HB:=lhd hb;have HGO:=lhd hgo;obtain⟨c0,hz⟩:=box1 hb;clear hgo hb;by_cases hlt:k<S.length
  ·obtain⟨b,o,rfl,hcell⟩:=(HS.out.below (zfg HB.out)).scs hlt
   have HGO2:=lhd (show(decide (-1≤S[k].2.2)&&decide (S[k].2.2<(k:Int))&&scOk (k+1) (S.drop (k+1)))=scOk 0 S by
    rw[←HGO.out,List.drop_eq_getElem_cons hlt];rfl)
   generalize S[k]=x at hcell HGO2;obtain⟨nm,ty,pa⟩:=x;have d0:wr.cell? ⟨b,o+k*3,none⟩=some (.string (bsB nm)):=hcell 0 _ rfl;have d1:wr.cell? ⟨b,o+k*3+1,none⟩=some (.int .i64 ty):=hcell 1 _ rfl;have d2:wr.cell? ⟨b,o+k*3+2,none⟩=some (.int .i64 pa):=hcell 2 _ rfl;clear hcell;dsimp only at HGO2;by_cases h1:pa< -1
   ·have b1:decide (pa< -1)=true:=by simpa using h1
    have HR:=lhd (show false=zdX S V by
     rw[HEQ.out,←HGO2.out,show decide (-1≤pa)=false by simp;omega];rfl)
    clear h1;go_wp2_with fail;go_ret;exact⟨znc HR.out,zfg (HB.out.alloc HB.out.size _)⟩
   ·have b1:decide (pa< -1)=false:=by simpa using h1
    by_cases h2:(k:Int)≤pa
    ·have b2:decide ((k:Int)≤pa)=true:=by simpa using h2
     have HR:=lhd (show false=zdX S V by
      rw[HEQ.out,←HGO2.out,show decide (pa<(k:Int))=false by simp;omega,Bool.and_false];rfl)
     clear h1 h2;go_wp2_with fail;go_ret;exact⟨znc HR.out,zfg (HB.out.alloc HB.out.size _)⟩
    ·have b2:decide ((k:Int)≤pa)=false:=by simpa using h2
     have HGO3:=lhd (show scOk (k+1) (S.drop (k+1))=scOk 0 S by
      rw[←HGO2.out,show decide (-1≤pa)=true by simp;omega,show decide (pa<(k:Int))=true by simp;omega];rfl)
     clear h1 h2;go_wp2_with fail;go_roundw;case rel=>exact⟨k+1,by omega,by go_num,HGO3.out,HB.out.alloc HB.out.size _⟩
     case measure=>simp[intOf];omega
  ·obtain rfl:k=S.length:=by omega
   have HR:=lhd (show(!V.any (badD S.length))=zdX S V by
    rw[HEQ.out,←HGO.out,List.drop_length];rfl)
   generalize V.any (badD S.length)=r at HX HR;go_wp2_with fail;refine(HX.out _ HB.out).mono ?_;rintro e w1 ⟨rfl,hb1⟩;have HB1:=lhd (zfj (zfg HB.out) hb1);clear hb1;go_wp2_with fail;go_ret;exact⟨znc HR.out,HB1.out⟩
open Go.RowKit Go.WideMaps
theorem zhV:laidOutB Tryz.prog=true:=by kernel_rfl
theorem zcc:KeyLaw Tryz.prog 250:=deep_law_laid zhV (m:=3) (by omega) (of_decide_eq_true (by kernel_rfl)) (by kernel_rfl) (by kernel_rfl)
theorem zez:KeyLaw Tryz.prog 254:=deep_law_laid zhV (m:=3) (by omega) (of_decide_eq_true (by kernel_rfl)) (by kernel_rfl) (by kernel_rfl)
theorem zhU:∃m,Tryz.prog.types.size+1=m+2:=⟨_,(by kernel_rfl:Tryz.prog.types.size+1=(Tryz.prog.types.size-1)+2)⟩
theorem zca:Tryz.prog.cellsOf 250=2:=by kernel_rfl
theorem zex:Tryz.prog.cellsOf 254=5:=by kernel_rfl
theorem zcb:Tryz.prog.keyType 250=true:=by kernel_rfl
theorem zey:Tryz.prog.keyType 254=true:=by kernel_rfl
def zb9 (x:ScK):Value:=.agg #[.int .i64 x.1,.string (bsB x.2)]
def zew (x:VrK):Value:=.agg #[.int .i64 x.1,.string (bsB x.2.1),.bool x.2.2.1,.int .i64 x.2.2.2.1,.int .i64 x.2.2.2.2]
theorem zhe:Tryz.prog.cellsOf 3=1:=by kernel_rfl
theorem zpR:Tryz.prog.cellsOf 9=1:=by kernel_rfl
theorem zbm:Tryz.prog.cellsOf 4=1:=by kernel_rfl
theorem zcd (x:ScK) (h1:(Lit.int .i64 x.1).wf=true) (h2:x.2.length≤maxLen):keyOf Tryz.prog 250 (zb9 x)=some (.string (keyBytes [.int .i64 x.1,.string x.2])):=by
 obtain⟨m,hm⟩:=zhU;unfold keyOf;rw[Tryz.underlying250];simp only;rw[if_pos (by rw[zcb,Bool.true_and];simp[Value.formed,zb9,Tryz.underlying250,zca]),hm];have hs:(bsB x.2).size≤maxLen:=by rw[zbt];exact h2
 simp[Program.keyLits,Tryz.underlying250,Tryz.underlying3,Tryz.underlying9,zca,zhe,zpR,zb9,Value.cells,h1,hs,zbq]
theorem zeA (x:VrK) (h1:(Lit.int .i64 x.1).wf=true) (h2:x.2.1.length≤maxLen) (h3:(Lit.int .i64 x.2.2.2.1).wf=true) (h4:(Lit.int .i64 x.2.2.2.2).wf=true):
 keyOf Tryz.prog 254 (zew x)=some (.string (keyBytes [.int .i64 x.1,.string x.2.1,.bool x.2.2.1,.int .i64 x.2.2.2.1,.int .i64 x.2.2.2.2])):=by
 obtain⟨m,hm⟩:=zhU;unfold keyOf;rw[Tryz.underlying254];simp only;rw[if_pos (by rw[zey,Bool.true_and];simp[Value.formed,zew,Tryz.underlying254,zex]),hm];have hs:(bsB x.2.1).size≤maxLen:=by rw[zbt];exact h2
 simp[Program.keyLits,Tryz.underlying254,Tryz.underlying3,Tryz.underlying9,Tryz.underlying4,zex,zhe,zpR,zbm,zew,Value.cells,h1,h3,h4,hs,zbq]
def zb8:KeyEnc Tryz.prog 250 ScK where
 vK:=zb9
 lK x:=.string (keyBytes [.int .i64 x.1,.string x.2])
 dom x:=(Lit.int .i64 x.1).wf=true∧x.2.length≤maxLen
 key _ _:=trivial
 of x hx:=zcd x hx.1 hx.2
 inj x y hx hy h:=by
  have:=zcc.inj (zcd x hx.1 hx.2) (by rw[h];exact zcd y hy.1 hy.2);unfold zb9 at this;injection this with this;simp at this;obtain⟨h1,h2⟩:=this;refine Prod.ext h1 ?_;have:=congrArg (fun b=>b.data.toList) h2;simpa[bsB] using this
 law:=Maps.Keyed.of_law zcc
def zev:KeyEnc Tryz.prog 254 VrK where
 vK:=zew
 lK x:=.string (keyBytes [.int .i64 x.1,.string x.2.1,.bool x.2.2.1,.int .i64 x.2.2.2.1,.int .i64 x.2.2.2.2])
 dom x:=((Lit.int .i64 x.1).wf=true∧x.2.1.length≤maxLen)∧(Lit.int .i64 x.2.2.2.1).wf=true∧(Lit.int .i64 x.2.2.2.2).wf=true
 key _ _:=trivial
 of x hx:=zeA x hx.1.1 hx.1.2 hx.2.1 hx.2.2
 inj x y hx hy h:=by
  have:=zez.inj (zeA x hx.1.1 hx.1.2 hx.2.1 hx.2.2) (by rw[h];exact zeA y hy.1.1 hy.1.2 hy.2.1 hy.2.2);obtain⟨x1,x2,x3,x4,x5⟩:=x;obtain⟨y1,y2,y3,y4,y5⟩:=y;unfold zew at this;injection this with this;simp at this;obtain⟨h1,h2,h3,h4,h5⟩:=this;have h2':=congrArg (fun b=>b.data.toList) h2;have h2':x2=y2:=by simpa[bsB] using h2'
  subst h1 h2' h3 h4 h5;rfl
 law:=Maps.Keyed.of_law zez
theorem zt3 (w:World):(zeroValue 4).run Tryz.prog w=.ok (.bool false) w:=by kernel_rfl
theorem zgG (s:Sc) (w:World):Calls Tryz.prog 270 #[scV s] w fun e w'=>e=.returned (zb9 (znK s))∧Below w.heap.size w w':=by
 obtain⟨nm,ty,pa⟩:=s;go_enter Tryz.func270,Tryz.ntmps270;go_wp2_with fail;refine bodyPost_ret (v:=zb9 (pa,nm)) (by simp[results,Tryz.results270,go_sem,zb9]) rfl ⟨rfl,((Below.refl _ _).alloc (Nat.le_refl _) _).alloc (by simp) _⟩
theorem zgL (x:Vr) (w:World):Calls Tryz.prog 272 #[vrV x] w fun e w'=>e=.returned (zew (zs1 x))∧Below w.heap.size w w':=by
 obtain⟨nm,ty,sc,sg,rg,mb,lb⟩:=x;go_enter Tryz.func272,Tryz.ntmps272;go_wp2_with fail;refine bodyPost_ret (v:=zew (sc,nm,rg,mb,lb)) (by simp[results,Tryz.results272,go_sem,zew]) rfl ⟨rfl,((Below.refl _ _).alloc (Nat.le_refl _) _).alloc (by simp) _⟩
open Classical in
noncomputable def zol {κ:Type} (L:List κ) (x:κ):Option Value:=if x∈L then some (.bool true)else none
open Classical in
noncomputable def inB {κ:Type} (L:List κ) (x:κ):Bool:=decide (x∈L)
theorem zon {κ:Type} [DecidableEq κ] (L:List κ) (x y:κ):(if y=x then some (.bool true)else zol L y)=zol (L++ [x]) y:=by
 unfold zol;by_cases h:y=x
 ·subst h;simp
 ·rw[if_neg h];simp[h]
open Classical in
theorem zgS {κ:Type} {L:List κ} {x:κ}:inB L x=true↔x∈L:=by
 unfold inB;exact⟨of_decide_eq_true,decide_eq_true⟩
theorem zom {κ:Type} (L:List κ) (x:κ):(zol L x).getD (.bool false)=.bool (inB L x):=by
 unfold zol inB;split<;>simp[*]
theorem zjI {κ:Type} {L:List κ} {x:κ}:(L++ [x]).Nodup↔L.Nodup∧x∉L:=by
 rw[List.nodup_append];constructor
 ·rintro⟨h1,-,h3⟩;exact⟨h1,fun h=>h3 x h x (by simp) rfl⟩
 ·rintro⟨h1,h2⟩;exact⟨h1,by simp,fun a ha b hb e=>by rw[List.mem_singleton]at hb;subst hb e;exact h2 ha⟩
theorem zgI (v:Value) (L:List Sc) (w:World) (hs:SlR w v L.length (scs L)) (hl:L.length≤1000) (hd:∀x∈L,(Lit.int .i64 x.2.2).wf=true∧x.1.length≤maxLen):
 Calls Tryz.prog 269 #[v,(.func (.func 270) #[] #[])] w fun e w'=>e=.returned (.bool (uniq znK L))∧Below w.heap.size w w':=by
 obtain⟨a,cap,rfl,-,-⟩:=hs.shape;have HS:=lhd hs;have HD:=lhd (show ∀x∈L,(zb8).dom (znK x)from hd);have HM0:=lhd (KMap.made zb8 w);have HB0:=lhd (show Below w.heap.size w (w.alloc (.map #[] 0))from(Below.refl _ _).alloc (Nat.le_refl _) _);obtain⟨R,hR⟩:∃R,R=uniq znK L:=⟨_,rfl⟩;rw[←hR];have HR:=lhd hR;clear hs hd hR;have hmm:= @run_makeMap Tryz.prog;go_enter Tryz.func269,Tryz.ntmps269;go_wp2_with fail;clear hmm;go_loopw [11] (fun i wr=>∃k:Nat,k≤L.length∧i=.int .i64 k∧((L.take k).map znK).Nodup∧KMap zb8 wr w.heap.size k (zol ((L.take k).map znK))∧Below w.heap.size w wr) (fun i _=>L.length-(intOf i).toNat)
 case atStart=>exact⟨0,Nat.zero_le _,rfl,by simp,HM0.out,HB0.out⟩
 case round=>
  obtain⟨k,hk,rfl,hnd,hm,hb⟩:=hrel;have HND:=lhd hnd;have HM:=lhd hm;have HB:=lhd hb;clear hnd hm hb;by_cases hlt:k<L.length
  ·obtain⟨b,o,rfl,hcell⟩:=(HS.out.below HB.out).scs hlt;have HTK:=lhd (show(L.take (k+1)).map znK=(L.take k).map znK++ [znK L[k]]by rw[List.take_succ_eq_append_getElem hlt,List.map_append];rfl);have HDK:=lhd (HD.out L[k] (List.getElem_mem hlt))
   have HNO:=lhd (fun(hin:znK L[k]∈(L.take k).map znK)=>(show R=false by
    rw[HR.out,←Bool.not_eq_true,zrs];intro hall;rw[←List.take_append_drop (k+1) L,List.map_append,HTK.out,List.nodup_append]at hall;exact(zjI.1 hall.1).2 hin))
   have HKY:=lhd (fun W=>zgG L[k] W);generalize hxk:L[k]=x at*;clear hxk;generalize hseen:(L.take k).map znK=seen at*;clear hseen;obtain⟨kx,hkx⟩:∃kx,znK x=kx:=⟨_,rfl⟩;have HKV:=lhd (show ∀W,Calls Tryz.prog 270 #[scV x] W fun e w'=>e=.returned (zb9 kx)∧Below W.heap.size W w' by rw[←hkx];exact HKY.out);rw[hkx]at HTK HDK HNO;clear HKY hkx
   have HLK:=lhd (fun(W:World) (hW:Below wr.heap.size wr W)=>(show(Instr.lookup 283 (.map (some w.heap.size)) (zb9 kx) false).run Tryz.prog W=.ok (.bool (inB seen kx)) W by
    have:=(HM.out.below hW HM.out.lt).look1 (t:=283) Tryz.underlying283 (zt3 W) kx HDK.out;rw[zom]at this;exact this))
   have HIN:=lhd (show ∀b,inB seen kx=b→(b=true→kx∈seen)∧(b=false→kx∉seen)by
    rintro b rfl;exact⟨zgS.1,fun h hm=>by rw[zgS.2 hm]at h;cases h⟩)
   have HMB:=lhd (fun(W:World) (hW:Below wr.heap.size wr W)=>HM.out.below hW HM.out.lt);obtain⟨nm,ty,pa⟩:=x;have d0:wr.cell? ⟨b,o+k*3,none⟩=some (.string (bsB nm)):=hcell 0 _ rfl;have d1:wr.cell? ⟨b,o+k*3+1,none⟩=some (.int .i64 ty):=hcell 1 _ rfl;have d2:wr.cell? ⟨b,o+k*3+2,none⟩=some (.int .i64 pa):=hcell 2 _ rfl;clear hcell;go_wp2_with fail;refine(HKV.out _).mono ?_;rintro e w1 ⟨rfl,hb1⟩;have HX1:=lhd ((zan.fresh wr #[.string (bsB nm),.int .i64 ty,.int .i64 pa] 66).below hb1 (by simp));have hb2:=zfg hb1;have hlk:=HLK.out _ hb2;have HB2:=lhd hb2;obtain⟨q0,q1⟩:=HIN.out _ rfl;have QQ:=lhd (And.intro q0 q1);clear hb1 hb2 q0 q1;cases hin:inB seen kx
   ·rw[hin]at hlk QQ;clear hin;have z0:=HX1.out.cell (j:=0) rfl;have z1:=HX1.out.cell (j:=1) rfl;have z2:=HX1.out.cell (j:=2) rfl;have HNI:=lhd (QQ.out.2 rfl);go_wp2_with fail;refine(HKV.out _).mono ?_;rintro e w2 ⟨rfl,hb3⟩;have HB3:=lhd (zfj HB2.out hb3);have HM3:=lhd (HMB.out _ HB3.out);clear hb3 hlk;go_wp2_with (refine ztQ _ rfl _ _ _ 283 rfl 4 Tryz.underlying283 w.heap.size k _ rfl HM3.out (by unfold maxLen;omega) kx (.bool true) rfl rfl HDK.out ?_;intro w3 hm3 hg3)
    have HM4:=lhd (hm3.ext (fun s=>zon seen kx s));have HB4:=lhd ((HB.out.trans (HB3.out.mono HB.out.size)).grown hg3 (by have:=HB.out.size;have:=HB3.out.size;omega) (fun j ej=>by injection ej with ej;omega));clear hm3 hg3;go_wp2_with fail;go_roundw;case rel=>exact⟨k+1,hlt,by go_num,by rw[HTK.out];exact zjI.2 ⟨HND.out,HNI.out⟩,by rw[HTK.out];exact HM4.out,HB4.out⟩
    case measure=>simp[intOf];omega
   ·rw[hin]at hlk QQ;clear hin;have HRF:=lhd (show R=false from HNO.out (QQ.out.1 rfl));go_wp2_with fail;go_ret;exact⟨znc HRF.out.symm,HB.out.trans (HB2.out.mono HB.out.size)⟩
  ·obtain rfl:k=L.length:=by omega
   have HRT:=lhd (show R=true by
    rw[HR.out,zrs];have:=HND.out;rwa [List.take_of_length_le (Nat.le_refl _)]at this)
   clear hlt;go_wp2_with fail;go_ret;exact⟨znc HRT.out.symm,HB.out⟩
theorem zgJ (v:Value) (L:List Vr) (w:World) (hs:SlR w v L.length (vrs L)) (hl:L.length≤1000) (hd:∀x∈L,((Lit.int .i64 x.sc).wf=true∧x.nm.length≤maxLen)∧(Lit.int .i64 x.mb).wf=true∧(Lit.int .i64 x.lb).wf=true):
 Calls Tryz.prog 271 #[v,(.func (.func 272) #[] #[])] w fun e w'=>e=.returned (.bool (uniq zs1 L))∧Below w.heap.size w w':=by
 obtain⟨a,cap,rfl,-,-⟩:=hs.shape;have HS:=lhd hs;have HD:=lhd (show ∀x∈L,(zev).dom (zs1 x)from hd);have HM0:=lhd (KMap.made zev w);have HB0:=lhd (show Below w.heap.size w (w.alloc (.map #[] 0))from(Below.refl _ _).alloc (Nat.le_refl _) _);obtain⟨R,hR⟩:∃R,R=uniq zs1 L:=⟨_,rfl⟩;rw[←hR];have HR:=lhd hR;clear hs hd hR;have hmm:= @run_makeMap Tryz.prog;go_enter Tryz.func271,Tryz.ntmps271;go_wp2_with fail;clear hmm;go_loopw [11] (fun i wr=>∃k:Nat,k≤L.length∧i=.int .i64 k∧((L.take k).map zs1).Nodup∧KMap zev wr w.heap.size k (zol ((L.take k).map zs1))∧Below w.heap.size w wr) (fun i _=>L.length-(intOf i).toNat)
 case atStart=>exact⟨0,Nat.zero_le _,rfl,by simp,HM0.out,HB0.out⟩
 case round=>
  obtain⟨k,hk,rfl,hnd,hm,hb⟩:=hrel;have HND:=lhd hnd;have HM:=lhd hm;have HB:=lhd hb;clear hnd hm hb;by_cases hlt:k<L.length
  ·obtain⟨b,o,rfl,hcell⟩:=(HS.out.below HB.out).vrs hlt;have HTK:=lhd (show(L.take (k+1)).map zs1=(L.take k).map zs1++ [zs1 L[k]]by rw[List.take_succ_eq_append_getElem hlt,List.map_append];rfl);have HDK:=lhd (HD.out L[k] (List.getElem_mem hlt))
   have HNO:=lhd (fun(hin:zs1 L[k]∈(L.take k).map zs1)=>(show R=false by
    rw[HR.out,←Bool.not_eq_true,zrs];intro hall;rw[←List.take_append_drop (k+1) L,List.map_append,HTK.out,List.nodup_append]at hall;exact(zjI.1 hall.1).2 hin))
   have HKY:=lhd (fun W=>zgL L[k] W);generalize hxk:L[k]=x at*;clear hxk;generalize hseen:(L.take k).map zs1=seen at*;clear hseen;obtain⟨kx,hkx⟩:∃kx,zs1 x=kx:=⟨_,rfl⟩;have HKV:=lhd (show ∀W,Calls Tryz.prog 272 #[vrV x] W fun e w'=>e=.returned (zew kx)∧Below W.heap.size W w' by rw[←hkx];exact HKY.out);rw[hkx]at HTK HDK HNO;clear HKY hkx
   have HLK:=lhd (fun(W:World) (hW:Below wr.heap.size wr W)=>(show(Instr.lookup 284 (.map (some w.heap.size)) (zew kx) false).run Tryz.prog W=.ok (.bool (inB seen kx)) W by
    have:=(HM.out.below hW HM.out.lt).look1 (t:=284) Tryz.underlying284 (zt3 W) kx HDK.out;rw[zom]at this;exact this))
   have HIN:=lhd (show ∀b,inB seen kx=b→(b=true→kx∈seen)∧(b=false→kx∉seen)by
    rintro b rfl;exact⟨zgS.1,fun h hm=>by rw[zgS.2 hm]at h;cases h⟩)
   have HMB:=lhd (fun(W:World) (hW:Below wr.heap.size wr W)=>HM.out.below hW HM.out.lt);obtain⟨nm,ty,sc,sg,rg,mb,lb⟩:=x;have d0:wr.cell? ⟨b,o+k*7,none⟩=some (.string (bsB nm)):=hcell 0 _ rfl;have d1:wr.cell? ⟨b,o+k*7+1,none⟩=some (.int .i64 ty):=hcell 1 _ rfl;have d2:wr.cell? ⟨b,o+k*7+2,none⟩=some (.int .i64 sc):=hcell 2 _ rfl;have d3:wr.cell? ⟨b,o+k*7+3,none⟩=some (.int .i64 sg):=hcell 3 _ rfl;have d4:wr.cell? ⟨b,o+k*7+4,none⟩=some (.bool rg):=hcell 4 _ rfl;have d5:wr.cell? ⟨b,o+k*7+5,none⟩=some (.int .i64 mb):=hcell 5 _ rfl;have d6:wr.cell? ⟨b,o+k*7+6,none⟩=some (.int .i64 lb):=hcell 6 _ rfl;clear hcell;go_wp2_with fail;refine(HKV.out _).mono ?_;rintro e w1 ⟨rfl,hb1⟩;have HX1:=lhd ((zan.fresh wr #[.string (bsB nm),.int .i64 ty,.int .i64 sc,.int .i64 sg,.bool rg,.int .i64 mb,.int .i64 lb] 55).below hb1 (by simp));have hb2:=zfg hb1;have hlk:=HLK.out _ hb2;have HB2:=lhd hb2;obtain⟨q0,q1⟩:=HIN.out _ rfl;have QQ:=lhd (And.intro q0 q1);clear hb1 hb2 q0 q1;cases hin:inB seen kx
   ·rw[hin]at hlk QQ;clear hin;have z0:=HX1.out.cell (j:=0) rfl;have z1:=HX1.out.cell (j:=1) rfl;have z2:=HX1.out.cell (j:=2) rfl;have z3:=HX1.out.cell (j:=3) rfl;have z4:=HX1.out.cell (j:=4) rfl;have z5:=HX1.out.cell (j:=5) rfl;have z6:=HX1.out.cell (j:=6) rfl;have HNI:=lhd (QQ.out.2 rfl);go_wp2_with fail;refine(HKV.out _).mono ?_;rintro e w2 ⟨rfl,hb3⟩;have HB3:=lhd (zfj HB2.out hb3);have HM3:=lhd (HMB.out _ HB3.out);clear hb3 hlk;go_wp2_with (refine ztQ _ rfl _ _ _ 284 rfl 4 Tryz.underlying284 w.heap.size k _ rfl HM3.out (by unfold maxLen;omega) kx (.bool true) rfl rfl HDK.out ?_;intro w3 hm3 hg3)
    have HM4:=lhd (hm3.ext (fun s=>zon seen kx s));have HB4:=lhd ((HB.out.trans (HB3.out.mono HB.out.size)).grown hg3 (by have:=HB.out.size;have:=HB3.out.size;omega) (fun j ej=>by injection ej with ej;omega));clear hm3 hg3;go_wp2_with fail;go_roundw;case rel=>exact⟨k+1,hlt,by go_num,by rw[HTK.out];exact zjI.2 ⟨HND.out,HNI.out⟩,by rw[HTK.out];exact HM4.out,HB4.out⟩
    case measure=>simp[intOf];omega
   ·rw[hin]at hlk QQ;clear hin;have HRF:=lhd (show R=false from HNO.out (QQ.out.1 rfl));go_wp2_with fail;go_ret;exact⟨znc HRF.out.symm,HB.out.trans (HB2.out.mono HB.out.size)⟩
  ·obtain rfl:k=L.length:=by omega
   have HRT:=lhd (show R=true by
    rw[HR.out,zrs];have:=HND.out;rwa [List.take_of_length_le (Nat.le_refl _)]at this)
   clear hlt;go_wp2_with fail;go_ret;exact⟨znc HRT.out.symm,HB.out⟩
theorem zaR:∀(s:Bs),Lib.containsAny s [92,46,91,93]=s.any fun d=>d==92||d==46||d==91||d==93
 | []=>rfl
 |b::l=>by
  have ih:=zaR l;unfold Lib.containsAny at ih⊢;rw[List.any_cons,←ih,Lib.indexAny];have hge:=Lib.indexAny_ge [92,46,91,93] l
  have hb: [92,46,91,93].contains b=(b==92||b==46||b==91||b==93):=by
   simp only[List.contains_cons,List.contains_nil,Bool.or_false,Bool.or_assoc]
  rw[hb];cases h:(b==92||b==46||b==91||b==93)
  ·rw[if_neg (by simp),Bool.false_or];by_cases h1:Lib.indexAny l [92,46,91,93]= -1
   ·rw[if_pos (by simp[h1]),h1]
   ·rw[if_neg (by simp[h1])];rw[Bool.eq_iff_iff,decide_eq_true_iff,decide_eq_true_iff];omega
  ·rw[if_pos rfl,Bool.true_or];rfl
theorem zjB (s:ByteArray) (w:World) (hs:s.data.toList.all prn=true) (hm:s.size≤1000):
 Calls Tryz.prog 217 #[.string s,.string ⟨#[92,46,91,93]⟩] w fun e w'=>e=.returned (.bool (s.data.toList.any fun d=>d==92||d==46||d==91||d==93))∧Below w.heap.size w w':=by
 refine(Tryz.strings_ContainsAny_laid s ⟨#[92,46,91,93]⟩ w (by omega) (by decide) ?_ ?_).mono ?_
 ·intro j b hb;have:=List.all_eq_true.1 hs b (List.mem_of_getElem? hb);unfold prn at this;simp at this;omega
 ·intro j b hb;have:b∈([92,46,91,93]:List UInt8):=List.mem_of_getElem? hb;revert this
  simp only[List.mem_cons,List.mem_nil_iff,or_false];rintro(rfl|rfl|rfl|rfl)<;>decide
 ·rintro e w' ⟨rfl,hb⟩;exact⟨by rw[←zaR],hb⟩
theorem zqR {s:ByteArray} (h:s.size≠0):s.toList.isEmpty=false:=by
 rw[ByteArray.toList_eq];have h1:s.data.toList.length=s.size:=by simp
 cases hh:s.data.toList with
 |nil=>rw[hh]at h1;simp at h1;omega
 |cons _ _=>rfl
theorem zrl (c:UInt8) (n:Nat) (hn:n<256):((c.toNat:Int)==(n:Int))=decide (c=UInt8.ofNat n):=by
 rw[Bool.eq_iff_iff,beq_iff_eq,decide_eq_true_iff];constructor
 ·intro h;have:c.toNat=n:=by omega
  rw[←this,UInt8.ofNat_toNat]
 ·rintro rfl;simp;omega
theorem zjz (s:ByteArray) (w:World) (hm:s.size≤2000000):Calls Tryz.prog 164 #[.string s] w fun e w'=>e=.returned (.bool (zjh s.data.toList))∧Below w.heap.size w w':=by
 have HP:=lhd (zjE s w (by omega));obtain⟨R,hR⟩:∃R,R=zjh s.data.toList:=⟨_,rfl⟩;rw[←hR];have hls:s.data.toList.length=s.size:=by simp
 by_cases h0:s.size=0
 ·obtain rfl:s=⟨#[]⟩:=by
   have:s.data=#[]:=Array.eq_empty_of_size_eq_zero h0;cases s;simp_all
  have HR:=lhd (show R=false by rw[hR];rfl);have hb1:(⟨#[]⟩:ByteArray).toList.isEmpty=true:=by rw[ByteArray.toList_eq];rfl
  clear hR hls h0 hm HP;go_enter Tryz.func164,Tryz.ntmps164;go_wp2_with fail;go_ret;exact⟨znc HR.out.symm,Below.refl _ _⟩
 have hb1:=zqR h0;by_cases h32:32<s.size
 ·have HR:=lhd (show R=false by
   rw[hR];unfold zjh;rw[decide_eq_false (show ¬s.data.toList.length≤32 by omega)];simp)
  have hb2:decide ((32:Int)<(s.size:Int))=true:=by rw[decide_eq_true_iff];omega
  clear hR hls h0 h32 HP;go_enter Tryz.func164,Tryz.ntmps164;go_wp2_with fail;go_ret;exact⟨znc HR.out.symm,Below.refl _ _⟩
 have hb2:decide ((32:Int)<(s.size:Int))=false:=by rw[decide_eq_false_iff_not];omega
 cases hp:s.data.toList.all prn
 ·have HR:=lhd (show R=false by
   rw[hR];unfold zjh;rw[hp];simp)
  rw[hp]at HP;clear hR hls h0 h32 hp;go_enter Tryz.func164,Tryz.ntmps164;go_wp2_with fail;refine HP.out.mono ?_;rintro e w1 ⟨rfl,rfl⟩;go_wp2_with fail;go_ret;exact⟨znc HR.out.symm,Below.refl _ _⟩
 rw[hp]at HP
 obtain⟨c,t,hct⟩:∃c t,s.data.toList=c::t:=by
  cases hh:s.data.toList with
  |nil=>rw[hh]at hls;simp at hls;omega
  |cons c t=>exact⟨c,t,rfl⟩
 have hR2:R=if c=92 then decide (2≤s.size)else decide (c≠36)&&!s.data.toList.any fun d=>d==92||d==46||d==91||d==93:=by
  rw[hR];unfold zjh;rw[hp,decide_eq_true (show s.data.toList≠ []by rw[hct];simp),decide_eq_true (show s.data.toList.length≤32 by omega)];rw[hct];have hl2:(c::t).length=s.size:=by rw[←hct];exact hls
  rw[hl2];simp only[Bool.true_and]
 have hcix:∀h:0<s.size,s[0]'h=c:=fun h=>by
  have:s[0]=s.data.toList[0]'(by simpa using h):=by simp;rfl
  rw[this];simp[hct]
 have h00:0<s.size:=by omega
 have HA:=lhd (fun W=>zjB s W hp (by omega));have e92:=zrl c 92 (by decide);have e36:=zrl c 36 (by decide);clear hR hct;by_cases h92:c=92
 ·have b3:((c.toNat:Int)==92)=true:=by rw[show(92:Int)=((92:Nat):Int)from rfl,e92];simp[h92]
  have HR:=lhd (show R=decide (2≤s.size)by rw[hR2,if_pos h92]);clear hR2 hls h0 h32 hp e92 e36 HA h92;by_cases h2:2≤s.size
  ·have b4:decide ((2:Int)≤(s.size:Int))=true:=by rw[decide_eq_true_iff];omega
   have HR3:=lhd (show R=true by rw[HR.out,decide_eq_true h2]);clear h2;go_enter Tryz.func164,Tryz.ntmps164;go_wp2_with fail;refine HP.out.mono ?_;rintro e w1 ⟨rfl,rfl⟩;go_wp2_with fail;go_ret;exact⟨znc HR3.out.symm,Below.refl _ _⟩
  ·have b4:decide ((2:Int)≤(s.size:Int))=false:=by rw[decide_eq_false_iff_not];omega
   have HR3:=lhd (show R=false by rw[HR.out,decide_eq_false h2]);clear h2;go_enter Tryz.func164,Tryz.ntmps164;go_wp2_with fail;refine HP.out.mono ?_;rintro e w1 ⟨rfl,rfl⟩;go_wp2_with fail;go_ret;exact⟨znc HR3.out.symm,Below.refl _ _⟩
 ·have b3:((c.toNat:Int)==92)=false:=by rw[show(92:Int)=((92:Nat):Int)from rfl,e92];simpa using h92
  rw[if_neg h92]at hR2;by_cases h36:c=36
  ·have b4:((c.toNat:Int)==36)=true:=by rw[show(36:Int)=((36:Nat):Int)from rfl,e36];simp[h36]
   have b5:((c.toNat:Int) !=36)=false:=by rw[bne,b4];rfl
   have HR:=lhd (show R=false by rw[hR2,h36];rfl);clear hR2 hls h0 h32 hp e92 e36 HA h92 h36;go_enter Tryz.func164,Tryz.ntmps164;go_wp2_with fail;refine HP.out.mono ?_;rintro e w1 ⟨rfl,rfl⟩;go_wp2_with fail;go_ret;exact⟨znc HR.out.symm,Below.refl _ _⟩
  ·have b4:((c.toNat:Int)==36)=false:=by rw[show(36:Int)=((36:Nat):Int)from rfl,e36];simpa using h36
   have b5:((c.toNat:Int) !=36)=true:=by rw[bne,b4];rfl
   rw[decide_eq_true h36,Bool.true_and]at hR2;have HR:=lhd hR2;generalize (s.data.toList.any fun d=>d==92||d==46||d==91||d==93)=q at HA HR;clear hR2 hls h0 h32 hp e92 e36 h92 h36;go_enter Tryz.func164,Tryz.ntmps164;go_wp2_with fail;refine HP.out.mono ?_;rintro e w1 ⟨rfl,rfl⟩;go_wp2_with fail;refine(HA.out _).mono ?_;rintro e w1 ⟨rfl,hb⟩;go_wp2_with fail;go_ret;exact⟨znc HR.out.symm,hb⟩
open Go.RowKit Go.Shelf
attribute [local go_sem] Oper.semAt_some
def keepO:Obj→Bool
 | .cells _ _ _=>true
 | .map _ _=>true
 |_=>false
theorem zhS {o:Obj} (h:keepO o=false):o.isCells=false:=by
 cases o<;>first|rfl|(simp[keepO]at h)
structure TurnM (B:Nat) (T:TypeId) (W V:World):Prop where
 i:TurnI B T W V
 others:∀(b:Nat) (o:Obj),keepO o=false→W.heap[b]? =some o→V.heap[b]? =some o
theorem TurnM.of {B:Nat} {T:TypeId} {W V:World} (h:TurnJ B T W V):TurnM B T W V:=⟨h.i,fun b o ho hb=>h.others b o (zhS ho) hb⟩
theorem TurnM.below {B:Nat} {T:TypeId} {W V:World} (hB:B≤W.heap.size) (h:Below W.heap.size W V):TurnM B T W V:=.of (TurnJ.below hB h)
theorem TurnM.trans {B:Nat} {T:TypeId} {X Y Z:World} (h:TurnM B T X Y) (k:TurnM B T Y Z):TurnM B T X Z:=
 ⟨⟨k.i.os.trans h.i.os,k.i.tape.trans h.i.tape,k.i.output.trans h.i.output,Nat.le_trans h.i.size k.i.size,fun b hb=>(k.i.low b hb).trans (h.i.low b hb),fun b C T' fr hT hb=>k.i.cells b C T' fr hT (h.i.cells b C T' fr hT hb)⟩,fun b o ho hb=>k.others b o ho (h.others b o ho hb)⟩
structure Same1 (N:Nat) (W V:World):Prop where
 b:Below N W V
 keep:∀(b:Nat) (o:Obj),keepO o=true→W.heap[b]? =some o→V.heap[b]? =some o
theorem Same1.putObj {N:Nat} {W:World} {l:Nat} {o:Obj} (hl:W.heap[l]? =some o) (ho:keepO o=false) (hN:N≤l) (o':Obj):Same1 N W (W.putObj l o'):=by
 refine⟨⟨rfl,rfl,rfl,by simp[World.putObj],fun b hb=>World.putObj_heap_other (by omega)⟩,fun b o2 hk hb=>?_⟩
 have hne:b≠l:=fun e=>by
  subst e;rw[hl]at hb;injection hb with hb;subst hb;rw[ho]at hk;cases hk
 rw[World.putObj_heap_other hne];exact hb
def zag (N:Nat) (W V:World):Prop:=∀(b:Nat) (o:Obj),N≤b→keepO o=false→W.heap[b]? =some o→V.heap[b]? =some o
theorem zhT {N:Nat} {W V:World} (h:KeepsFrom N W V):zag N W V:=fun b o h1 h2 h3=>h.same b o h1 h3 (zhS h2)
structure TurnL (B:Nat) (T:TypeId) (N:Nat) (W V:World):Prop where
 i:TurnI B T W V
 low:∀(b:Nat) (o:Obj),b<N→keepO o=false→W.heap[b]? =some o→V.heap[b]? =some o
theorem TurnM.l {B:Nat} {T:TypeId} {N:Nat} {W V:World} (h:TurnM B T W V):TurnL B T N W V:=⟨h.i,fun b o _ ho hb=>h.others b o ho hb⟩
theorem TurnL.putObj {B:Nat} {T:TypeId} {N:Nat} {W:World} {l:Nat} {o:Obj} (hl:W.heap[l]? =some o) (ho:o.isCells=false) (hB:B≤l) (hN:N≤l) (o':Obj):TurnL B T N W (W.putObj l o'):=
 ⟨TurnI.putObj hl ho hB o',fun _ _ hb _ h=>(World.putObj_heap_other (Nat.ne_of_lt (Nat.lt_of_lt_of_le hb hN))).trans h⟩
theorem zmV {F:Fence} {n:Nat} {P:Program} {g:Operand} {ps:Array Tmp} {assign body:Code} {Q:Exit→Act→World→Prop} {a:Act} {w:World}
 (hro:F.round=none) (h1:1≤n) {gf:Nat} {lb:Array Value} (hg:a.eval g=.func (.func gf) #[] lb) (hFg:F.fn gf) (eg:∀args w,(callFunc gf args).run P w=.ok (.enter gf args) w)
 {encs:Nat→Array Value} {Kp:World→World→Prop} {N:Nat} {T:TypeId} {B0:Nat} (hB0:B0≤w.heap.size)
 (hiter:∀(l:Nat) (J:Nat→World→Prop) (W:World),Below w.heap.size w W→(∀k X Y,J k X→TurnM B0 T X Y→J k Y)→
   (∀k W1,J k W1→k<N→YieldAt F (n-1-1) P l (encs k) W1 fun e W'=>e=.returned (.bool true)∧J (k+1) W'∧Kp W1 W')→J 0 W→
   CallsIn F (n-1) P gf (#[.func (.yield l) #[] #[]]++lb) W fun e W'=>(∃v,e=.returned v)∧J N W')
 (hKt:∀{A B C:World},Kp A B→Kp B C→Kp A C) (hK0:∀W V,Same1 w.heap.size W V→Kp W V) (hps:∀k,(encs k).size=ps.size)
 (I:Nat→World→Prop) (hI:∀k W V,I k W→TurnL B0 T w.heap.size W V→I k V) (h0:I 0 w)
 (hround:∀(l k:Nat) (W:World),w.heap.size≤l→I k W→k<N→
   assign.wpIn (F.inRound l) (n-1-1) P (Exit.then (fun a1 W1=>zag w.heap.size W W1∧Kp W W1∧∀W2,Same1 w.heap.size W1 W2→TurnL B0 T w.heap.size W1 W2→body.wpIn (F.inRound l) (n-1-1) P (fun e _ W3=>e=.normal∧zag w.heap.size W2 W3∧Kp W2 W3∧I (k+1) W3) a1 W2) (fun _ _ _=>False))
    {tmps:=(ps.zip (encs k)).foldl (fun t (p,v)=>t.setIfInBounds p v) a.tmps,defers:=[]} W)
 (hdone:∀(D:Nat) (W:World),w.heap.size≤D→I N W→W.heap[D]? =some (.deferred (some []))→Q .normal {a with defers:={target:=.collected D,args:=#[]}::a.defers} W):
 (Code.rangeFunc g ps assign body).wpIn F n P Q a w:=by
 refine wpIn_rangeFunc fun fn hfn=>?_;rw[hro];let rec':LoopState→Option Code→Loop:=fun st pe=>{state:=st,pending:=pe,fn,tmps:=a.tmps,params:=ps,assign,body,defers:=w.heap.size}
 let D:=w.heap.size
 let l:=w.heap.size+1
 let X1:World:=(w.alloc (.deferred (some []))).alloc (.loop (rec' .ready none))
 have hz1:(w.alloc (.deferred (some []))).heap.size=w.heap.size+1:=World.size_alloc _ _
 have hL1:((w.alloc (.deferred (some []))).alloc (.loop (rec' .ready none))).heap[l]? =some (.loop (rec' .ready none)):=by
  have:=World.alloc_heap_new (w.alloc (.deferred (some []))) (.loop (rec' .ready none));rwa [hz1]at this
 have hD1:((w.alloc (.deferred (some []))).alloc (.loop (rec' .ready none))).heap[D]? =some (.deferred (some [])):=(Below.heap_alloc _ _ _ (by rw[hz1];exact Nat.lt_succ_self _)).trans (World.alloc_heap_new w _);have hB1:Below w.heap.size w ((w.alloc (.deferred (some []))).alloc (.loop (rec' .ready none))):=(((Below.refl _ w).alloc (Nat.le_refl _) _).alloc (by simp) _);have hI1:I 0 ((w.alloc (.deferred (some []))).alloc (.loop (rec' .ready none))):=hI 0 _ _ h0 (TurnM.below hB0 hB1).l;refine⟨l,[{target:=.collected D,args:=#[]}],X1,{target:=.fn (.func gf) lb,args:=#[.func (.yield l) #[] #[]]},X1,gf,#[.func (.yield l) #[] #[]]++lb,X1,run_enterLoop_outer _ _ _ _ _,?_,?_,?_,fun _=>h1,?_⟩
 ·simp only[resolve,hg];simp[go_sem]
 ·intro f' hf';simp[Target.leads]at hf';subst hf';exact hFg
 ·simp[invoke,go_sem,eg]
 refine(hiter l (fun k W=>I k W∧W.heap[l]? =some (.loop (rec' .ready none))∧W.heap[D]? =some (.deferred (some []))) _ hB1
  (fun k X Y h t=>⟨hI k X Y h.1 t.l,t.others _ _ rfl h.2.1,t.others _ _ rfl h.2.2⟩) ?_ ⟨hI1,hL1,hD1⟩).mono ?_
 ·rintro k W ⟨hi,hl,hd⟩ hk;refine⟨fn,_,assign,body,run_yield (P:=P) (args:=encs k) hl (hps k),roundIn_of_wpIn hfn (wpIn_mono (hround l k W (Nat.le_succ _) hi hk) ?_)⟩;rintro e a1 W1 hp;cases e with
  |normal=>
   obtain⟨k1,p1,hbody⟩:=hp;have hl1:=k1 _ _ (Nat.le_succ _) rfl hl;have hd1:=k1 _ _ (Nat.le_refl _) rfl hd;have s12:=Same1.putObj (N:=w.heap.size) hl1 rfl (Nat.le_succ _) (.loop {rec' .ready none with state:=.busy});have hl2:(W1.putObj l (.loop {rec' .ready none with state:=.busy})).heap[l]? =some (.loop {rec' .ready none with state:=.busy}):=World.putObj_heap_same (Array.getElem?_eq_some_iff.1 hl1).1;have hd2:(W1.putObj l (.loop {rec' .ready none with state:=.busy})).heap[D]? =some (.deferred (some [])):=(World.putObj_heap_other (Nat.ne_of_lt (Nat.lt_succ_self _))).trans hd1;refine⟨_,run_beginRound hl1 rfl,wpIn_mono (hbody _ s12 (TurnL.putObj hl1 rfl (Nat.le_trans hB0 (Nat.le_succ _)) (Nat.le_succ _) _)) ?_⟩;rintro e3 a3 W3 ⟨rfl,k3,p3,i3⟩;have hl3:=k3 _ _ (Nat.le_succ _) rfl hl2;have hd3:=k3 _ _ (Nat.le_refl _) rfl hd2
   exact⟨_,_,run_endRound (P:=P) none hl3,rfl,⟨hI _ _ _ i3 (TurnL.putObj hl3 rfl (Nat.le_trans hB0 (Nat.le_succ _)) (Nat.le_succ _) _),World.putObj_heap_same (Array.getElem?_eq_some_iff.1 hl3).1,(World.putObj_heap_other (Nat.ne_of_lt (Nat.lt_succ_self _))).trans hd3⟩,
    hKt p1 (hKt (hK0 _ _ s12) (hKt p3 (hK0 _ _ (Same1.putObj (N:=w.heap.size) hl3 rfl (Nat.le_succ _) _))))⟩
  |ret=>exact hp.elim
  |exit id=>exact hp.elim
  |goto t=>exact hp.elim
  |panic ch=>exact hp.elim
  |outgrown=>exact hp.elim
 ·rintro e W2 ⟨⟨v,rfl⟩,hi,hl,hd⟩;exact⟨none,_,run_endLoop (P:=P) hl (by simp[rec']),hdone D _ (Nat.le_refl _) (hI _ _ _ hi (TurnL.putObj hl rfl (Nat.le_trans hB0 (Nat.le_succ _)) (Nat.le_succ _) _)) ((World.putObj_heap_other (Nat.ne_of_lt (Nat.lt_succ_self _))).trans hd)⟩
def byE (n:Int):UInt8:=UInt8.ofNat (33+(n % 94).toNat)
def zcG (n:Int):Bs:=
 if n<0 then []else if n<94 then [byE n]else if n-94<8836 then [byE (n-94),byE ((n-94)/94)]
 else if n-94-8836<830584 then [byE (n-94-8836),byE ((n-94-8836)/94),byE ((n-94-8836)/94/94)]else []
def zcK:Nat→Int→Bs
 |0,_=> []
 |f+1,n=>if n<0∨839514≤n then []else if n<94 then [byE n]else byE n::zcK f (n/94-1)
theorem zbA {n m:Int} (h:n % 94=m % 94):byE n=byE m:=by
 unfold byE;rw[h]
theorem zcX (n:Int):zcK 3 n=zcG n:=by
 unfold zcG;by_cases h0:n<0
 ·rw[if_pos h0];unfold zcK;rw[if_pos (.inl h0)]
 rw[if_neg h0];by_cases h1:n<94
 ·rw[if_pos h1];unfold zcK;rw[if_neg (by omega),if_pos h1]
 rw[if_neg h1];by_cases h2:n-94<8836
 ·rw[if_pos h2];unfold zcK;rw[if_neg (by omega),if_neg h1];unfold zcK;rw[if_neg (by omega),if_pos (by omega),zbA (show n % 94=(n-94) % 94 by omega),zbA (show(n/94-1) % 94=((n-94)/94) % 94 by omega)]
 rw[if_neg h2];by_cases h3:n-94-8836<830584
 ·rw[if_pos h3];unfold zcK;rw[if_neg (by omega),if_neg h1];unfold zcK;rw[if_neg (by omega),if_neg (by omega)];unfold zcK;rw[if_neg (by omega),if_pos (by omega),zbA (show n % 94=(n-94-8836) % 94 by omega),zbA (show(n/94-1) % 94=((n-94-8836)/94) % 94 by omega),zbA (show((n/94-1)/94-1) % 94=((n-94-8836)/94/94) % 94 by omega)]
 ·rw[if_neg h3];unfold zcK;rw[if_pos (.inr (by omega))]
def digE (c:UInt8):Option Int:=if 33≤c.toNat∧c.toNat≤126 then some ((c.toNat:Int)-33)else none
def numE:Bs→Int→Int→Bool→Option Int
 | [],n,_,_=>some n
 |c::t,n,m,first=>match digE c with
  |none=>none
  |some k=>numE t (n+(if first=true then 0 else m)+k*m) (m*94) false
def zkg (s:Bs):Int×Bool:=if s.length<1∨3<s.length then(0,false)else match numE s 0 1 true with
 |none=>(0,false)
 |some n=>(n,true)
def numR:Bs→Option Int
 | []=>some 0
 |c::t=>match numR t,digE c with
  |some n,some k=>some ((if t=[]then n else(n+1)*94)+k)
  |_,_=>none
def zkh (s:Bs):Int×Bool:=if s.length<1∨3<s.length then(0,false)else match numR s with
 |none=>(0,false)
 |some n=>(n,true)
theorem zkn (s:Bs):zkh s=zkg s:=by
 unfold zkh zkg;by_cases h:s.length<1∨3<s.length
 ·rw[if_pos h,if_pos h]
 rw[if_neg h,if_neg h]
 have key:numR s=numE s 0 1 true:=by
  match s,h with
  | [a],_=>
    simp only[numR,numE];cases digE a with
    |none=>rfl
    |some k=>simp
  | [a,b],_=>
    simp only[numR,numE];cases digE a with
    |none=>cases digE b<;>rfl
    |some k=>
     cases digE b with
     |none=>rfl
     |some m=>simp;omega
  | [a,b,c],_=>
    simp only[numR,numE];cases digE a with
    |none=>cases digE b<;>cases digE c<;>rfl
    |some k=>
     cases digE b with
     |none=>cases digE c<;>rfl
     |some m=>
      cases digE c with
      |none=>rfl
      |some l=>simp;omega
  | [],h=>exact absurd (.inl (by simp)) h
  |_::_::_::_::_,h=>exact absurd (.inr (by simp)) h
 rw[key]
theorem zd9 (n:Int):digE (byE n)=some (n % 94):=by
 have h1:0≤n % 94:=by omega
 have h2:n % 94<94:=by omega
 unfold digE byE
 have e:(UInt8.ofNat (33+(n % 94).toNat)).toNat=33+(n % 94).toNat:=by
  rw[UInt8.toNat_ofNat'];omega
 rw[e,if_pos ⟨by omega,by omega⟩];congr 1
 omega
theorem zkl {n:Int} (h0:0≤n) (h1:n<839514):zkg (zcG n)=(n,true):=by
 unfold zcG;rw[if_neg (by omega)];by_cases h2:n<94
 ·rw[if_pos h2];unfold zkg;rw[if_neg (by simp)];simp only[numE,zd9];refine Prod.ext ?_ rfl;show 0+(if true=true then 0 else(1:Int))+n % 94*1=n;rw[if_pos rfl];omega
 rw[if_neg h2];by_cases h3:n-94<8836
 ·rw[if_pos h3];unfold zkg;rw[if_neg (by simp)];simp only[numE,zd9];refine Prod.ext ?_ rfl;simp;omega
 rw[if_neg h3,if_pos (by omega)];unfold zkg;rw[if_neg (by simp)];simp only[numE,zd9];refine Prod.ext ?_ rfl;simp;omega
theorem zcU {n:Int} (h:zcG n=[]):n<0∨839514≤n:=by
 unfold zcG at h;by_cases h0:n<0
 ·exact .inl h0
 rw[if_neg h0]at h;by_cases h1:n<94
 ·rw[if_pos h1]at h;cases h
 rw[if_neg h1]at h;by_cases h2:n-94<8836
 ·rw[if_pos h2]at h;cases h
 rw[if_neg h2]at h;by_cases h3:n-94-8836<830584
 ·rw[if_pos h3]at h;cases h
 ·exact .inr (by omega)
theorem zcZ {n:Int} (h:zcG n≠ []):0≤n∧n<839514:=by
 unfold zcG at h;by_cases h0:n<0
 ·rw[if_pos h0]at h;exact absurd rfl h
 rw[if_neg h0]at h;by_cases h1:n<94
 ·omega
 rw[if_neg h1]at h;by_cases h2:n-94<8836
 ·omega
 rw[if_neg h2]at h;by_cases h3:n-94-8836<830584
 ·omega
 ·rw[if_neg h3]at h;exact absurd rfl h
theorem zcS (n:Int) (h0:0≤n) (h1:n<839514):(zcG n).length=if n<94 then 1 else if n<8930 then 2 else 3:=by
 unfold zcG;rw[if_neg (by omega)];by_cases h2:n<94
 ·rw[if_pos h2,if_pos h2];rfl
 rw[if_neg h2,if_neg h2];by_cases h3:n-94<8836
 ·rw[if_pos h3,if_pos (by omega)];rfl
 ·rw[if_neg h3,if_pos (show n-94-8836<830584 by omega),if_neg (show ¬n<8930 by omega)];rfl
theorem zcV {a b:Int} (ha:zcG a≠ []) (hb:zcG b≠ []):(zcG a=zcG b↔a=b)∧(b<a∨(zcG a).length≤(zcG b).length)∧(zcG a).length≤3:=by
 have h1:=zcZ ha;have h2:=zcZ hb;have n1:=zkl h1.1 h1.2;have n2:=zkl h2.1 h2.2;refine⟨⟨fun h=>?_,fun h=>by rw[h]⟩,?_,?_⟩
 ·rw[h,n2]at n1;exact(congrArg Prod.fst n1).symm
 ·rw[zcS a h1.1 h1.2,zcS b h2.1 h2.2];by_cases h:b<a
  ·exact .inl h
  ·refine .inr ?_;split<;>split<;>first|omega|(split<;>first|omega|(split<;>omega))
 ·rw[zcS a h1.1 h1.2];split
  ·omega
  ·split<;>omega
open Go
def zkT (md:Region.Mode) (ops:Array Oper) (listed:Array Bool) (i:Nat):Bool:=
 !listed.getD i true&&((ops[i]?).map (·.after.all fun e=>!Region.binds md e||listed.getD e.on false)).getD false
theorem zkU {md:Region.Mode} {ops:Array Oper} {listed:Array Bool} {i:Nat} {oi:Oper} (hi:ops[i]? =some oi) (h:zkT md ops listed i=true):(Region.ready md ops listed).contains i=true:=by
 unfold Region.ready;rw[List.contains_iff_mem,List.mem_filter,List.mem_range];exact⟨(Array.getElem?_eq_some_iff.1 hi).1,h⟩
def zfS (md:Region.Mode) (ops:Array Oper) (i:Nat):Bool:=
 match ops[i]? with
 |none=>false
 |some oi=>(List.range ops.size).all fun j=>j==i||match ops[j]? with
   |some oj=>oj.after.any (fun e=>Region.binds md e&&e.on==i)||oi.after.any (fun e=>Region.binds md e&&e.on==j)||oi.apart ops oj
   |none=>true
def zpM (md:Region.Mode) (ops:Array Oper) (l:List Nat):Bool:=Region.noSelect ops&&l.all fun i=>zfS md ops i
theorem zfT {md:Region.Mode} {ops:Array Oper} {listed:Array Bool} {i:Nat} {oi:Oper} (hi:ops[i]? =some oi) (hf:zfS md ops i=true) (hr:zkT md ops listed i=true):Region.free md ops listed i=true:=by
 unfold zfS at hf;unfold Region.free;rw[hi]at hf⊢;dsimp only at hf⊢;rw[List.all_eq_true]at hf⊢;intro j hj;have h1:=hf j hj;rw[Bool.or_eq_true]at h1⊢;rcases h1 with h1|h1
 ·exact .inl (by rw[h1,Bool.true_or])
 ·cases hlj:listed.getD j true with
  |true=>exact .inl (by rw[Bool.or_true])
  |false=>
   refine .inr ?_;cases hoj:ops[j]? with
   |none=>rfl
   |some oj=>
    rw[hoj]at h1;dsimp only at h1⊢;rw[Bool.or_eq_true,Bool.or_eq_true]at h1;rw[Bool.or_eq_true];rcases h1 with(h1|h1)|h1
    ·exact .inl h1
    ·exfalso
     obtain⟨e,he,hb⟩:=Array.any_eq_true'.1 h1;rw[Bool.and_eq_true,beq_iff_eq]at hb;unfold zkT at hr;rw[hi,Bool.and_eq_true]at hr;have h2:=Array.all_eq_true_iff_forall_mem.1 (show(oi.after.all fun e=>!Region.binds md e||listed.getD e.on false)=true from hr.2) e he;rw[hb.1,hb.2,Bool.not_true,Bool.false_or]at h2
     have hjl:j<listed.size:=by
      rw[Array.getD_eq_getD_getElem?]at h2;cases hx:listed[j]? with
      |none=>rw[hx]at h2;cases h2
      |some b=>exact(Array.getElem?_eq_some_iff.1 hx).1
     rw[Array.getD_eq_getD_getElem?,Array.getElem?_eq_getElem hjl]at h2 hlj;dsimp only[Option.getD_some]at h2 hlj;rw[h2]at hlj;cases hlj
    ·exact .inr h1
section
variable {P : Program} {md : Region.Mode} {ops : Array Oper} {Q : Exit → Act → World → Prop} {S : World → Prop}
theorem ztF {l:List Nat} {i:Nat} {oi:Oper} {v:Value} {fuel:Nat} {listed:Array Bool} {a:Act} {w:World} (hst:RowKit.Hid (zpM md ops l=true)) (hi:ops[i]? =some oi) (hl:l.contains i=true) (hr:zkT md ops listed i=true)
 (hQ:∀c a w,Q (.panic c) (a.put oi.dst v) w→Q (.panic c) a w) (hy:YieldsIf P ops S oi v a) (hS:S w)
 (h:wpAnyH P md ops Q S fuel (listed.setIfInBounds i true) (a.put oi.dst v) w):wpAnyH P md ops Q S (fuel+1) listed a w:=by
 have hst:=hst.out;unfold zpM at hst;rw[Bool.and_eq_true,List.all_eq_true]at hst;exact wpAnyH_take hi hst.1 (zfT hi (hst.2 i (by rwa [List.contains_iff_mem]at hl)) hr) (zkU hi hr) hQ hy hS h
def zaw (ops:Array Oper):List Nat→Act→Act→Prop
 | [],a,b=>a=b
 |i::is,a,b=>∃oi,ops[i]? =some oi∧Region.wanted oi (yielded ops a.tmps)=false∧zaw ops is (a.put oi.dst undef) b
theorem zaw.nil {ops:Array Oper} {a:Act}:zaw ops [] a a:=rfl
theorem zaw.cons {ops:Array Oper} {i:Nat} {is:List Nat} {a b:Act} {oi:Oper} (ho:ops[i]? =some oi) (hw:Region.wanted oi (yielded ops a.tmps)=false) (h:zaw ops is (a.put oi.dst undef) b):zaw ops (i::is) a b:=⟨oi,ho,hw,h⟩
def zmX (md:Region.Mode) (ops:Array Oper):List Nat→Array Bool→Bool
 | [],_=>true
 |i::is,listed=>zkT md ops listed i&&zmX md ops is (listed.setIfInBounds i true)
theorem ztE {l:List Nat} {i d:Nat} {oi:Oper} {v:Value} {fuel:Nat} {lb lb':List Bool} {ts ts':List Value} {df:List Deferred} {w:World} (hst:RowKit.Hid (zpM md ops l=true)) (hi:ops[i]? =some oi) (hd:oi.dst=some d) (hl:l.contains i=true) (hr:zkT md ops lb.toArray i=true)
 (hQ:∀c a w,Q (.panic c) (a.put (some d) v) w→Q (.panic c) a w) (hy:YieldsIf P ops S oi v ⟨ts.toArray,df⟩) (hS:S w) (h1:lb.set i true=lb') (h2:ts.set d v=ts')
 (h:wpAnyH P md ops Q S fuel lb'.toArray ⟨ts'.toArray,df⟩ w):wpAnyH P md ops Q S (fuel+1) lb.toArray ⟨ts.toArray,df⟩ w:=by
 refine ztF hst hi hl hr (fun c a w hq=>by rw[hd]at hq;exact hQ c a w hq) hy hS ?_
 have e:Act.put ⟨ts.toArray,df⟩ oi.dst v=⟨ts'.toArray,df⟩:=by
  rw[hd,←h2];show Act.mk (ts.toArray.setIfInBounds d v) df=_;rw[List.setIfInBounds_toArray]
 rw[e,List.setIfInBounds_toArray,h1];exact h
def zav (ops:Array Oper):List Nat→List Value→List Value→Prop
 | [],a,b=>a=b
 |i::is,a,b=>∃oi d c,ops[i]? =some oi∧oi.dst=some d∧Region.wanted oi (yielded ops a.toArray)=false∧a.set d undef=c∧zav ops is c b
theorem zav.nil {ops:Array Oper} {a:List Value}:zav ops [] a a:=rfl
theorem zav.cons {ops:Array Oper} {i d:Nat} {is:List Nat} {a b c:List Value} {oi:Oper} (ho:ops[i]? =some oi) (hd:oi.dst=some d) (hw:Region.wanted oi (yielded ops a.toArray)=false) (hc:a.set d undef=c) (h:zav ops is c b):zav ops (i::is) a b:=⟨oi,d,c,ho,hd,hw,hc,h⟩
theorem ztD {l:List Nat} (hst:RowKit.Hid (zpM md ops l=true)) (hQ:∀c a w (k:Nat),Q (.panic c) (a.put (some k) undef) w→Q (.panic c) a w):∀(is:List Nat) (m:Nat) {fuel:Nat} {lb lb':List Bool} {a b:List Value} {df:List Deferred} {w:World} (_:is.length=m) (_:is.all (fun i=>l.contains i)=true) (_:zmX md ops is lb.toArray=true) (_:zav ops is a b) (_:S w)
 (_:is.foldl (fun l i=>l.set i true) lb=lb') (_:wpAnyH P md ops Q S fuel lb'.toArray ⟨b.toArray,df⟩ w),wpAnyH P md ops Q S (fuel+m) lb.toArray ⟨a.toArray,df⟩ w
 | [],m,fuel,lb,lb',a,b,df,w,hm,_,_,hb,_,e,h=>by
   obtain rfl:m=0:=hm.symm;obtain rfl:a=b:=hb;obtain rfl:lb=lb':=e;exact h
 |i::is,m,fuel,lb,lb',a,b,df,w,hm,hl,hr,⟨oi,d,c,ho,hd,hw,hc,hb⟩,hS,e,h=>by
  obtain rfl:m=is.length+1:=hm.symm;rw[List.all_cons,Bool.and_eq_true]at hl;unfold zmX at hr;rw[Bool.and_eq_true,List.setIfInBounds_toArray]at hr;exact ztE (fuel:=fuel+is.length) hst ho hd hl.1 hr.1 (fun c a w hq=>hQ c a w d hq) (.inr ⟨hw,rfl⟩) hS rfl hc (ztD hst hQ is is.length rfl hl.2 hr.2 hb hS e h)
theorem ztS (l:List Nat) (lb:List Bool) {id:Nat} {a:Act} {w:World} (hm:P.follows .mixedOrders=true) (hst:zpM .any ops l=true) (hlb:List.replicate ops.size false=lb) (hS:S w.drew)
 (h:S w.drew→RowKit.Hid (zpM .any ops l=true)→wpAnyH P .any ops Q S lb.length lb.toArray a w.drew):(Code.region id ops true).wp P Q a w:=
 wp_region_held_drew hm hS (fun h1=>by
  have h2:=h h1 hst;have e:Array.replicate ops.size false=lb.toArray:=by rw[←hlb];simp
  rw[e,show ops.size=lb.length by rw[←hlb];simp];exact h2)
theorem tkV {l:List Nat} (i:Nat) (v:Value) {d:Nat} {oi:Oper} {fuel:Nat} {lb lb':List Bool} {ts ts':List Value} {df:List Deferred} {w:World} (hst:RowKit.Hid (zpM md ops l=true)) (hS:S w)
 (hi:ops[i]? =some oi) (hd:oi.dst=some d)
 (h:wpAnyH P md ops Q S fuel lb'.toArray ⟨ts'.toArray,df⟩ w) (hl:l.contains i=true:=by rfl) (hr:zkT md ops lb.toArray i=true:=by kernel_rfl)
 (hQ:∀c a w,Q (.panic c) (a.put (some d) v) w→Q (.panic c) a w:=by exact fun _ _ _ h=>h)
 (hw:Region.wanted oi (yielded ops ts.toArray)=true:=by kernel_rfl) (hy:∀w,S w→(execOp (Act.mk ts.toArray df).eval oi).run P w=.ok (.value v) w:=by exact fun _ _=>by kernel_rfl)
 (h1:lb.set i true=lb':=by dsimp only[List.set_cons_succ,List.set_cons_zero]) (h2:ts.set d v=ts':=by dsimp only[List.set_cons_succ,List.set_cons_zero]):
 wpAnyH P md ops Q S (fuel+1) lb.toArray ⟨ts.toArray,df⟩ w:=ztE hst hi hd hl hr hQ (Or.inl ⟨hw,hy⟩) hS h1 h2 h
theorem tkL {l:List Nat} (i:Nat) {v:Value} {d:Nat} {oi:Oper} {fuel:Nat} {lb lb':List Bool} {ts ts':List Value} {df:List Deferred} {w:World} (hst:RowKit.Hid (zpM md ops l=true)) (hS:S w)
 (hi:ops[i]? =some oi) (hd:oi.dst=some d) (hy:∀w,S w→(execOp (Act.mk ts.toArray df).eval oi).run P w=.ok (.value v) w)
 (h:wpAnyH P md ops Q S fuel lb'.toArray ⟨ts'.toArray,df⟩ w) (hl:l.contains i=true:=by rfl) (hr:zkT md ops lb.toArray i=true:=by kernel_rfl)
 (hQ:∀c a w,Q (.panic c) (a.put (some d) v) w→Q (.panic c) a w:=by exact fun _ _ _ h=>h)
 (hw:Region.wanted oi (yielded ops ts.toArray)=true:=by rfl)
 (h1:lb.set i true=lb':=by dsimp only[List.set_cons_succ,List.set_cons_zero]) (h2:ts.set d v=ts':=by dsimp only[List.set_cons_succ,List.set_cons_zero]):
 wpAnyH P md ops Q S (fuel+1) lb.toArray ⟨ts.toArray,df⟩ w:=ztE hst hi hd hl hr hQ (Or.inl ⟨hw,hy⟩) hS h1 h2 h
theorem tkQ {l:List Nat} (i:Nat) {v:Value} {d:Nat} {oi:Oper} {fuel:Nat} {lb lb':List Bool} {ts ts':List Value} {df:List Deferred} {w:World} (hst:RowKit.Hid (zpM md ops l=true)) (hS:S w)
 (hi:ops[i]? =some oi) (hd:oi.dst=some d)
 (h:wpAnyH P md ops Q S fuel lb'.toArray ⟨ts'.toArray,df⟩ w) (hl:l.contains i=true:=by rfl) (hr:zkT md ops lb.toArray i=true:=by kernel_rfl)
 (hQ:∀c a w,Q (.panic c) (a.put (some d) v) w→Q (.panic c) a w:=by exact fun _ _ _ h=>h)
 (hw:Region.wanted oi (yielded ops ts.toArray)=true:=by rfl) (hy:∀w,S w→(execOp (Act.mk ts.toArray df).eval oi).run P w=.ok (.value v) w:=by intro w h;(try dsimp only at h);go_simp;all_goals with_reducible rfl)
 (h1:lb.set i true=lb':=by dsimp only[List.set_cons_succ,List.set_cons_zero]) (h2:ts.set d v=ts':=by dsimp only[List.set_cons_succ,List.set_cons_zero]):
 wpAnyH P md ops Q S (fuel+1) lb.toArray ⟨ts.toArray,df⟩ w:=ztE hst hi hd hl hr hQ (Or.inl ⟨hw,hy⟩) hS h1 h2 h
theorem zav.c {ops:Array Oper} {i d:Nat} {is:List Nat} {a b c:List Value} {oi:Oper} (ho:ops[i]? =some oi) (hd:oi.dst=some d) (hw:Region.wanted oi (yielded ops a.toArray)=false:=by kernel_rfl) (hc:a.set d undef=c:=by dsimp only[List.set_cons_succ,List.set_cons_zero]) (h:zav ops is c b):zav ops (i::is) a b:=⟨oi,d,c,ho,hd,hw,hc,h⟩
theorem skL {l:List Nat} (is:List Nat) (m:Nat) {fuel:Nat} {lb lb':List Bool} {a b:List Value} {df:List Deferred} {w:World} (hst:RowKit.Hid (zpM md ops l=true)) (hS:S w) (hk:zav ops is a b)
 (h:wpAnyH P md ops Q S fuel lb'.toArray ⟨b.toArray,df⟩ w) (hm:is.length=m:=by rfl) (hl:is.all (fun i=>l.contains i)=true:=by kernel_rfl) (hr:zmX md ops is lb.toArray=true:=by kernel_rfl)
 (hQ:∀c a w (k:Nat),Q (.panic c) (a.put (some k) undef) w→Q (.panic c) a w:=by exact fun _ _ _ _ h=>h)
 (he:is.foldl (fun l i=>l.set i true) lb=lb':=by dsimp only[List.foldl_cons,List.foldl_nil,List.set_cons_succ,List.set_cons_zero]):
 wpAnyH P md ops Q S (fuel+m) lb.toArray ⟨a.toArray,df⟩ w:=ztD hst hQ is m hm hl hr hk hS he h
end
open Go.RowKit Go.WideMaps
def zaq (P:Program) (K:TypeId) (w:World) (b n:Nat) (f:BsM→Option Value):Prop:=
 ∃D:DataW Value,w.ownsMap P K vR b n D∧(∀s:BsM,Maps.has D (.string s)=(f s).isSome∧∀v,f s=some v→∀z,D.atKey (.string s) z=.held v)∧Maps.size D=n
section
variable {P : Program} {K t e : TypeId} {w : World} {b n : Nat} {f : BsM → Option Value}
theorem zaq.s (h:zaq P K w b n f):SMap P K w b n f:=by
 obtain⟨D,h1,h2,-⟩:=h;exact⟨D,h1,h2⟩
theorem zaq.len (h:zaq P K w b n f) (ht:P.underlying t=some (.map K e)) (ty:TypeId):(Builtin.len_ #[t] ty #[.map (some b)]).run P w=.ok (.int .i64 (n:Int)) w:=by
 obtain⟨D,h1,-,h3⟩:=h;have:=h1.len ht ty;rwa [h3]at this
theorem zaq.put (h:zaq P K w b n f) (hK:P.underlying K=some .string) (ht:P.underlying t=some (.map K e)) (hn:n<maxLen) (s:ByteArray) (hs:s.size≤maxLen) (hnew:f s.data.toList=none) (v:Value):
 ∃w',(Instr.mapUpdate t (.map (some b)) (.string s) v).run P w=.ok () w'∧zaq P K w' b (n+1) (fun x=>if x=s.data.toList then some v else f x)∧w.grownBy w' (some b):=by
 obtain⟨D,ho,hf,hz⟩:=h;obtain⟨w',hr,ho',hg⟩:=ho.update (Maps.string_keyed hK) ht hn (keyOf_string_mk hK hs) (val:=v) (d:=.held v) (ps:=[]) rfl;refine⟨w',hr,⟨_,ho',fun x=>?_,?_⟩,hg⟩
 ·by_cases hx:x=s.data.toList
  ·subst hx;simp only[if_true];refine⟨Maps.has_put_same ho.isMap (zpP _) _,fun u hu z=>?_⟩;injection hu with hu;subst hu;exact Maps.atKey_put_same ho.isMap (zpP _) _ _
  ·have hne:(Lit.string x)≠Lit.string s.data.toList:=fun h=>hx (by injection h);simp only[if_neg hx];exact⟨(Maps.has_put_other hne _).trans (hf x).1,fun u hu z=>(Maps.atKey_put_other hne _ _).trans ((hf x).2 u hu z)⟩
 ·rw[Maps.size_put (ho.tidy (Maps.string_keyed hK)),hz,if_neg];rw[(hf s.data.toList).1,hnew];simp
theorem zaq.made (w:World) (P:Program) (K:TypeId):zaq P K (w.alloc (.map #[] 0)) w.heap.size 0 (fun _=>none):=
 ⟨_,World.ownsMap_made w P K vR,fun _=>⟨rfl,fun _ h=>by cases h⟩,rfl⟩
theorem zaq.ext (h:zaq P K w b n f) {g:BsM→Option Value} (he:∀s,f s=g s):zaq P K w b n g:=by
 rw[show g=f from funext fun s=>(he s).symm];exact h
theorem zaq.kept {w':World} {row:Option Nat} (h:zaq P K w b n f) (hg:w.grownBy w' row) (hne:some b≠row):zaq P K w' b n f:=by
 obtain⟨D,ho,hf⟩:=h;exact⟨D,ho.kept hg hne,hf⟩
theorem zaq.same {w':World} (h:zaq P K w b n f) (hb:w'.heap[b]? =w.heap[b]?):zaq P K w' b n f:=by
 obtain⟨D,⟨es,clock,h1,h2⟩,hf⟩:=h;exact⟨D,⟨es,clock,hb.trans h1,h2⟩,hf⟩
theorem zaq.below {w':World} {B:Nat} (h:zaq P K w b n f) (hb:Below B w w') (hB:b<B):zaq P K w' b n f:=h.same (hb.block b hB)
theorem zaq.setCell {a:Addr} (h:zaq P K w b n f) (ha:b≠a.block) (u:Value):zaq P K (w.setCell a u) b n f:=by
 obtain⟨D,ho,hf⟩:=h;exact⟨D,ho.setCell ha u,hf⟩
theorem zaq.alloc (h:zaq P K w b n f) (o:Obj):zaq P K (w.alloc o) b n f:=h.kept (World.grownBy_alloc w o none) (by simp)
theorem zaq.drew (h:zaq P K w b n f):zaq P K w.drew b n f:=h
theorem zaq.ne_row (h:zaq P K w b n f) {B T size m:Nat} {v:Value} {xs:List Value} (ho:w.ownsRow B T size v m xs):some b≠v.ownBlock:=h.s.ne_row ho
end
section
variable {par : Nat → Int} {n : Nat}
def Dn (par:Nat→Int) (n:Nat) (p:Int) (x:Nat):Prop:=x∈pre par n (n+1) p
theorem zeo {p:Int} {x:Nat} (hx:x<n) (hp:par x=p):Dn par n p x:=zmq.2 ⟨x,hx,hp,.inl rfl⟩
theorem zen (hF:Fst par n) {f:Nat} {p:Int} (hp: -1≤p):∀x,x∈pre par n f p→Dn par n p x:=fun x=>by
 induction x using Nat.strongRecOn with
 |ind x ih=>
  intro h;obtain⟨h1,h2,h3,h4⟩:=zmp hF _ _ _ h;rcases h4 with h4|⟨y,hy,h4⟩
  ·exact zeo h1 h4
  ·have:=hF x h1;exact zmm hF _ _ x y (by omega) (ih y (by omega) hy) h1 h4
theorem zep (hF:Fst par n) {p:Int} (hp: -1≤p) {q:Nat} (hq:Dn par n p q):∀x,Dn par n q x→Dn par n p x:=fun x=>by
 induction x using Nat.strongRecOn with
 |ind x ih=>
  intro h;obtain⟨h1,h2,h3,h4⟩:=zmp hF _ _ _ h;rcases h4 with h4|⟨y,hy,h4⟩
  ·exact zmm hF _ _ x q (by omega) hq h1 h4
  ·have:=hF x h1;exact zmm hF _ _ x y (by omega) (ih y (by omega) hy) h1 h4
def insF (par:Nat→Int):Nat→Int→Int→Bool
 |0,o,i=>decide (i=o)
 |f+1,o,i=>if i≤o then decide (i=o)else insF par f o (par i.toNat)
theorem zgZ {f:Nat} {o i:Int} (h:i≤o):insF par f o i=decide (i=o):=by
 cases f with
 |zero=>rfl
 |succ f=>unfold insF;rw[if_pos h]
theorem zg5 (hF:Fst par n) {o:Nat}:∀(x f:Nat),x<n→x≤f→(insF par f o x=true↔x=o∨Dn par n o x):=fun x=>by
 induction x using Nat.strongRecOn with
 |ind x ih=>
  intro f hx hf;by_cases hlt:x≤o
  ·rw[zgZ (by omega),decide_eq_true_iff];constructor
   ·intro h;exact .inl (by omega)
   ·rintro(h|h)
    ·omega
    ·have:=(zmp hF _ _ _ h).2.2.1;omega
  ·obtain⟨g,rfl⟩:∃g,f=g+1:=⟨f-1,by omega⟩;unfold insF;rw[if_neg (by omega),Int.toNat_natCast];have h1:=hF x hx;by_cases h0:0≤par x
   ·obtain⟨y,hy⟩:∃y:Nat,par x=(y:Int):=⟨(par x).toNat,by omega⟩;rw[hy,ih y (by omega) g (by omega) (by omega)];constructor
    ·rintro(h|h)
     ·subst h;exact .inr (zeo hx hy)
     ·exact .inr (zmm hF _ _ x y (by omega) h hx hy)
    ·rintro(h|h)
     ·omega
     ·obtain⟨-,-,-,h4⟩:=zmp hF _ _ _ h;rcases h4 with h4|⟨z,hz,h4⟩
      ·exact .inl (by omega)
      ·obtain rfl:y=z:=by omega
       exact .inr hz
   ·rw[zgZ (by omega),decide_eq_true_iff];constructor
    ·intro h;omega
    ·rintro(h|h)
     ·omega
     ·have:=(zmp hF _ _ _ h).2.1;omega
def Nxt (par:Nat→Int) (n:Nat):Prop:=∀i,i+1<n→0≤par (i+1)→(i:Int)=par (i+1)∨Dn par n (par (i+1)) i
theorem zkp (hF:Fst par n) (H:Nxt par n) {p:Int} (hp:0≤p) {x:Nat} (h:Dn par n p (x+1)):(x:Int)=p∨Dn par n p x:=by
 obtain⟨h1,h2,h3,h4⟩:=zmp hF _ _ _ h;have hx:=H x h1 (by omega);rcases h4 with h4|⟨y,hy,h4⟩
 ·rw[h4]at hx;exact hx
 ·rw[h4]at hx;rcases hx with hx|hx
  ·obtain rfl:x=y:=by omega
   exact .inr hy
  ·exact .inr (zep hF (by omega) hy x hx)
theorem zko (hF:Fst par n) (H:Nxt par n) {p:Int} (hp:0≤p) {z:Nat} (hz:p<(z:Int)):∀d,Dn par n p (z+d)→Dn par n p z
 |0,h=>h
 |d+1,h=>by
  rcases zkp hF H hp (x:=z+d) h with h|h
  ·omega
  ·exact zko hF H hp hz d h
theorem zmn (hF:Fst par n) (H:Nxt par n):∀(f:Nat) (p:Int),(pre par n f p).Pairwise (· < ·)
 |0,_=>List.Pairwise.nil
 |f+1,p=>by
  rw[zmv,List.pairwise_flatMap];refine⟨fun i _=>?_,?_⟩
  ·split
   ·rw[List.pairwise_cons];refine⟨fun y hy=>?_,zmn hF H f i⟩;have:=(zmp hF _ _ _ hy).2.2.1;omega
   ·exact List.Pairwise.nil
  ·refine List.Pairwise.imp_of_mem ?_ List.pairwise_lt_range;intro i j hi hj hij x hx y hy;split at hx
   ·rename_i pi
    split at hy
    ·rename_i pj
     have hi:=List.mem_range.1 hi
     have hyj:j≤y:=by
      rcases List.mem_cons.1 hy with rfl|hy
      ·exact Nat.le_refl _
      ·have:=(zmp hF _ _ _ hy).2.2.1;omega
     have hxj:x<j:=by
      rcases List.mem_cons.1 hx with rfl|hx
      ·exact hij
      ·refine Nat.lt_of_not_le fun hle=>?_;obtain⟨d,rfl⟩:∃d,x=j+d:=⟨x-j,by omega⟩;have h1:=zko hF H (p:=i) (by omega) (z:=j) (by omega) d (zen hF (by omega) _ hx);have h2:=(zmp hF _ _ _ h1).2.1;have:=hF i hi;omega
     omega
    ·cases hy
   ·cases hx
theorem zmu:∀(f:Nat) (p:Int),(hF:Fst par n)→(n:Int)<(f:Int)+p+1→∀x,x∈pre par n f p→∃A B f',pre par n f p=A++x::(pre par n f' x++B)∧(n:Int)<(f':Int)+x+1
 |0,_,_,_,_,h=>by cases h
 |f+1,p,hF,hf,x,h=>by
  obtain⟨i,hi,hp,hx⟩:=zmq.1 h;obtain⟨L1,L2,hL⟩:=List.append_of_mem (List.mem_range.2 hi);have hpi:=hF i hi
  have e:pre par n (f+1) p=(L1.flatMap fun i=>if par i=p then i::pre par n f i else [])++(i::pre par n f i)++(L2.flatMap fun i=>if par i=p then i::pre par n f i else []):=by
   rw[zmv,hL,List.flatMap_append,List.flatMap_cons,if_pos hp,List.append_assoc]
  rcases hx with rfl|hx
  ·exact⟨L1.flatMap fun i=>if par i=p then i::pre par n f i else [],L2.flatMap fun i=>if par i=p then i::pre par n f i else [],f,by rw[e];simp only[List.append_assoc,List.cons_append],by omega⟩
  ·obtain⟨A,B,f',e2,hf'⟩:=zmu f i hF (by omega) x hx;exact⟨(L1.flatMap fun i=>if par i=p then i::pre par n f i else [])++i::A,B++(L2.flatMap fun i=>if par i=p then i::pre par n f i else []),f',by rw[e,e2];simp only[List.append_assoc,List.cons_append],hf'⟩
theorem zmt (hF:Fst par n):Nxt par n↔pre par n (n+1) (-1)=List.range n:=by
 constructor
 ·intro H
  have h1:(pre par n (n+1) (-1)).Perm (List.range n):=by
   refine(List.perm_ext_iff_of_nodup (zmr hF _ _) List.nodup_range).2 fun x=>?_;rw[List.mem_range];exact⟨fun h=>(zmp hF _ _ x h).1,fun h=>zmj hF x h⟩
  exact h1.eq_of_pairwise (fun a b _ _ h1 h2=>by omega) (zmn hF H _ _) List.pairwise_lt_range
 ·intro h i hi h0;obtain⟨q,hq⟩:∃q:Nat,par (i+1)=(q:Int):=⟨(par (i+1)).toNat,by omega⟩;have hb:=hF _ hi;obtain⟨A,B,f',e,hf'⟩:=zmu (n+1) (-1) hF (by omega) q (by rw[h,List.mem_range];omega);rw[h]at e
  have hat:∀k v,(A++q::(pre par n f' q++B))[k]? =some v→v=k:=fun k v hk=>by
   rw[←e]at hk;obtain⟨h1,h2⟩:=List.getElem?_eq_some_iff.1 hk;rw[List.getElem_range]at h2;exact h2.symm
  have hq0:q=A.length:=hat A.length q (by rw[List.getElem?_append_right (Nat.le_refl _)];simp)
  have hmem:i+1∈pre par n f' q:=by
   cases f' with
   |zero=>omega
   |succ f'=>exact zmq.2 ⟨i+1,hi,hq,.inl rfl⟩
  obtain⟨k,hk,hki⟩:=List.mem_iff_getElem.1 hmem;have hki2:(pre par n f' q)[k]? =some (i+1):=by rw[List.getElem?_eq_getElem hk,hki]
  have h1:i+1=A.length+1+k:=hat (A.length+1+k) (i+1) (by
   rw[List.getElem?_append_right (by omega),show A.length+1+k-A.length=k+1 by omega,List.getElem?_cons_succ,List.getElem?_append_left hk];exact hki2)
  rw[hq];cases k with
  |zero=>exact .inl (by omega)
  |succ k=>
   have hk':k<(pre par n f' q).length:=by omega
   have h2:(pre par n f' q)[k]=A.length+1+k:=hat (A.length+1+k) _ (by
    rw[List.getElem?_append_right (by omega),show A.length+1+k-A.length=k+1 by omega,List.getElem?_cons_succ,List.getElem?_append_left hk',List.getElem?_eq_getElem hk'])
   refine .inr (zen hF (by omega) i (f:=f') ?_);rw[show i=(pre par n f' q)[k]by omega];exact List.getElem_mem hk'
end
end Go.Proofs.YtfppgpamkdkckaaGreatDoor
