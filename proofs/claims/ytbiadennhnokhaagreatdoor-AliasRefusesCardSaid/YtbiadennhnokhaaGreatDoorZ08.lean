import Derived.Test.YtbiadennhnokhaaGreatDoorZ00
import Derived.Test.YtbiadennhnokhaaGreatDoorZ06
set_option maxRecDepth 100000
set_option maxHeartbeats 16000000
namespace Go.Proofs.YtbiadennhnokhaaGreatDoor
open Go.RowKit
set_option linter.unusedSimpArgs false
def badD (n:Nat) (v:Vr):Bool:=decide (v.sc< -1)||decide ((n:Int)≤v.sc)||decide (v.sg<0)
theorem zfx (pt:Nat) (x:Vr) (a:Option Addr) (n cap:Nat) (w:World) (hc:w.cell? ⟨pt,0,none⟩=some (.slice a n cap)):
 Calls Tryz.prog 259 #[vrV x,.pointer (some ⟨pt,0,none⟩)] w fun e w'=>e=.returned (.bool (badD n x))∧Below w.heap.size w w':=by
 have hlt:=zbT hc;have hne:pt≠w.heap.size:=Nat.ne_of_lt hlt;obtain⟨nm,ty,sc,sg,rg,mb,lb⟩:=x;by_cases h1:sc< -1
 ·have b1:decide (sc< -1)=true:=by simpa using h1
  have HR:=lhd (show true=badD n ⟨nm,ty,sc,sg,rg,mb,lb⟩by simp[badD,b1]);clear h1;go_enter Tryz.func259,Tryz.ntmps259;go_wp2_with fail;go_ret;exact⟨zli HR.out,(Below.refl _ _).alloc (Nat.le_refl _) _⟩
 ·have b1:decide (sc< -1)=false:=by simpa using h1
  by_cases h2:(n:Int)≤sc
  ·have b2:decide ((n:Int)≤sc)=true:=by simpa using h2
   have HR:=lhd (show true=badD n ⟨nm,ty,sc,sg,rg,mb,lb⟩by simp[badD,b2]);clear h1 h2;go_enter Tryz.func259,Tryz.ntmps259;go_wp2_with fail;go_ret;exact⟨zli HR.out,(Below.refl _ _).alloc (Nat.le_refl _) _⟩
  ·have b2:decide ((n:Int)≤sc)=false:=by simpa using h2
   by_cases h3:sg<0
   ·have b3:decide (sg<0)=true:=by simpa using h3
    have HR:=lhd (show true=badD n ⟨nm,ty,sc,sg,rg,mb,lb⟩by simp[badD,b3]);clear h1 h2 h3;go_enter Tryz.func259,Tryz.ntmps259;go_wp2_with fail;go_ret;exact⟨zli HR.out,(Below.refl _ _).alloc (Nat.le_refl _) _⟩
   ·have b3:decide (sg<0)=false:=by simpa using h3
    have HR:=lhd (show false=badD n ⟨nm,ty,sc,sg,rg,mb,lb⟩by simp[badD,b1,b2,b3]);clear h1 h2 h3;go_enter Tryz.func259,Tryz.ntmps259;go_wp2_with fail;go_ret;exact⟨zli HR.out,(Below.refl _ _).alloc (Nat.le_refl _) _⟩
def scOk (k:Nat):List Sc→Bool
 | []=>true
 |s::t=>decide (-1≤s.2.2)&&decide (s.2.2<(k:Int))&&scOk (k+1) t
theorem zmi:∀(S:List Sc) (k:Nat),(S.zipIdx k).all (fun x=>decide (-1≤x.1.2.2)&&decide (x.1.2.2<(x.2:Int)))=scOk k S
 | [],_=>rfl
 |s::t,k=>by rw[List.zipIdx_cons,List.all_cons,zmi t (k+1)];rfl
theorem zdv (S:List Sc) (V:List Vr):zdu S V=(scOk 0 S&&!V.any (badD S.length)):=by
 unfold zdu;rw[zmi];congr 1
 rw[List.not_any_eq_all_not];congr 1
 funext v
 unfold badD;rw[Bool.eq_iff_iff];simp only[Bool.and_eq_true,decide_eq_true_iff,Bool.not_eq_true',Bool.or_eq_false_iff,decide_eq_false_iff_not];omega
theorem box1 {w W:World} {x:Value} {T:TypeId} (hb:Below (w.alloc (.cells #[x] T)).heap.size (w.alloc (.cells #[x] T)) W):W.cell? ⟨w.heap.size,0,none⟩=some x∧w.heap.size<W.heap.size:=by
 have h1:w.heap.size<(w.alloc (.cells #[x] T)).heap.size:=by simp
 have h2:=hb.size;refine⟨?_,by omega⟩;rw[hb.cell (p:=⟨w.heap.size,0,none⟩) h1];exact(zal.fresh w #[x] T).cell (j:=0) rfl
theorem zfw (v v2:Value) (S:List Sc) (V:List Vr) (w:World) (hs:SlR w v S.length (scs S)) (hv:SlR w v2 V.length (vrs V)) (hl:S.length≤1000000):
 Calls Tryz.prog 202 #[v,v2] w fun e w'=>e=.returned (.bool (zdu S V))∧Below w.heap.size w w':=by
 have HEQ:=lhd (zdv S V);obtain⟨a,cap,rfl,hc,hm⟩:=hs.shape;have HS:=lhd hs;have HV:=lhd hv;clear hs hv hc hm
 have HX:=lhd (fun W hW=>zcQ w.heap.size (badD S.length) v2 V W (HV.out.below (zel (o:=.cells #[.slice a S.length cap] 22) hW)) (fun x hx U hU=>zfx w.heap.size x a S.length cap U (by
  have h1:=box1 hW;exact(hU.cell (p:=⟨w.heap.size,0,none⟩) h1.2).trans h1.1)))
 go_enter Tryz.func202,Tryz.ntmps202;go_wp2_with fail;have HB0:=lhd (Below.refl (w.alloc (.cells #[.slice a S.length cap] 22)).heap.size (w.alloc (.cells #[.slice a S.length cap] 22)));go_loopw [9] (fun i wr=>∃k:Nat,k≤S.length∧i=.int .i64 k∧scOk k (S.drop k)=scOk 0 S∧Below (w.alloc (.cells #[.slice a S.length cap] 22)).heap.size (w.alloc (.cells #[.slice a S.length cap] 22)) wr) (fun i _=>S.length-(intOf i).toNat)
 case atStart=>exact⟨0,Nat.zero_le _,rfl,rfl,HB0.out⟩
 case round=>
  obtain⟨k,hk,rfl,hgo,hb⟩:=hrel;have HB:=lhd hb;have HGO:=lhd hgo;obtain⟨c0,hz⟩:=box1 hb;clear hgo hb;by_cases hlt:k<S.length
  ·obtain⟨b,o,rfl,hcell⟩:=(HS.out.below (zel HB.out)).scs hlt
   have HGO2:=lhd (show(decide (-1≤S[k].2.2)&&decide (S[k].2.2<(k:Int))&&scOk (k+1) (S.drop (k+1)))=scOk 0 S by
    rw[←HGO.out,List.drop_eq_getElem_cons hlt];rfl)
   generalize S[k]=x at hcell HGO2;obtain⟨nm,ty,pa⟩:=x;have d0:wr.cell? ⟨b,o+k*3,none⟩=some (.string (bsB nm)):=hcell 0 _ rfl;have d1:wr.cell? ⟨b,o+k*3+1,none⟩=some (.int .i64 ty):=hcell 1 _ rfl;have d2:wr.cell? ⟨b,o+k*3+2,none⟩=some (.int .i64 pa):=hcell 2 _ rfl;clear hcell;dsimp only at HGO2;by_cases h1:pa< -1
   ·have b1:decide (pa< -1)=true:=by simpa using h1
    have HR:=lhd (show false=zdu S V by
     rw[HEQ.out,←HGO2.out,show decide (-1≤pa)=false by simp;omega];rfl)
    clear h1;go_wp2_with fail;go_ret;exact⟨zli HR.out,zel (HB.out.alloc HB.out.size _)⟩
   ·have b1:decide (pa< -1)=false:=by simpa using h1
    by_cases h2:(k:Int)≤pa
    ·have b2:decide ((k:Int)≤pa)=true:=by simpa using h2
     have HR:=lhd (show false=zdu S V by
      rw[HEQ.out,←HGO2.out,show decide (pa<(k:Int))=false by simp;omega,Bool.and_false];rfl)
     clear h1 h2;go_wp2_with fail;go_ret;exact⟨zli HR.out,zel (HB.out.alloc HB.out.size _)⟩
    ·have b2:decide ((k:Int)≤pa)=false:=by simpa using h2
     have HGO3:=lhd (show scOk (k+1) (S.drop (k+1))=scOk 0 S by
      rw[←HGO2.out,show decide (-1≤pa)=true by simp;omega,show decide (pa<(k:Int))=true by simp;omega];rfl)
     clear h1 h2;go_wp2_with fail;go_roundw;case rel=>exact⟨k+1,by omega,by go_num,HGO3.out,HB.out.alloc HB.out.size _⟩
     case measure=>simp[intOf];omega
  ·obtain rfl:k=S.length:=by omega
   have HR:=lhd (show(!V.any (badD S.length))=zdu S V by
    rw[HEQ.out,←HGO.out,List.drop_length];rfl)
   generalize V.any (badD S.length)=r at HX HR;go_wp2_with fail;refine(HX.out _ HB.out).mono ?_;rintro e w1 ⟨rfl,hb1⟩;have HB1:=lhd (zem (zel HB.out) hb1);clear hb1;go_wp2_with fail;go_ret;exact⟨zli HR.out,HB1.out⟩
theorem znK (base g c a m b:Nat) (l P A B S:List Vr) (w:World) (hg:SO base g l.length c w l) (hl:l=P++(A++(B++S))) (hp:P.length=a) (hA:a+A.length=m) (hB:m+B.length=b) (h0:0<A.length) (h1:0<B.length) (hn:l.length≤1000):
 Calls Tryz.prog 288 #[.slice (some ⟨g,0,none⟩) l.length c,.int .i64 a,.int .i64 m,.int .i64 b,(.func (.func 166) #[] #[])] w fun e w'=>
  e=.returned (.tuple #[])∧SO base g l.length c w' (P++(B++(A++S)))∧Below base w w':=by
 have hlen:l.length=P.length+A.length+B.length+S.length:=by rw[hl];simp only[List.length_append];omega
 have hR:Rot m A.length B.length l (P++(B++(A++S))):=⟨P,A,B,S,hl,rfl,by omega,rfl,rfl⟩;have HT:=lhd (show(P++(B++(A++S))).length=l.length by rw[hlen];simp only[List.length_append];omega);have e1:IntKind.i64.wrap ((m:Int)-(a:Int))=(A.length:Int):=by rw[IntWalk.i64_in _ (by omega)];omega
 have e2:IntKind.i64.wrap ((b:Int)-(m:Int))=(B.length:Int):=by rw[IntWalk.i64_in _ (by omega)];omega
 have h2:m≤1000:=by omega
 have h3:B.length≤1000:=by omega
 have h4:A.length≤m:=by omega
 have HR0:=lhd hR;have H0:=lhd hg;generalize hN:l.length=n at*;generalize P++(B++(A++S))=t at*;generalize A.length=i0 at*;generalize B.length=j0 at*;clear hg hl hlen hR hp hA hB;go_enter Tryz.func288,Tryz.ntmps288;go_wp2_with fail;clear e1 e2;go_loopw [10,11] (fun vi vj wr=>∃(i j:Nat) (l2:List Vr),vi=.int .i64 i∧vj=.int .i64 j∧0<i∧0<j∧i≤m∧j≤1000∧Rot m i j l2 t∧SO base g n c wr l2∧Below base w wr) (fun vi vj _=>(intOf vi).toNat+(intOf vj).toNat)
 case atStart=>exact⟨i0,j0,l,rfl,rfl,h0,h1,h4,h3,HR0.out,H0.out,Below.refl _ _⟩
 case round=>
  obtain⟨i,j,l2,rfl,rfl,hi,hj,him,hj1,hr,hs,hb⟩:=hrel;have HB:=lhd hb;have hl2:=hs.len;clear hb;by_cases hij:i=j
  ·subst hij;obtain⟨X,A',B',Z,f1,f2,f3,f4,f5⟩:=hr.last;have hne:((i:Int) !=(i:Int))=false:=by simp
   have hw1:IntKind.i64.wrap ((m:Int)-(i:Int))=((m-i:Nat):Int):=by rw[IntWalk.i64_in _ (by omega)];omega
   have HS:=lhd (znN base g c (m-i) m i l2 X A' [] B' Z wr (by rw[hl2];exact hs) f1 f3 f4 (by omega) (by simp;omega) (by omega));rw[hl2,←f5]at HS;clear hr hs f1 f2 f3 f4 f5 hl2;go_wp2_with fail;refine HS.out.mono ?_;rintro e w1 ⟨rfl,hs1,hb1⟩;have H1:=lhd hs1;have HB1:=lhd (HB.out.trans hb1);clear hs1 hb1;go_wp2_with fail;go_end0
   exact⟨rfl,H1.out,HB1.out⟩
  ·have hne:((i:Int) !=(j:Int))=true:=by rw[bne_iff_ne];omega
   have hw1:IntKind.i64.wrap ((m:Int)-(i:Int))=((m-i:Nat):Int):=by rw[IntWalk.i64_in _ (by omega)];omega
   by_cases hlt:j<i
   ·obtain⟨X,A',Y,B',Z,f1,f2,f3,f4,f5,f6⟩:=hr.more hlt;have hd:decide ((j:Int)<(i:Int))=true:=by rw[decide_eq_true_iff];omega
    have hw2:IntKind.i64.wrap ((i:Int)-(j:Int))=((i-j:Nat):Int):=by rw[IntWalk.i64_in _ (by omega)];omega
    have HS:=lhd (znN base g c (m-i) m j l2 X A' Y B' Z wr (by rw[hl2];exact hs) f1 f3 f4 (by omega) (by omega) (by omega));rw[hl2]at HS;have HR:=lhd f6;clear hr hs f1 f2 f3 f4 f5 f6 hl2 hij;go_wp2_with fail;refine HS.out.mono ?_;rintro e w1 ⟨rfl,hs1,hb1⟩;have H1:=lhd hs1;have HB1:=lhd (HB.out.trans hb1);clear hs1 hb1;go_wp2_with fail;go_roundw;case rel=>exact⟨i-j,j,_,rfl,rfl,by omega,hj,by omega,hj1,HR.out,H1.out,HB1.out⟩
    case measure=>simp[intOf];omega
   ·have hlt2:i<j:=by omega
    obtain⟨X,A',Y,B',Z,f1,f2,f3,f4,f5,f6⟩:=hr.less hlt2;have hd:decide ((j:Int)<(i:Int))=false:=by rw[decide_eq_false_iff_not];omega
    have hw2:IntKind.i64.wrap ((j:Int)-(i:Int))=((j-i:Nat):Int):=by rw[IntWalk.i64_in _ (by omega)];omega
    have hw3:IntKind.i64.wrap ((m:Int)+(j:Int))=(m:Int)+(j:Int):=IntWalk.i64_in _ (by omega);have hw4:IntKind.i64.wrap ((m:Int)+(j:Int)-(i:Int))=(m:Int)+(j:Int)-(i:Int):=IntWalk.i64_in _ (by omega);have HS:=lhd (znN base g c (m-i) (m+j-i) i l2 X A' Y B' Z wr (by rw[hl2];exact hs) f1 f3 f4 (by omega) (by omega) (by omega));rw[hl2,show((m+j-i:Nat):Int)=(m:Int)+(j:Int)-(i:Int)by omega]at HS;have HR:=lhd f6;clear hr hs f1 f2 f3 f4 f5 f6 hl2 hij;go_wp2_with fail;refine HS.out.mono ?_;rintro e w1 ⟨rfl,hs1,hb1⟩;have H1:=lhd hs1;have HB1:=lhd (HB.out.trans hb1);clear hs1 hb1;go_wp2_with fail;go_roundw;case rel=>exact⟨i,j-i,_,rfl,rfl,hi,by omega,him,by omega,HR.out,H1.out,HB1.out⟩
    case measure=>simp[intOf];omega
theorem zhr {i j h:Nat} (hi:i≤1000000) (hj:j≤1000000) (hh:(i+j)/2=h):wrap64 ((i:Int)+(j:Int))=(i:Int)+(j:Int)∧IntKind.u64.wrap ((i:Int)+(j:Int))=(i:Int)+(j:Int)∧((i:Int)+(j:Int))/2=(h:Int)∧wrap64 (h:Int)=(h:Int)∧IntKind.i64.wrap ((h:Int)+1)=(h:Int)+1:=
 ⟨IntWalk.wrap64_in _ (by omega),IntWalk.u64_in _ (by omega),by omega,IntWalk.wrap64_in _ (by omega),IntWalk.i64_in _ (by omega)⟩
theorem znP (base g c a b:Nat) (l P B S:List Vr) (x:Vr) (w:World) (hg:SO base g l.length c w l) (hl:l=P++(x::(B++S))) (hp:P.length=a) (hB:a+1+B.length=b) (hs:Srt vk B) (hn:l.length≤1000):
 Calls Tryz.prog 267 #[.slice (some ⟨g,0,none⟩) l.length c,.int .i64 a,.int .i64 ((a:Int)+1),.int .i64 b,(.func (.func 166) #[] #[])] w fun e w'=>
  e=.returned (.tuple #[])∧SO base g l.length c w' (P++(mrg vk [x] B++S))∧Below base w w':=by
 have H0:=lhd (show SO base g l.length c w (P++(x::(B++S)))by rw[←hl];exact hg);have hlen:l.length=a+1+B.length+S.length:=by rw[hl,←hp];simp only[List.length_append,List.length_cons];omega
 have HL:=lhd (And.intro hp (And.intro hB (And.intro hlen hn)));have HSR:=lhd hs;have hw0:IntKind.i64.wrap ((a:Int)+1-(a:Int))=1:=by rw[IntWalk.i64_in _ (by omega)];omega
 generalize l.length=n at*;clear hg hl hp hB hs hlen hn;go_enter Tryz.func267,Tryz.ntmps267;go_wp2_with fail;clear hw0;go_loopw [10,11] (fun vi vj wr=>∃i j:Nat,vi=.int .i64 i∧vj=.int .i64 j∧a+1≤i∧i≤j∧j≤b∧(∀t (h:t<B.length),t+(a+1)<i→vk B[t]<vk x)∧(∀t (h:t<B.length),j≤t+(a+1)→vk x≤vk B[t])∧SO base g n c wr (P++(x::(B++S)))∧Below base w wr) (fun vi vj _=>(intOf vj).toNat-(intOf vi).toNat)
 case atStart=>
  have h9:=HL.out;exact⟨a+1,b,by simp,rfl,Nat.le_refl _,by omega,Nat.le_refl _,fun t h h2=>by omega,fun t h h2=>by omega,H0.out,Below.refl _ _⟩
 case round=>
  obtain⟨i,j,rfl,rfl,h1,h2,h3,hlt1,hge1,hs,hbw⟩:=hrel;have HB:=lhd hbw;have HS:=lhd hs;have H1:=lhd hlt1;have H2:=lhd hge1;clear hbw hs hlt1 hge1;by_cases hij:i<j
  ·skip
   have hbn:=HL.out.2.1;have hnn:=HL.out.2.2;obtain⟨h,hh⟩:∃h,(i+j)/2=h:=⟨_,rfl⟩;have MID:=lhd (zhr (i:=i) (j:=j) (h:=h) (by omega) (by omega) hh);have hhi:i≤h∧h<j:=by omega
   have hlt:h-(a+1)<B.length:=by omega
   have hsB:B=B.take (h-(a+1))++B[h-(a+1)]::B.drop (h-(a+1)+1):=by rw[←List.drop_eq_getElem_cons hlt,List.take_append_drop]
   have HCM:=lhd (fun(hc:vk B[h-(a+1)]<vk x) t (ht:t<B.length) (h2:t+(a+1)<h+1)=>(show vk B[t]<vk x from Int.lt_of_le_of_lt (znD HSR.out (show t≤h-(a+1)by omega) hlt) hc));have HCN:=lhd (fun(hc:¬vk B[h-(a+1)]<vk x) t (ht:t<B.length) (h2:h≤t+(a+1))=>(show vk x≤vk B[t]from Int.le_trans (Int.not_lt.1 hc) (znD HSR.out (show h-(a+1)≤t by omega) ht)))
   have e1:P++(x::(B++S))=(P++(x::B.take (h-(a+1))))++B[h-(a+1)]::(B.drop (h-(a+1)+1)++S):=by
    conv=>lhs;rw[hsB]
    simp only[List.append_assoc,List.cons_append]
   have hz:=(HS.out).at;rw[HL.out.1]at hz;have hz2:=(show SO base g n c wr ((P++(x::B.take (h-(a+1))))++B[h-(a+1)]::(B.drop (h-(a+1)+1)++S))from e1▸HS.out).at;rw[show(P++(x::B.take (h-(a+1)))).length=h by rw[List.length_append,List.length_cons,List.length_take,HL.out.1];omega]at hz2;have n1:(0:Int)≤(h:Int):=by omega
   have n2:(h:Int)<(n:Int):=by omega
   have n3:(0:Int)≤(a:Int):=by omega
   have n4:(a:Int)<(n:Int):=by omega
   have HLO:=lhd (show base≤wr.drew.heap.size from Nat.le_of_lt (Nat.lt_of_le_of_lt HS.out.lo.1 HS.out.lo.2));have HN:=lhd (show a+1≤i∧i≤h∧h<j∧j≤b from⟨h1,hhi.1,hhi.2,h3⟩);generalize B[h-(a+1)]=z at hz2 HCM HCN;obtain⟨x0,x1,x2,x3,x4,x5,x6⟩:=hz;obtain⟨z0,z1,z2,z3,z4,z5,z6⟩:=hz2;clear hbn hnn hsB e1 hlt hhi hh h1 h2 h3;by_cases hc:vk z<vk x
   ·have HC:=lhd (show decide (vk z<vk x)=true from decide_eq_true hc);have HM:=lhd (HCM.out hc);obtain⟨m1,m2,m3,m4,m5⟩:=MID.out;clear hc;go_wp2_with fail;clear m1 m2 m3 m4
    go_region_held3 (fun w'=>w'.cell? ⟨g,h*7,none⟩=some (.string (bsB z.nm))∧w'.cell? ⟨g,h*7+1,none⟩=some (.int .i64 z.ty)∧w'.cell? ⟨g,h*7+2,none⟩=some (.int .i64 z.sc)∧w'.cell? ⟨g,h*7+3,none⟩=some (.int .i64 z.sg)∧w'.cell? ⟨g,h*7+4,none⟩=some (.bool z.rg)∧w'.cell? ⟨g,h*7+5,none⟩=some (.int .i64 z.mb)∧w'.cell? ⟨g,h*7+6,none⟩=some (.int .i64 z.lb)∧w'.cell? ⟨g,a*7,none⟩=some (.string (bsB x.nm))∧w'.cell? ⟨g,a*7+1,none⟩=some (.int .i64 x.ty)∧w'.cell? ⟨g,a*7+2,none⟩=some (.int .i64 x.sc)∧w'.cell? ⟨g,a*7+3,none⟩=some (.int .i64 x.sg)∧w'.cell? ⟨g,a*7+4,none⟩=some (.bool x.rg)∧w'.cell? ⟨g,a*7+5,none⟩=some (.int .i64 x.mb)∧w'.cell? ⟨g,a*7+6,none⟩=some (.int .i64 x.lb))
     (first|exact⟨z0,z1,z2,z3,z4,z5,z6,x0,x1,x2,x3,x4,x5,x6⟩|exact⟨u0,u1,u2,u3,u4,u5,u6,v0,v1,v2,v3,v4,v5,v6⟩|go_keep)
     (first
       |(go_at_call 166;refine(znF z x _).mono ?_;rintro e w2 ⟨r,rfl,hz,hb2⟩;rw[HC.out]at hz;have hs2:=SO.after HS.out.drew hb2;have HS2:=lhd hs2;have HB2:=lhd (HB.out.drew.trans (hb2.mono HLO.out));have hlt9:=hs2.lo.2;obtain⟨v0,v1,v2,v3,v4,v5,v6⟩:=(⟨(hb2.cell (p:=⟨g,a*7,none⟩) (zbT (show wr.drew.cell? _=some _ from x0))).trans x0,(hb2.cell (p:=⟨g,a*7+1,none⟩) (zbT (show wr.drew.cell? _=some _ from x1))).trans x1,(hb2.cell (p:=⟨g,a*7+2,none⟩) (zbT (show wr.drew.cell? _=some _ from x2))).trans x2,(hb2.cell (p:=⟨g,a*7+3,none⟩) (zbT (show wr.drew.cell? _=some _ from x3))).trans x3,(hb2.cell (p:=⟨g,a*7+4,none⟩) (zbT (show wr.drew.cell? _=some _ from x4))).trans x4,(hb2.cell (p:=⟨g,a*7+5,none⟩) (zbT (show wr.drew.cell? _=some _ from x5))).trans x5,(hb2.cell (p:=⟨g,a*7+6,none⟩) (zbT (show wr.drew.cell? _=some _ from x6))).trans x6⟩:_∧_∧_∧_∧_∧_∧_);obtain⟨u0,u1,u2,u3,u4,u5,u6⟩:=(⟨(hb2.cell (p:=⟨g,h*7,none⟩) (zbT (show wr.drew.cell? _=some _ from z0))).trans z0,(hb2.cell (p:=⟨g,h*7+1,none⟩) (zbT (show wr.drew.cell? _=some _ from z1))).trans z1,(hb2.cell (p:=⟨g,h*7+2,none⟩) (zbT (show wr.drew.cell? _=some _ from z2))).trans z2,(hb2.cell (p:=⟨g,h*7+3,none⟩) (zbT (show wr.drew.cell? _=some _ from z3))).trans z3,(hb2.cell (p:=⟨g,h*7+4,none⟩) (zbT (show wr.drew.cell? _=some _ from z4))).trans z4,(hb2.cell (p:=⟨g,h*7+5,none⟩) (zbT (show wr.drew.cell? _=some _ from z5))).trans z5,(hb2.cell (p:=⟨g,h*7+6,none⟩) (zbT (show wr.drew.cell? _=some _ from z6))).trans z6⟩:_∧_∧_∧_∧_∧_∧_);clear hb2 hs2 hlt9)
       |fail "no arm")
    go_wp2_with fail;clear m5;go_roundw
    case rel=>
     have h9:=HN.out;exact⟨h+1,j,by simp,rfl,by omega,by omega,by omega,HM.out,H2.out,HS2.out,HB2.out⟩
    case measure=>
     have h9:=HN.out;simp[intOf];omega
   ·have HC:=lhd (show decide (vk z<vk x)=false from decide_eq_false hc);have HM:=lhd (HCN.out hc);obtain⟨m1,m2,m3,m4,m5⟩:=MID.out;clear hc;go_wp2_with fail;clear m1 m2 m3 m4
    go_region_held3 (fun w'=>w'.cell? ⟨g,h*7,none⟩=some (.string (bsB z.nm))∧w'.cell? ⟨g,h*7+1,none⟩=some (.int .i64 z.ty)∧w'.cell? ⟨g,h*7+2,none⟩=some (.int .i64 z.sc)∧w'.cell? ⟨g,h*7+3,none⟩=some (.int .i64 z.sg)∧w'.cell? ⟨g,h*7+4,none⟩=some (.bool z.rg)∧w'.cell? ⟨g,h*7+5,none⟩=some (.int .i64 z.mb)∧w'.cell? ⟨g,h*7+6,none⟩=some (.int .i64 z.lb)∧w'.cell? ⟨g,a*7,none⟩=some (.string (bsB x.nm))∧w'.cell? ⟨g,a*7+1,none⟩=some (.int .i64 x.ty)∧w'.cell? ⟨g,a*7+2,none⟩=some (.int .i64 x.sc)∧w'.cell? ⟨g,a*7+3,none⟩=some (.int .i64 x.sg)∧w'.cell? ⟨g,a*7+4,none⟩=some (.bool x.rg)∧w'.cell? ⟨g,a*7+5,none⟩=some (.int .i64 x.mb)∧w'.cell? ⟨g,a*7+6,none⟩=some (.int .i64 x.lb))
     (first|exact⟨z0,z1,z2,z3,z4,z5,z6,x0,x1,x2,x3,x4,x5,x6⟩|exact⟨u0,u1,u2,u3,u4,u5,u6,v0,v1,v2,v3,v4,v5,v6⟩|go_keep)
     (first
       |(go_at_call 166;refine(znF z x _).mono ?_;rintro e w2 ⟨r,rfl,hz,hb2⟩;rw[HC.out]at hz;have hs2:=SO.after HS.out.drew hb2;have HS2:=lhd hs2;have HB2:=lhd (HB.out.drew.trans (hb2.mono HLO.out));have hlt9:=hs2.lo.2;obtain⟨v0,v1,v2,v3,v4,v5,v6⟩:=(⟨(hb2.cell (p:=⟨g,a*7,none⟩) (zbT (show wr.drew.cell? _=some _ from x0))).trans x0,(hb2.cell (p:=⟨g,a*7+1,none⟩) (zbT (show wr.drew.cell? _=some _ from x1))).trans x1,(hb2.cell (p:=⟨g,a*7+2,none⟩) (zbT (show wr.drew.cell? _=some _ from x2))).trans x2,(hb2.cell (p:=⟨g,a*7+3,none⟩) (zbT (show wr.drew.cell? _=some _ from x3))).trans x3,(hb2.cell (p:=⟨g,a*7+4,none⟩) (zbT (show wr.drew.cell? _=some _ from x4))).trans x4,(hb2.cell (p:=⟨g,a*7+5,none⟩) (zbT (show wr.drew.cell? _=some _ from x5))).trans x5,(hb2.cell (p:=⟨g,a*7+6,none⟩) (zbT (show wr.drew.cell? _=some _ from x6))).trans x6⟩:_∧_∧_∧_∧_∧_∧_);obtain⟨u0,u1,u2,u3,u4,u5,u6⟩:=(⟨(hb2.cell (p:=⟨g,h*7,none⟩) (zbT (show wr.drew.cell? _=some _ from z0))).trans z0,(hb2.cell (p:=⟨g,h*7+1,none⟩) (zbT (show wr.drew.cell? _=some _ from z1))).trans z1,(hb2.cell (p:=⟨g,h*7+2,none⟩) (zbT (show wr.drew.cell? _=some _ from z2))).trans z2,(hb2.cell (p:=⟨g,h*7+3,none⟩) (zbT (show wr.drew.cell? _=some _ from z3))).trans z3,(hb2.cell (p:=⟨g,h*7+4,none⟩) (zbT (show wr.drew.cell? _=some _ from z4))).trans z4,(hb2.cell (p:=⟨g,h*7+5,none⟩) (zbT (show wr.drew.cell? _=some _ from z5))).trans z5,(hb2.cell (p:=⟨g,h*7+6,none⟩) (zbT (show wr.drew.cell? _=some _ from z6))).trans z6⟩:_∧_∧_∧_∧_∧_∧_);clear hb2 hs2 hlt9)
       |fail "no arm")
    go_wp2_with fail;clear m5;go_roundw
    case rel=>
     have h9:=HN.out;exact⟨i,h,rfl,rfl,by omega,by omega,by omega,H1.out,HM.out,HS2.out,HB2.out⟩
    case measure=>
     have h9:=HN.out;simp[intOf];omega
  ·obtain rfl:i=j:=by omega
   obtain⟨d,hd⟩:∃d,i=a+1+d:=⟨i-(a+1),by omega⟩;have hdB:d≤B.length:=by have:=HL.out.2.1;omega
   have HF:=lhd (show mrg vk [x] B=B.take d++x::B.drop d by
    conv=>lhs;rw[←List.take_append_drop d B]
    refine zhD (fun y hy=>?_) (fun y hy=>?_)
    ·obtain⟨t,ht,rfl⟩:=List.mem_iff_getElem.1 hy;rw[List.length_take]at ht;rw[List.getElem_take];exact H1.out t (by omega) (by omega)
    ·obtain⟨t,ht,rfl⟩:=List.mem_iff_getElem.1 hy;rw[List.length_drop]at ht;rw[List.getElem_drop];exact H2.out (d+t) (by omega) (by omega))
   have hwd:IntKind.i64.wrap ((i:Int)-1)=(a:Int)+(d:Int):=by
    have:=HL.out;rw[IntWalk.i64_in _ (by omega)];omega
   have HD:=lhd (And.intro hdB hd);clear h1 h2 h3 hij;go_wp2_with fail;clear hd hdB;go_loopw [13] (fun vk2 wj=>∃k t:Nat,vk2=.int .i64 (k:Int)∧k=a+t∧t≤d∧SO base g n c wj (P++(B.take t++x::(B.drop t++S)))∧Below base w wj) (fun vk2 _=>a+d-(intOf vk2).toNat)
   case atStart=>exact⟨a,0,by simp,rfl,Nat.zero_le _,by simpa using HS.out,HB.out⟩
   case round=>
    obtain⟨k,t,rfl,hk,htd,hs,hbj⟩:=hrel;have HBJ:=lhd hbj;clear hbj;by_cases hlt:t<d
    ·have hd1:decide ((k:Int)<(a:Int)+(d:Int))=true:=by rw[decide_eq_true_iff];omega
     have htB:t<B.length:=by have:=HD.out.1;omega
     have hL:=HL.out;rw[List.drop_eq_getElem_cons htB]at hs;have HN:=lhd (show B.take (t+1)=B.take t++ [B[t]]from List.take_succ_eq_append_getElem htB);generalize B[t]=y at hs HN;rw[show P++(B.take t++x::((y::B.drop (t+1))++S))=(P++B.take t)++x::([]++y::(B.drop (t+1)++S))by simp]at hs;have hPA:(P++B.take t).length=k:=by rw[List.length_append,List.length_take];omega
     have hz:=hs.at;have hs':=hs;rw[show(P++B.take t)++x::([]++y::(B.drop (t+1)++S))=(P++(B.take t++ [x]))++y::(B.drop (t+1)++S)by simp]at hs';have hz':=hs'.at;rw[show(P++(B.take t++ [x])).length=k+1 by simp only[List.length_append,List.length_singleton]at hPA⊢;omega]at hz';rw[hPA]at hz;obtain⟨x0,x1,x2,x3,x4,x5,x6⟩:=hz;obtain⟨y0,y1,y2,y3,y4,y5,y6⟩:=hz';have HSW:=lhd (hs.swap (p:=k) (q:=k+1) hPA (by rw[hPA];rfl));have hfz:=zjz hs;have n1:(0:Int)≤(k:Int):=by omega
     have n2:(k:Int)<(n:Int):=by omega
     have n3:(0:Int)≤(k:Int)+1:=by omega
     have n4:(k:Int)+1<(n:Int):=by omega
     have n5:((k:Int)+1).toNat=k+1:=by omega
     have hab:¬k+1=k:=by omega
     have hba:¬k=k+1:=by omega
     have HK:=lhd (And.intro hk (And.intro htd hlt));have m1:IntKind.i64.wrap ((k:Int)+1)=(k:Int)+1:=IntWalk.i64_in _ (by omega);clear hs hs' hPA hL htB hk htd hlt;go_upto_region 11 with fail;go_region
     clear x0 x1 x2 x3 x4 x5 x6 y0 y1 y2 y3 y4 y5 y6 hfz hab hba n1 n2 n3 n4 n5;go_wp2_with fail;clear m1;go_roundw
     case rel=>
      have h9:=HK.out;refine⟨k+1,t+1,by simp,by omega,by omega,?_,(HBJ.out.trans HSW.out.2).drew⟩;have h8:=HSW.out.1.drew;rw[show(P++B.take t)++y::([]++x::(B.drop (t+1)++S))=P++((B.take t++ [y])++x::(B.drop (t+1)++S))by simp,←HN.out]at h8;exact h8
     case measure=>
      have h9:=HK.out;simp[intOf];omega
    ·have hd1:decide ((k:Int)<(a:Int)+(d:Int))=false:=by rw[decide_eq_false_iff_not];omega
     obtain rfl:t=d:=by omega
     have HFF:=lhd (show SO base g n c wr (P++(mrg vk [x] B++S))by rw[HF.out];simpa using hs);clear hs;go_wp2_with fail;refine bodyPost_ret (v:=.tuple #[]) (by simp[results,Tryz.results267,go_sem]) rfl ?_;exact⟨rfl,HFF.out,HBJ.out⟩
end Go.Proofs.YtbiadennhnokhaaGreatDoor
