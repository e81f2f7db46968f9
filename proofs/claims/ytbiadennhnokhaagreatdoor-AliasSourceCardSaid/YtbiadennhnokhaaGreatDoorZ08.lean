import Derived.Test.YtbiadennhnokhaaGreatDoorZ00
import Derived.Test.YtbiadennhnokhaaGreatDoorZ06
set_option maxRecDepth 100000
set_option maxHeartbeats 16000000
namespace Go.Proofs.YtbiadennhnokhaaGreatDoor
open Go.RowKit Go.Shelf
attribute [local go_sem] Oper.semAt_some
set_option linter.unusedSimpArgs false
def strV (s:Bs):Value:=.string (bsB s)
def strs (l:List Bs):List Value:=l.map strV
theorem zot:(Tryz.prog.info? 9).map (fun i=>(i.zero,i.size,i.bytes))=some (some (.string ⟨#[]⟩),1,16):=by kernel_rfl
theorem zkn {W V:World} {B B' e size n:Nat} {v:Value} {xs:List Value} {T:TypeId} (h:W.ownsRow B e size v n xs) (ht:TurnI B' T W V) (hne:e≠T):V.ownsRow B e size v n xs:=by
 obtain⟨h1,h2⟩:=h;refine⟨h1,?_⟩;rcases h2 with h2|⟨g,cap,cur,e0,hb,hg,hr⟩
 ·exact .inl h2
 ·exact .inr ⟨g,cap,cur,e0,hb,ht.cells _ _ _ _ hne hg,hr⟩
theorem zkj {W V:World} {B e size n:Nat} {v:Value} {xs:List Value} (h:W.ownsRow B e size v n xs) (ht:Same0 W V):V.ownsRow B e size v n xs:=by
 obtain⟨h1,h2⟩:=h;refine⟨h1,?_⟩;rcases h2 with h2|⟨g,cap,cur,e0,hb,hg,hr⟩
 ·exact .inl h2
 ·exact .inr ⟨g,cap,cur,e0,hb,ht.cells _ _ _ _ hg,hr⟩
theorem zbK {B:Nat} {w W V:World} {T:TypeId} (h:Below B w W) (ht:TurnI B T W V):Below B w V:=
 ⟨ht.os.trans h.os,ht.tape.trans h.tape,ht.output.trans h.output,Nat.le_trans h.size ht.size,fun b hb=>(ht.low b hb).trans (h.block b hb)⟩
structure PtI (w:World) (v:Value) (nms:List Bs) (vo:Value) (W:World):Prop where
 bs:W.heap[w.heap.size]? =some (.cells #[v] 22 (0,0))
 bo:W.heap[w.heap.size+1]? =some (.cells #[vo] 171 (0,0))
 o:W.ownsRow w.heap.size 9 1 vo nms.length (strs nms)
 b:Below w.heap.size w W
theorem PtI.turn {w W V:World} {v vo:Value} {nms:List Bs} (h:PtI w v nms vo W) (ht:TurnI w.heap.size 3 W V):PtI w v nms vo V:=
 ⟨ht.cells _ _ _ _ (by decide) h.bs,ht.cells _ _ _ _ (by decide) h.bo,zkn h.o ht (by decide),zbK h.b ht⟩
theorem PtI.same {w W V:World} {v vo:Value} {nms:List Bs} (h:PtI w v nms vo W) (hb:Below W.heap.size W V):PtI w v nms vo V:=
 ⟨(Same0.of_below hb).cells _ _ _ _ h.bs,(Same0.of_below hb).cells _ _ _ _ h.bo,zkj h.o (Same0.of_below hb),h.b.trans (hb.mono h.b.size)⟩
def nmS (S:List Sc) (j:Nat):Bs:=(S.getD j ([],0,0)).1
theorem PtI.add {w W W':World} {v vo v':Value} {nms:List Bs} {nm:Bs} (h:PtI w v nms vo W) (ho:W'.ownsRow w.heap.size 9 1 v' (nms.length+1) (strs nms++ [strV nm])) (hg:W.grownBy W' vo.ownBlock):
 PtI w v (nms++ [nm]) v' (W'.setCell ⟨w.heap.size+1,0,none⟩ v')∧W'.cell? ⟨w.heap.size,0,none⟩=some v∧W'.frozen? ⟨w.heap.size+1,0,none⟩=false∧W'.cell? ⟨w.heap.size+1,0,none⟩=some vo∧
  KpU w.heap.size 9 171 W (W'.setCell ⟨w.heap.size+1,0,none⟩ v')∧W.heap.size≤(W'.setCell ⟨w.heap.size+1,0,none⟩ v').heap.size∧KeepsOthers W (W'.setCell ⟨w.heap.size+1,0,none⟩ v'):=by
 have hne:∀(i:Nat) (D:Array Value) (T:TypeId) (fr:Nat×Nat),W.heap[i]? =some (.cells D T fr)→T≠9→W'.heap[i]? =some (.cells D T fr):=by
  intro i D T fr hi hT
  rw[hg.block i (Array.getElem?_eq_some_iff.1 hi).1 (fun q=>by
   rcases h.o.2 with⟨rfl,-⟩|⟨g',cap',cur,rfl,-,hgb,-⟩
   ·cases q
   ·injection q with q;subst q;rw[hgb]at hi;injection hi with hi;injection hi with _ h5 _;exact hT h5.symm)]
  exact hi
 have h1:=hne _ _ _ _ h.bs (by decide);have h2:=hne _ _ _ _ h.bo (by decide);obtain⟨c1,f1⟩:=zjK h1;obtain⟨c2,f2⟩:=zjK h2;have hb:Below w.heap.size w W':=h.b.grown hg (h.b.size) (fun k hk=>(h.o.lt _ hk).1);refine⟨⟨zfL (by omega) h1,zfM h2,?_,hb.setCell (p:=⟨w.heap.size+1,0,none⟩) (by show w.heap.size≤w.heap.size+1;omega) _⟩,c1,f2,c2,?_,?_,?_⟩
 ·rw[List.length_append,List.length_singleton];have e:strs (nms++ [nm])=strs nms++ [strV nm]:=by simp[strs]
  rw[e];refine ownsRow_setCell_other (a:=⟨w.heap.size+1,0,none⟩) ho (fun q=>?_) _;rcases ho.2 with⟨rfl,-⟩|⟨g',cap',cur,rfl,-,hgb,-⟩
  ·cases q
  ·injection q with q;subst q;rw[hgb]at h2;injection h2 with h2;injection h2 with _ h5 _;exact absurd h5 (by decide)
 ·intro b C T fr hT hb';rcases hT with hT|⟨hT1,hT2⟩
  ·have e1:W'.heap[b]? =W.heap[b]? :=hg.block b (Array.getElem?_eq_some_iff.1 hb').1 (fun q=>by have:=(h.o.lt _ q.symm).1;omega);exact zfL (by omega) (e1.trans hb')
  ·have h3:=hne _ _ _ _ hb' hT1;refine zfL ?_ h3;rintro rfl;rw[h2]at h3;injection h3 with h3;injection h3 with _ h5 _;exact hT2 h5.symm
 ·have:=hg.size;simpa using this
 ·refine(KeepsOthers.of_grownBy hg fun j o ej hj=>?_).trans (KeepsOthers.setCell _ _ _);rcases h.o.2 with⟨rfl,_⟩|⟨g,cap,cur,rfl,_,hgb,_⟩
  ·simp[Value.ownBlock]at ej
  ·obtain rfl:g=j:=by simpa[Value.ownBlock] using ej
   rw[hgb]at hj;cases hj;rfl
def zau (w:World) (v:Value) (S:List Sc) (L:List Nat) (k:Nat) (W:World):Prop:=∃vo,PtI w v ((L.take k).map (nmS S)) vo W
open Go.RowKit
theorem za7:∀(s:Bs),Lib.containsAny s [92,46,91,93]=s.any fun d=>d==92||d==46||d==91||d==93
 | []=>rfl
 |b::l=>by
  have ih:=za7 l;unfold Lib.containsAny at ih⊢;rw[List.any_cons,←ih,Lib.indexAny];have hge:=Lib.indexAny_ge [92,46,91,93] l
  have hb: [92,46,91,93].contains b=(b==92||b==46||b==91||b==93):=by
   simp only[List.contains_cons,List.contains_nil,Bool.or_false,Bool.or_assoc]
  rw[hb];cases h:(b==92||b==46||b==91||b==93)
  ·rw[if_neg (by simp),Bool.false_or];by_cases h1:Lib.indexAny l [92,46,91,93]= -1
   ·rw[if_pos (by simp[h1]),h1]
   ·rw[if_neg (by simp[h1])];rw[Bool.eq_iff_iff,decide_eq_true_iff,decide_eq_true_iff];omega
  ·rw[if_pos rfl,Bool.true_or];rfl
theorem ziK (s:ByteArray) (w:World) (hs:s.data.toList.all prn=true) (hm:s.size≤1000):
 Calls Tryz.prog 263 #[.string s,.string ⟨#[92,46,91,93]⟩] w fun e w'=>e=.returned (.bool (s.data.toList.any fun d=>d==92||d==46||d==91||d==93))∧Below w.heap.size w w':=by
 refine(Tryz.strings_ContainsAny_laid s ⟨#[92,46,91,93]⟩ w (by omega) (by decide) ?_ ?_).mono ?_
 ·intro j b hb;have:=List.all_eq_true.1 hs b (List.mem_of_getElem? hb);unfold prn at this;simp at this;omega
 ·intro j b hb;have:b∈([92,46,91,93]:List UInt8):=List.mem_of_getElem? hb;revert this
  simp only[List.mem_cons,List.mem_nil_iff,or_false];rintro(rfl|rfl|rfl|rfl)<;>decide
 ·rintro e w' ⟨rfl,hb⟩;exact⟨by rw[←za7],hb⟩
theorem zpg {s:ByteArray} (h:s.size≠0):s.toList.isEmpty=false:=by
 rw[ByteArray.toList_eq];have h1:s.data.toList.length=s.size:=by simp
 cases hh:s.data.toList with
 |nil=>rw[hh]at h1;simp at h1;omega
 |cons _ _=>rfl
theorem zpE (c:UInt8) (n:Nat) (hn:n<256):((c.toNat:Int)==(n:Int))=decide (c=UInt8.ofNat n):=by
 rw[Bool.eq_iff_iff,beq_iff_eq,decide_eq_true_iff];constructor
 ·intro h;have:c.toNat=n:=by omega
  rw[←this,UInt8.ofNat_toNat]
 ·rintro rfl;simp;omega
theorem ziI (s:ByteArray) (w:World) (hm:s.size≤100000):Calls Tryz.prog 205 #[.string s] w fun e w'=>e=.returned (.bool (ziu s.data.toList))∧Below w.heap.size w w':=by
 have HP:=lhd (ziM s w (by omega));obtain⟨R,hR⟩:∃R,R=ziu s.data.toList:=⟨_,rfl⟩;rw[←hR];have hls:s.data.toList.length=s.size:=by simp
 by_cases h0:s.size=0
 ·obtain rfl:s=⟨#[]⟩:=by
   have:s.data=#[]:=Array.eq_empty_of_size_eq_zero h0;cases s;simp_all
  have HR:=lhd (show R=false by rw[hR];rfl);have hb1:(⟨#[]⟩:ByteArray).toList.isEmpty=true:=by rw[ByteArray.toList_eq];rfl
  clear hR hls h0 hm HP;go_enter Tryz.func205,Tryz.ntmps205;go_wp2_with fail;go_ret;exact⟨zlE HR.out.symm,Below.refl _ _⟩
 have hb1:=zpg h0;by_cases h32:32<s.size
 ·have HR:=lhd (show R=false by
   rw[hR];unfold ziu;rw[decide_eq_false (show ¬s.data.toList.length≤32 by omega)];simp)
  have hb2:decide ((32:Int)<(s.size:Int))=true:=by rw[decide_eq_true_iff];omega
  clear hR hls h0 h32 HP;go_enter Tryz.func205,Tryz.ntmps205;go_wp2_with fail;go_ret;exact⟨zlE HR.out.symm,Below.refl _ _⟩
 have hb2:decide ((32:Int)<(s.size:Int))=false:=by rw[decide_eq_false_iff_not];omega
 cases hp:s.data.toList.all prn
 ·have HR:=lhd (show R=false by
   rw[hR];unfold ziu;rw[hp];simp)
  rw[hp]at HP;clear hR hls h0 h32 hp;go_enter Tryz.func205,Tryz.ntmps205;go_wp2_with fail;refine HP.out.mono ?_;rintro e w1 ⟨rfl,rfl⟩;go_wp2_with fail;go_ret;exact⟨zlE HR.out.symm,Below.refl _ _⟩
 rw[hp]at HP
 obtain⟨c,t,hct⟩:∃c t,s.data.toList=c::t:=by
  cases hh:s.data.toList with
  |nil=>rw[hh]at hls;simp at hls;omega
  |cons c t=>exact⟨c,t,rfl⟩
 have hR2:R=if c=92 then decide (2≤s.size)else decide (c≠36)&&!s.data.toList.any fun d=>d==92||d==46||d==91||d==93:=by
  rw[hR];unfold ziu;rw[hp,decide_eq_true (show s.data.toList≠ []by rw[hct];simp),decide_eq_true (show s.data.toList.length≤32 by omega)];rw[hct];have hl2:(c::t).length=s.size:=by rw[←hct];exact hls
  rw[hl2];simp only[Bool.true_and]
 have hcix:∀h:0<s.size,s[0]'h=c:=fun h=>by
  have:s[0]=s.data.toList[0]'(by simpa using h):=by simp;rfl
  rw[this];simp[hct]
 have h00:0<s.size:=by omega
 have HA:=lhd (fun W=>ziK s W hp (by omega));have e92:=zpE c 92 (by decide);have e36:=zpE c 36 (by decide);clear hR hct;by_cases h92:c=92
 ·have b3:((c.toNat:Int)==92)=true:=by rw[show(92:Int)=((92:Nat):Int)from rfl,e92];simp[h92]
  have HR:=lhd (show R=decide (2≤s.size)by rw[hR2,if_pos h92]);clear hR2 hls h0 h32 hp e92 e36 HA h92;by_cases h2:2≤s.size
  ·have b4:decide ((2:Int)≤(s.size:Int))=true:=by rw[decide_eq_true_iff];omega
   have HR3:=lhd (show R=true by rw[HR.out,decide_eq_true h2]);clear h2;go_enter Tryz.func205,Tryz.ntmps205;go_wp2_with fail;refine HP.out.mono ?_;rintro e w1 ⟨rfl,rfl⟩;go_wp2_with fail;go_ret;exact⟨zlE HR3.out.symm,Below.refl _ _⟩
  ·have b4:decide ((2:Int)≤(s.size:Int))=false:=by rw[decide_eq_false_iff_not];omega
   have HR3:=lhd (show R=false by rw[HR.out,decide_eq_false h2]);clear h2;go_enter Tryz.func205,Tryz.ntmps205;go_wp2_with fail;refine HP.out.mono ?_;rintro e w1 ⟨rfl,rfl⟩;go_wp2_with fail;go_ret;exact⟨zlE HR3.out.symm,Below.refl _ _⟩
 ·have b3:((c.toNat:Int)==92)=false:=by rw[show(92:Int)=((92:Nat):Int)from rfl,e92];simpa using h92
  rw[if_neg h92]at hR2;by_cases h36:c=36
  ·have b4:((c.toNat:Int)==36)=true:=by rw[show(36:Int)=((36:Nat):Int)from rfl,e36];simp[h36]
   have b5:((c.toNat:Int) !=36)=false:=by rw[bne,b4];rfl
   have HR:=lhd (show R=false by rw[hR2,h36];rfl);clear hR2 hls h0 h32 hp e92 e36 HA h92 h36;go_enter Tryz.func205,Tryz.ntmps205;go_wp2_with fail;refine HP.out.mono ?_;rintro e w1 ⟨rfl,rfl⟩;go_wp2_with fail;go_ret;exact⟨zlE HR.out.symm,Below.refl _ _⟩
  ·have b4:((c.toNat:Int)==36)=false:=by rw[show(36:Int)=((36:Nat):Int)from rfl,e36];simpa using h36
   have b5:((c.toNat:Int) !=36)=true:=by rw[bne,b4];rfl
   rw[decide_eq_true h36,Bool.true_and]at hR2;have HR:=lhd hR2;generalize (s.data.toList.any fun d=>d==92||d==46||d==91||d==93)=q at HA HR;clear hR2 hls h0 h32 hp e92 e36 h92 h36;go_enter Tryz.func205,Tryz.ntmps205;go_wp2_with fail;refine HP.out.mono ?_;rintro e w1 ⟨rfl,rfl⟩;go_wp2_with fail;refine(HA.out _).mono ?_;rintro e w1 ⟨rfl,hb⟩;go_wp2_with fail;go_ret;exact⟨zlE HR.out.symm,hb⟩
theorem znZ (base g c a m b:Nat) (l P A B S:List Vr) (w:World) (hg:SO base g l.length c w l) (hl:l=P++(A++(B++S))) (hp:P.length=a) (hA:a+A.length=m) (hB:m+B.length=b) (h0:0<A.length) (h1:0<B.length) (hn:l.length≤1000):
 Calls Tryz.prog 288 #[.slice (some ⟨g,0,none⟩) l.length c,.int .i64 a,.int .i64 m,.int .i64 b,(.func (.func 166) #[] #[])] w fun e w'=>
  e=.returned (.tuple #[])∧SO base g l.length c w' (P++(B++(A++S)))∧Below base w w':=by
 have hlen:l.length=P.length+A.length+B.length+S.length:=by rw[hl];simp only[List.length_append];omega
 have hR:Rot m A.length B.length l (P++(B++(A++S))):=⟨P,A,B,S,hl,rfl,by omega,rfl,rfl⟩;have HT:=lhd (show(P++(B++(A++S))).length=l.length by rw[hlen];simp only[List.length_append];omega);have e1:IntKind.i64.wrap ((m:Int)-(a:Int))=(A.length:Int):=by rw[IntWalk.i64_in _ (by omega)];omega
 have e2:IntKind.i64.wrap ((b:Int)-(m:Int))=(B.length:Int):=by rw[IntWalk.i64_in _ (by omega)];omega
 have h2:m≤1000:=by omega
 have h3:B.length≤1000:=by omega
 have h4:A.length≤m:=by omega
 have HR0:=lhd hR;have H0:=lhd hg;generalize hN:l.length=n at*;generalize P++(B++(A++S))=t at*;generalize A.length=i0 at*;generalize B.length=j0 at*;clear hg hl hlen hR hp hA hB;go_enter Tryz.func288,Tryz.ntmps288;go_wp2_with fail;clear e1 e2;go_loopw [10,11] (fun vi vj wr=>∃(i j:Nat) (l2:List Vr),vi=.int .i64 i∧vj=.int .i64 j∧0<i∧0<j∧i≤m∧j≤1000∧Rot m i j l2 t∧SO base g n c wr l2∧Below base w wr) (fun vi vj _=>(intOf vi).toNat+(intOf vj).toNat)
 case atStart=>exact⟨i0,j0,l,rfl,rfl,h0,h1,h4,h3,HR0.out,H0.out,Below.refl _ _⟩
 case round=>
  obtain⟨i,j,l2,rfl,rfl,hi,hj,him,hj1,hr,hs,hb⟩:=hrel;have HB:=lhd hb;have hl2:=hs.len;clear hb;by_cases hij:i=j
  ·subst hij;obtain⟨X,A',B',Z,f1,f2,f3,f4,f5⟩:=hr.last;have hne:((i:Int) !=(i:Int))=false:=by simp
   have hw1:IntKind.i64.wrap ((m:Int)-(i:Int))=((m-i:Nat):Int):=by rw[IntWalk.i64_in _ (by omega)];omega
   have HS:=lhd (zn2 base g c (m-i) m i l2 X A' [] B' Z wr (by rw[hl2];exact hs) f1 f3 f4 (by omega) (by simp;omega) (by omega));rw[hl2,←f5]at HS;clear hr hs f1 f2 f3 f4 f5 hl2;go_wp2_with fail;refine HS.out.mono ?_;rintro e w1 ⟨rfl,hs1,hb1⟩;have H1:=lhd hs1;have HB1:=lhd (HB.out.trans hb1);clear hs1 hb1;go_wp2_with fail;go_end0
   exact⟨rfl,H1.out,HB1.out⟩
  ·have hne:((i:Int) !=(j:Int))=true:=by rw[bne_iff_ne];omega
   have hw1:IntKind.i64.wrap ((m:Int)-(i:Int))=((m-i:Nat):Int):=by rw[IntWalk.i64_in _ (by omega)];omega
   by_cases hlt:j<i
   ·obtain⟨X,A',Y,B',Z,f1,f2,f3,f4,f5,f6⟩:=hr.more hlt;have hd:decide ((j:Int)<(i:Int))=true:=by rw[decide_eq_true_iff];omega
    have hw2:IntKind.i64.wrap ((i:Int)-(j:Int))=((i-j:Nat):Int):=by rw[IntWalk.i64_in _ (by omega)];omega
    have HS:=lhd (zn2 base g c (m-i) m j l2 X A' Y B' Z wr (by rw[hl2];exact hs) f1 f3 f4 (by omega) (by omega) (by omega));rw[hl2]at HS;have HR:=lhd f6;clear hr hs f1 f2 f3 f4 f5 f6 hl2 hij;go_wp2_with fail;refine HS.out.mono ?_;rintro e w1 ⟨rfl,hs1,hb1⟩;have H1:=lhd hs1;have HB1:=lhd (HB.out.trans hb1);clear hs1 hb1;go_wp2_with fail;go_roundw;case rel=>exact⟨i-j,j,_,rfl,rfl,by omega,hj,by omega,hj1,HR.out,H1.out,HB1.out⟩
    case measure=>simp[intOf];omega
   ·have hlt2:i<j:=by omega
    obtain⟨X,A',Y,B',Z,f1,f2,f3,f4,f5,f6⟩:=hr.less hlt2;have hd:decide ((j:Int)<(i:Int))=false:=by rw[decide_eq_false_iff_not];omega
    have hw2:IntKind.i64.wrap ((j:Int)-(i:Int))=((j-i:Nat):Int):=by rw[IntWalk.i64_in _ (by omega)];omega
    have hw3:IntKind.i64.wrap ((m:Int)+(j:Int))=(m:Int)+(j:Int):=IntWalk.i64_in _ (by omega);have hw4:IntKind.i64.wrap ((m:Int)+(j:Int)-(i:Int))=(m:Int)+(j:Int)-(i:Int):=IntWalk.i64_in _ (by omega);have HS:=lhd (zn2 base g c (m-i) (m+j-i) i l2 X A' Y B' Z wr (by rw[hl2];exact hs) f1 f3 f4 (by omega) (by omega) (by omega));rw[hl2,show((m+j-i:Nat):Int)=(m:Int)+(j:Int)-(i:Int)by omega]at HS;have HR:=lhd f6;clear hr hs f1 f2 f3 f4 f5 f6 hl2 hij;go_wp2_with fail;refine HS.out.mono ?_;rintro e w1 ⟨rfl,hs1,hb1⟩;have H1:=lhd hs1;have HB1:=lhd (HB.out.trans hb1);clear hs1 hb1;go_wp2_with fail;go_roundw;case rel=>exact⟨i,j-i,_,rfl,rfl,hi,by omega,him,by omega,HR.out,H1.out,HB1.out⟩
    case measure=>simp[intOf];omega
attribute [local go_sem] Oper.semAt_some
theorem zpN (S:List Sc):∀(f:Nat) (i:Int),(upL S f i).length≤f
 |0,_=>Nat.zero_le _
 |f+1,i=>by
  unfold upL;split
  ·simp
  ·split
   ·simp
   ·have:=zpN S f;simp only[List.length_cons];have:=this (by assumption:Sc).2.2;omega
theorem zf5 (a:Option Addr) (m cap:Nat) (i:Int) (w:World):
 Calls Tryz.prog 260 #[.slice a m cap,.int .i64 i] w fun e w'=>e=.returned (.func (.func 286) #[] #[.pointer (some ⟨w.heap.size+1,0,none⟩),.pointer (some ⟨w.heap.size,0,none⟩)])∧w'=(w.alloc (.cells #[.slice a m cap] 22)).alloc (.cells #[.int .i64 i] 3):=by
 go_enter Tryz.func260,Tryz.ntmps260;go_wp2_with fail;go_ret;exact⟨rfl,rfl⟩
theorem PtI.old {w W W':World} {v vo:Value} {nms:List Bs} (h:PtI w v nms vo W) (hg:W.grownBy W' vo.ownBlock):Same0 w W':=
 Same0.of_below (h.b.grown hg (h.b.size) (fun _ hk=>(h.o.lt _ hk).1))
theorem PtI.rev {w W:World} {v vo:Value} {nms:List Bs} (h:PtI w v nms vo W) (hn:nms≠ []):
 ∃g cap,vo=.slice (some ⟨g,0,none⟩) nms.length cap∧Sort.Holds Proofs.encStr W g 0 nms.toArray∧∀q,PtI w v nms.reverse vo (Sort.putRow Proofs.encStr (Sort.ahead W q) g 0 nms.reverse.toArray)∧
  (∀(D:Nat) (o:Obj),W.heap[D]? =some o→o.isCells=false→(Sort.putRow Proofs.encStr (Sort.ahead W q) g 0 nms.reverse.toArray).heap[D]? =some o):=by
 have hnil:vo≠ .slice none 0 0:=by
  rintro rfl;have h1:=h.o.1;rcases h.o.2 with⟨-,h2⟩|⟨g,cap,cur,e0,-⟩
  ·exact hn (List.length_eq_zero_iff.1 h2)
  ·cases e0
 have ho:W.ownsRow w.heap.size 9 1 vo nms.length (nms.map Proofs.encStr):=h.o;obtain⟨g,cap,rfl,hg,hgl,hc1,hc2,-,hH⟩:=Lib.holds_of_ownsRow ho hnil
 have hgb:∃cur,W.heap[g]? =some (.cells cur 9 (0,0)):=by
  rcases ho.2 with⟨e0,-⟩|⟨g',cap',cur,e0,-,hb,-⟩
  ·cases e0
  ·injection e0 with e0 _ _;injection e0 with e0;injection e0 with e0 _ _;subst e0;exact⟨cur,hb⟩
 obtain⟨cur,hgb⟩:=hgb;refine⟨g,cap,rfl,hH,fun q=>?_⟩
 have hfar:∀D,D≠g→(Sort.putRow Proofs.encStr (Sort.ahead W q) g 0 nms.reverse.toArray).heap[D]? =W.heap[D]? :=by
  intro D hD;simp[Sort.putRow,Go.Sort.mapBlock,Sort.ahead,Array.getElem?_modify,show g≠D from fun e=>hD e.symm]
 have hne:∀(i:Nat) (D:Array Value) (T:TypeId) (fr:Nat×Nat),W.heap[i]? =some (.cells D T fr)→T≠9→i≠g:=by
  rintro i D T fr hi hT rfl;rw[hgb]at hi;injection hi with hi;injection hi with _ h5 _;exact hT h5.symm
 refine⟨⟨(hfar _ (hne _ _ _ _ h.bs (by decide))).trans h.bs,(hfar _ (hne _ _ _ _ h.bo (by decide))).trans h.bo,?_,Lib.below_putRow h.b hg⟩,fun D o hD ho'=>(hfar D ?_).trans hD⟩
 ·have:=Lib.ownsRow_putRow (q:=q) (ys:=nms.reverse) ho (by simp) (Nat.le_refl _);rw[List.take_of_length_le (by simp)]at this;rw[List.length_reverse];exact this
 ·rintro rfl;rw[hgb]at hD;injection hD with hD;subst hD;cases ho'
theorem zfZ (v:Value) (S:List Sc) (i:Nat) (w:World) (hs:SlR w v S.length (scs S)) (hF:Fst (parS S) S.length) (hi:i<S.length) (hl:S.length≤1000):
 Calls Tryz.prog 203 #[v,.int .i64 i] w fun e w'=>∃v',e=.returned v'∧w'.ownsRow w.heap.size 9 1 v' (upL S (i+1) i).length (strs ((upL S (i+1) i).map (nmS S)).reverse)∧Below w.heap.size w w':=by
 obtain⟨i0,hi0,iz0,iz1,iz2⟩:=info_parts (P:=Tryz.prog) zot;obtain⟨a,cap,rfl,-,-⟩:=hs.shape;obtain⟨L,hL⟩:∃L,upL S (i+1) i=L:=⟨_,rfl⟩;have HSP:=lhd (zpP hF (i+1) (i:Int) (by omega) (by omega) (by omega));rw[hL]at HSP⊢;have HL:=lhd hL;have HLE:=lhd (show L.length≤i+1 by rw[←hL];exact zpN _ _ _);clear hL;refine(callsIn_wide (n:=6)).1 ?_;refine callsIn_of_wp_marks Tryz.func203 rfl trivial ?_ rfl;refine wpIn_wide.2 ?_;simp only[Tryz.ntmps203,List.size_toArray,List.length_cons,List.length_nil,Nat.reduceAdd,Nat.reduceSub,Array.replicate_succ,Array.replicate_zero,List.push_toArray,List.append_toArray,List.nil_append,List.cons_append];go_wp2_with fail;refine(zf5 _ _ _ _ _).mono ?_;rintro e w1 ⟨rfl,rfl⟩;go_wp2_with fail;obtain⟨v,hv⟩:∃v,Value.slice a S.length cap=v:=⟨_,rfl⟩;rw[hv]at hs⊢;obtain⟨W0,hW0⟩:∃X,(((w.alloc (.cells #[v] 22)).alloc (.cells #[.slice none 0 0] 171)).alloc (.cells #[v] 22)).alloc (.cells #[.int .i64 i] 3)=X:=⟨_,rfl⟩;have hs0:W0.heap.size=w.heap.size+4:=by rw[←hW0];simp
 have h1:=heap_alloc_new w (.cells #[v] 22);have b1:Below w.heap.size w (w.alloc (.cells #[v] 22)):=(Below.refl _ _).alloc (Nat.le_refl _) _;have e1:(w.alloc (.cells #[v] 22)).heap.size=w.heap.size+1:=by simp
 rw[hW0];generalize w.alloc (.cells #[v] 22)=x1 at*;have h2:=heap_alloc_new x1 (.cells #[.slice none 0 0] 171);have b2:Below x1.heap.size x1 (x1.alloc (.cells #[.slice none 0 0] 171)):=(Below.refl _ _).alloc (Nat.le_refl _) _;have e2:(x1.alloc (.cells #[.slice none 0 0] 171)).heap.size=w.heap.size+2:=by simp[e1]
 generalize x1.alloc (.cells #[.slice none 0 0] 171)=x2 at*;have h3:=heap_alloc_new x2 (.cells #[v] 22);have b3:Below x2.heap.size x2 (x2.alloc (.cells #[v] 22)):=(Below.refl _ _).alloc (Nat.le_refl _) _;have e3:(x2.alloc (.cells #[v] 22)).heap.size=w.heap.size+3:=by simp[e2]
 generalize x2.alloc (.cells #[v] 22)=x3 at*;have h4:=heap_alloc_new x3 (.cells #[.int .i64 i] 3);have b4:Below x3.heap.size x3 (x3.alloc (.cells #[.int .i64 i] 3)):=(Below.refl _ _).alloc (Nat.le_refl _) _;rw[hW0]at h4 b4;rw[e1]at h2;rw[e2]at h3;rw[e3]at h4;have q1:=(Same0.of_below b4).cells _ _ _ _ ((Same0.of_below b3).cells _ _ _ _ ((Same0.of_below b2).cells _ _ _ _ h1));have q2:=(Same0.of_below b4).cells _ _ _ _ ((Same0.of_below b3).cells _ _ _ _ h2);have q3:=(Same0.of_below b4).cells _ _ _ _ h3;have bb:Below w.heap.size w W0:=zeG (zeG (zeG b1 b2) b3) b4;have hI0:PtI w v [] (.slice none 0 0) W0:=⟨q1,q2,World.ownsRow_nil _ _ _ _,bb⟩;have HS:=lhd hs;have HF:=lhd hF;clear hs hF q1 q2 h1 h2 h3 b1 b2 b3 b4 e1 e2 e3 hW0;refine(wpIn_wide (n:=6)).1 ?_
 refine zli (B0:=w.heap.size) (hB0:=by omega) rfl (by decide) (gf:=286) (lb:=#[.pointer (some ⟨w.heap.size+3,0,none⟩),.pointer (some ⟨w.heap.size+2,0,none⟩)]) rfl trivial (enters_of Tryz.func286 (by kernel_rfl) rfl)
  (encs:=upE L) (Kp:=fun W V=>KpU w.heap.size 9 171 W V∧W.heap.size≤V.heap.size) (N:=L.length) (T:=3)
  (fun l J W hW hJ hY h0=>?iter)
  (fun h k=>⟨h.1.trans k.1,Nat.le_trans h.2 k.2⟩) (fun _ _ h=>⟨KpU.same0 h,h.size⟩) (fun _=>rfl)
  (zau w v S L) (fun k W V ⟨vo,h⟩ ht=>⟨vo,h.turn ht⟩) ⟨_,hI0⟩ ?round ?done
 case iter=>
  have:=zpK (6-1) (by decide) l (w.heap.size+3) (w.heap.size+2) w.heap.size w.heap.size 9 171 (by decide) (by decide) S (i:Int) v w W J HF.out (by omega) (by omega) rfl (Nat.le_refl _) (by omega) (by omega) HS.out (Same0.trans (Same0.of_below bb) (Same0.of_below hW)) hJ
   (by rw[Int.toNat_natCast,HL.out];exact hY) ((Same0.of_below hW).cells _ _ _ _ h4) ((Same0.of_below hW).cells _ _ _ _ q3) h0
  rw[Int.toNat_natCast,HL.out]at this;exact this
 case done=>
  intro D W hD hI hDd;obtain⟨vo,h⟩:=hI
  have HLP:=lhd (show L≠ []by
   intro e;have h2:=HSP.out.2;rw[e]at h2;have h2:(i:Int)= -1:=h2;omega)
  rw[List.take_of_length_le (Nat.le_refl _)]at h
  obtain⟨g,cp,rfl,hH,hr⟩:=h.rev (by
   intro e;exact HLP.out (List.map_eq_nil_iff.1 e))
  obtain⟨co,fo⟩:=zjK h.bo;have HR:=lhd hr;have HD:=lhd (And.intro hD hDd);have HRV:=lhd (Tryz.slices_Reverse_string g 0 cp (L.map (nmS S)) W hH (by have:=HLE.out;simp;omega));clear hr hD hDd hH h;generalize hnn:L.map (nmS S)=nms at*;have HNL:=lhd (show nms.length=L.length by rw[←hnn];simp);have HNN:=lhd hnn;clear hnn;go_wp2_with fail;refine HRV.out.mono ?_;rintro e w3 ⟨rfl,q,rfl⟩;obtain⟨h3,h4⟩:=HR.out q;have HD3:=lhd (h4 D _ HD.out.2 rfl);have H3:=lhd h3;clear co fo h4 HR HRV;obtain⟨co,fo⟩:=zjK h3.bo;clear h3;generalize Sort.putRow Proofs.encStr (Sort.ahead W q) g 0 nms.reverse.toArray=W3 at*;go_wp2_with fail;refine⟨by simp,.inl ⟨_,_,rfl,run_takeDeferred HD3.out,?_⟩⟩;have ho:=ownsRow_putObj H3.out.o (.deferred none) HD3.out rfl;rw[List.length_reverse]at ho;refine⟨.slice (some ⟨g,0,none⟩) nms.length cp,by simp[results,Tryz.results203,go_sem],_,rfl,?_,?_⟩
  ·rw[HNN.out,←HNL.out];exact ho
  ·exact H3.out.b.trans (belowK_b (w:=W0) (by omega) _ D _ _ HD.out.1 HD3.out rfl rfl)
 case round=>
  intro l k W hlW ⟨vo,h⟩ hk;obtain⟨q0,q1',q2⟩:=HSP.out.1 k hk;obtain⟨m,hm2⟩:=Int.eq_ofNat_of_zero_le q0;rw[hm2]at q1' q2;rw[Int.toNat_natCast]at q2;have hmS:m<S.length:=by omega
  have HLD:=lhd (show(L.getD k 0:Nat)=m by rw[List.getD,q2];rfl);unfold upE;rw[HLD.out]
  have HTK:=lhd (show(L.take (k+1)).map (nmS S)=(L.take k).map (nmS S)++ [nmS S m]by
   rw[List.take_add_one,q2];simp)
  have HNL:=lhd (show((L.take k).map (nmS S)).length=k by simp;omega);clear q0 q1' q2 hm2;generalize (L.take k).map (nmS S)=nms at*;subst hv;have HI:=lhd h;clear h;gi_wp2
  refine⟨KeepsFrom.refl _ _,⟨KpU.below (Below.refl _ _),Nat.le_refl _⟩,?_⟩;intro W1 hs1 ht1;have H2:=lhd (HI.out.turn ht1);obtain⟨ct,ft⟩:=zjK H2.out.bs;obtain⟨co,fo⟩:=zjK H2.out.bo;obtain⟨bS,oS,rfl,hcell⟩:=(HS.out.same0 (Same0.of_below H2.out.b)).scs hmS;have hnm:nmS S m=(S[m]).1:=by simp[nmS,List.getD,hmS]
  have HSX:=HS;obtain⟨nm,hnx⟩:∃nm,(S[m]).1=nm:=⟨_,rfl⟩;have d0:W1.cell? ⟨bS,oS+m*3,none⟩=some (.string (bsB nm)):=hcell 0 _ (by rw[←hnx];rfl);rw[hnm,hnx]at HTK
  have HSC:=lhd (fun(X:World) (hX:Same0 w X)=>(show X.cell? ⟨bS,oS+m*3,none⟩=some (.string (bsB nm))by
   obtain⟨b',o',e',hc'⟩:=(HSX.out.same0 hX).scs hmS;injection e' with e';injection e' with e1 e2 _;subst e1 e2;exact hc' 0 _ (by rw[←hnx];rfl)))
  clear hcell hs1 ht1 HI hnm hnx;obtain⟨ao,capo,rfl,-,-⟩:=(SlR.of_own H2.out.o).shape;have hal:Below W1.heap.size W1 (W1.drew.alloc (.cells #[.string (bsB nm)] 9)):=((Below.refl _ _).drew).alloc (Nat.le_refl _) _;have HA:=lhd (H2.out.same hal);have HKA:=lhd (KpU.below (N:=w.heap.size) (T1:=9) (T2:=171) hal);have HZA:=lhd hal.size;have HOA:=lhd ((KeepsOthers.drew W1).trans (KeepsOthers.alloc _ (.cells #[.string (bsB nm)] 9)));have y1:=(zjK HA.out.bs).1;have y2:=HSC.out _ (Same0.of_below HA.out.b);have hbz:=H2.out.b.size;have hnl:nms.length≤1000:=by have:=HNL.out;have:=HLE.out;omega
  clear hal;gi_wp2
  refine wpIn_mono (Q:=fun e _ W'=>e=.normal∧∃vo,PtI w (.slice (some ⟨bS,oS,none⟩) S.length cap) (nms++ [nm]) vo W'∧KpU w.heap.size 9 171 W1 W'∧W1.heap.size≤W'.heap.size∧KeepsOthers W1 W') ?_ ?_;rotate_left
  ·rintro e a' W' ⟨rfl,vo,hp,hk1,hk2,hk3⟩;gi_wp2
   refine⟨hk3.from _,?_⟩;unfold zau;rw[HTK.out];exact⟨vo,hp⟩
  refine wpIn_region_any (by kernel_rfl) ?_;refine za4 (ziN (by kernel_rfl)) ?_ _ _ _ _ ?_
  ·rintro⟨a0,w0,h0,-⟩;cases h0
  refine wpAny_of_held (S:=fun w'=>w'.cell? ⟨w.heap.size,0,none⟩=some (.slice (some ⟨bS,oS,none⟩) S.length cap)∧w'.cell? ⟨bS,oS+m*3,none⟩=some (.string (bsB nm))) _ _ _ _ ?_
  ·have hHeld:W1.drew.cell? ⟨w.heap.size,0,none⟩=some (.slice (some ⟨bS,oS,none⟩) S.length cap)∧W1.drew.cell? ⟨bS,oS+m*3,none⟩=some (.string (bsB nm)):=⟨ct,d0⟩;refine tkH 1 hHeld (v:=?_) ?_ ?_;rotate_left
   ·intro w h;(try dsimp only at h);go_simp;all_goals with_reducible rfl
   simp only[tkS];refine tkH 2 hHeld (v:=?_) ?_ ?_;rotate_left
   ·intro w h;(try dsimp only at h);go_simp;all_goals with_reducible rfl
   simp only[tkS];refine tkH 3 hHeld (v:=?_) ?_ ?_;rotate_left
   ·intro w h;(try dsimp only at h);go_simp;all_goals with_reducible rfl
   simp only[tkS];refine tkH 4 hHeld (v:=?_) ?_ ?_;rotate_left
   ·intro w h;(try dsimp only at h);go_simp;all_goals with_reducible rfl
   simp only[tkS];refine tkH 5 hHeld (v:=?_) ?_ ?_;rotate_left
   ·intro w h;(try dsimp only at h);go_simp;all_goals with_reducible rfl
   simp only[tkS];refine wpAnyH_ready (rs:=[0,6]) (by kernel_rfl) (by simp) ?_;refine AllReadyH.cons (o:=_) rfl (fun K hK=>?_) (AllReadyH.cons (o:=_) rfl (fun K hK=>?_) AllReadyH.nil)
   ·go_simp;refine hK.out _ _ ⟨ct,d0⟩ (fun hHeld=>?_);clear hK;try simp only[tkS]
    refine oneH 6 (fun K hK=>?_);go_simp;refine hK.out _ _ ⟨y1,y2⟩ (fun hHeld=>?_);clear hK;try simp only[tkS]
    refine oneH 7 (fun K hK=>?_);refine step_append_lies _ (by rfl) _ _ _ (by rfl) w.heap.size 9 i0 _ 1 16 Tryz.underlying171 hi0 iz0 iz1 iz2 rfl (by omega) (.slice ao nms.length capo) nms.length (strs nms) (by rfl) (by exact HA.out.o) ⟨W1.heap.size,0,none⟩ 1 1 [.string (bsB nm)] (by rfl) (by rfl) (World.news_of_block (cs:=#[.string (bsB nm)]) (t:=9) (fr:=(0,0)) (by exact heap_alloc_new _ _)) (by simp[Value.oneCell']) (by omega) (by unfold maxLen;omega) (by omega) (by simp;omega) (W1.heap.size+1) (by simp) ?_;intro gg cap9 w9 ho9 hg9 hat hlt9;obtain⟨P1,P2,P3,P4,P5,P6,P10⟩:=HA.out.add ho9 hg9;have P7:=HSC.out w9 (HA.out.old hg9);have HP9:=lhd P1;have HK9:=lhd (And.intro P5 P6);have HO9:=lhd P10;clear ho9 hg9 hat hlt9 P1 P5 P6 P10;refine hK.out _ _ ⟨P2,P7⟩ (fun hHeld=>?_);clear hK;try simp only[tkS]
    refine oneH 8 (fun K hK=>?_);go_simp;have P8:=And.intro (zjK HP9.out.bs).1 (HSC.out _ (Same0.of_below HP9.out.b));refine hK.out _ _ P8 (fun hHeld=>?_);clear hK;try simp only[tkS]
    refine wpAnyH_done (by kernel_rfl) ?_ _;exact⟨rfl,_,HP9.out,HKA.out.trans HK9.out.1,Nat.le_trans HZA.out HK9.out.2,HOA.out.trans HO9.out⟩
   ·go_simp;refine hK.out _ _ ⟨y1,y2⟩ (fun hHeld=>?_);clear hK;try simp only[tkS]
    have a8:=zcm co (.cells #[.string (bsB nm)] 9);refine oneH 0 (fun K hK=>?_);go_simp;refine hK.out _ _ ⟨y1,y2⟩ (fun hHeld=>?_);clear hK;try simp only[tkS]
    clear a8;refine oneH 7 (fun K hK=>?_);refine step_append_lies _ (by rfl) _ _ _ (by rfl) w.heap.size 9 i0 _ 1 16 Tryz.underlying171 hi0 iz0 iz1 iz2 rfl (by omega) (.slice ao nms.length capo) nms.length (strs nms) (by rfl) (by exact HA.out.o) ⟨W1.heap.size,0,none⟩ 1 1 [.string (bsB nm)] (by rfl) (by rfl) (World.news_of_block (cs:=#[.string (bsB nm)]) (t:=9) (fr:=(0,0)) (by exact heap_alloc_new _ _)) (by simp[Value.oneCell']) (by omega) (by unfold maxLen;omega) (by omega) (by simp;omega) (W1.heap.size+1) (by simp) ?_;intro gg cap9 w9 ho9 hg9 hat hlt9;obtain⟨P1,P2,P3,P4,P5,P6,P10⟩:=HA.out.add ho9 hg9;have P7:=HSC.out w9 (HA.out.old hg9);have HP9:=lhd P1;have HK9:=lhd (And.intro P5 P6);have HO9:=lhd P10;clear ho9 hg9 hat hlt9 P1 P5 P6 P10;refine hK.out _ _ ⟨P2,P7⟩ (fun hHeld=>?_);clear hK;try simp only[tkS]
    refine oneH 8 (fun K hK=>?_);go_simp;have P8:=And.intro (zjK HP9.out.bs).1 (HSC.out _ (Same0.of_below HP9.out.b));refine hK.out _ _ P8 (fun hHeld=>?_);clear hK;try simp only[tkS]
    refine wpAnyH_done (by kernel_rfl) ?_ _;exact⟨rfl,_,HP9.out,HKA.out.trans HK9.out.1,Nat.le_trans HZA.out HK9.out.2,HOA.out.trans HO9.out⟩
attribute [local go_sem] Oper.semAt_some
theorem zq3 (n:Nat) (hn:2≤n) (lp:Nat) (S:List Sc) (v:Value) (w0:World) (J:Nat→World→Prop) (ord:List Nat)
 (hF:Fst (parS S) S.length) (hl:S.length≤1000) (hs:SlR w0 v S.length (scs S))
 (hY:∀k W1,J k W1→k<ord.length→YieldAt Fence.wide (n-1) Tryz.prog lp (ordE ord k) W1 fun e W'=>e=.returned (.bool true)∧J (k+1) W'∧KpO w0.heap.size W1 W'):
 ∀(f:Nat) (p:Int) (A B:List Nat) (W:World),-1≤p→p≤1000→(S.length:Int)≤(f:Int)+p+1→ord=A++pre (parS S) S.length (f+1) p++B→J A.length W→Same0 w0 W→
  WkP n lp v w0 J p A.length (pre (parS S) S.length (f+1) p).length W
 |0,p,A,B,W,h1,h2,h3,ho,h0,h00=>zq4 n hn lp S v w0 J ord hF hl hs hY 0 p A B W h1 h2 ho h0 h00 (fun i _ _ _ hi hi2 _ _ _=>by omega)
 |f+1,p,A,B,W,h1,h2,h3,ho,h0,h00=>zq4 n hn lp S v w0 J ord hF hl hs hY (f+1) p A B W h1 h2 ho h0 h00 (fun i A' B' W' hi hi2 ho' hj hs'=>
   zq3 n hn lp S v w0 J ord hF hl hs hY f (i:Int) A' B' W' (by omega) (by omega) (by omega) ho' hj hs')
theorem zkK (n:Nat) (hn:2≤n) (lp bs bp:Nat) (S:List Sc) (v:Value) (w0 W:World) (J:Nat→World→Prop)
 (hF:Fst (parS S) S.length) (hl:S.length≤999) (hs:SlR w0 v S.length (scs S)) (h0w:Same0 w0 W)
 (hY:∀k W1,J k W1→k<(preS S).length→YieldAt Fence.wide (n-1) Tryz.prog lp (ordE (preS S) k) W1 fun e W'=>e=.returned (.bool true)∧J (k+1) W'∧KpO w0.heap.size W1 W')
 (hcs:W.heap[bs]? =some (.cells #[v] 22 (0,0))) (hcp:W.heap[bp]? =some (.cells #[.int .i64 (-1)] 3 (0,0))) (h0:J 0 W):
 CallsIn Fence.wide n Tryz.prog 218 #[.func (.yield lp) #[] #[],.pointer (some ⟨bs,0,none⟩),.pointer (some ⟨bp,0,none⟩)] W fun e W'=>(∃v,e=.returned v)∧J (preS S).length W':=by
 have hro:Fence.wide.round=none:=rfl;obtain⟨a,cap,rfl,-,-⟩:=hs.shape;have HW:=lhd (zq3 n hn lp S _ w0 J (preS S) hF (by omega) hs hY S.length (-1) [] [] W (by omega) (by omega) (by omega) (by simp[preS]) h0 h0w);obtain⟨cs,-⟩:=zjK hcs;obtain⟨cp,-⟩:=zjK hcp;unfold WkP at HW;clear hs hY h0 h0w hcs hcp hF;refine callsIn_of_wp Tryz.func218 rfl trivial ?_ hro;simp only[Tryz.ntmps218,List.size_toArray,List.length_cons,List.length_nil,Nat.reduceAdd,Nat.reduceSub,Array.replicate_succ,Array.replicate_zero,List.push_toArray,List.append_toArray,List.nil_append,List.cons_append];have h1n:1≤n:=by omega
 gi_wp2
 refine⟨trivial,?_⟩;refine(callsIn_wide.2 (callsIn_wide.1 HW.out)).mono ?_;rintro e W4 ⟨rfl,hj4,-⟩
 have HJ:=lhd (show J (preS S).length W4 by
  have:J (0+(preS S).length) W4:=hj4;rwa [Nat.zero_add]at this)
 clear hj4;gi_wp2
 go_end0
 exact⟨⟨_,rfl⟩,HJ.out⟩
theorem zf0 (a:Option Addr) (m cap:Nat) (i:Int) (w:World):
 Calls Tryz.prog 163 #[.slice a m cap,.int .i64 i] w fun e w'=>e=.returned (.func (.func 218) #[] #[.pointer (some ⟨w.heap.size,0,none⟩),.pointer (some ⟨w.heap.size+1,0,none⟩)])∧w'=(w.alloc (.cells #[.slice a m cap] 22)).alloc (.cells #[.int .i64 i] 3):=by
 go_enter Tryz.func163,Tryz.ntmps163;go_wp2_with fail;go_ret;exact⟨rfl,rfl⟩
open Go.RowKit Go.WideMaps
theorem zfO (s:Bs) (w:World) (hm:s.length≤100000):Calls Tryz.prog 204 #[.string (bsB s)] w fun e w'=>e=.returned (.bool (!ziu s))∧Below w.heap.size w w':=by
 have HP:=lhd (ziI (bsB s) w (by rw[zb1];exact hm));rw[zbZ]at HP;generalize ziu s=r at HP⊢;go_enter Tryz.func204,Tryz.ntmps204;go_wp2_with fail;refine HP.out.mono ?_;rintro e w1 ⟨rfl,hb⟩;go_wp2_with fail;go_ret;exact⟨rfl,hb⟩
def outB (n m:Int):Bool:=decide (n<0)||decide (m<n)
theorem zfP (n m:Int) (w:World):Calls Tryz.prog 206 #[.int .i64 n,.int .i64 m] w fun e w'=>e=.returned (.bool (outB n m))∧Below w.heap.size w w':=by
 have HR:=lhd (show(decide (n<0)||decide (m<n))=outB n m from rfl);by_cases h1:n<0
 ·have b1:decide (n<0)=true:=by simpa using h1
  rw[b1]at HR;clear h1;go_enter Tryz.func206,Tryz.ntmps206;go_wp2_with fail;go_ret;exact⟨zlE HR.out,Below.refl _ _⟩
 ·have b1:decide (n<0)=false:=by simpa using h1
  by_cases h2:m<n
  ·have b2:decide (m<n)=true:=by simpa using h2
   rw[b1,b2]at HR;clear h1 h2;go_enter Tryz.func206,Tryz.ntmps206;go_wp2_with fail;go_ret;exact⟨zlE HR.out,Below.refl _ _⟩
  ·have b2:decide (m<n)=false:=by simpa using h2
   rw[b1,b2]at HR;clear h1 h2;go_enter Tryz.func206,Tryz.ntmps206;go_wp2_with fail;go_ret;exact⟨zlE HR.out,Below.refl _ _⟩
def zah (w:World) (pt:Nat) (f:Nat):Prop:=w.cell? ⟨pt,0,none⟩=some (.func (.func f) #[] #[])
theorem zfQ (pt:Nat) (x:Sc) (w:World) (hc:zah w pt 204) (hm:(x.1).length≤100000):
 Calls Tryz.prog 209 #[scV x,.pointer (some ⟨pt,0,none⟩)] w fun e w'=>e=.returned (.bool (!ziu x.1))∧Below w.heap.size w w':=by
 have hlt:=zcn hc;have hne:pt≠w.heap.size:=Nat.ne_of_lt hlt;unfold zah at hc;obtain⟨nm,ty,pa⟩:=x;have HP:=lhd (fun W=>zfO nm W hm);generalize ziu nm=r at HP⊢;go_enter Tryz.func209,Tryz.ntmps209;go_wp2_with fail;refine(HP.out _).mono ?_;rintro e w1 ⟨rfl,hb⟩;have HB:=lhd (zeF hb);clear hb;go_wp2_with fail;go_ret;exact⟨rfl,HB.out⟩
theorem zfS (pt:Nat) (x:Vr) (w:World) (hc:zah w pt 204) (hm:(x.nm).length≤100000):
 Calls Tryz.prog 211 #[vrV x,.pointer (some ⟨pt,0,none⟩)] w fun e w'=>e=.returned (.bool (!ziu x.nm))∧Below w.heap.size w w':=by
 have hlt:=zcn hc;have hne:pt≠w.heap.size:=Nat.ne_of_lt hlt;unfold zah at hc;obtain⟨nm,ty,sc,sg,rg,mb,lb⟩:=x;have HP:=lhd (fun W=>zfO nm W hm);generalize ziu nm=r at HP⊢;go_enter Tryz.func211,Tryz.ntmps211;go_wp2_with fail;refine(HP.out _).mono ?_;rintro e w1 ⟨rfl,hb⟩;have HB:=lhd (zeF hb);clear hb;go_wp2_with fail;go_ret;exact⟨rfl,HB.out⟩
theorem zfR (pt:Nat) (x:Sc) (w:World) (hc:zah w pt 206):
 Calls Tryz.prog 212 #[scV x,.pointer (some ⟨pt,0,none⟩)] w fun e w'=>e=.returned (.bool (outB x.2.1 4))∧Below w.heap.size w w':=by
 have hlt:=zcn hc;have hne:pt≠w.heap.size:=Nat.ne_of_lt hlt;unfold zah at hc;obtain⟨nm,ty,pa⟩:=x;have HP:=lhd (fun W=>zfP ty 4 W);dsimp only at HP⊢;generalize outB ty 4=r at HP⊢;go_enter Tryz.func212,Tryz.ntmps212;go_wp2_with fail;refine(HP.out _).mono ?_;rintro e w1 ⟨rfl,hb⟩;have HB:=lhd (zeF hb);clear hb;go_wp2_with fail;go_ret;exact⟨rfl,HB.out⟩
theorem zfU (pt:Nat) (x:Vr) (w:World) (hc:zah w pt 206):
 Calls Tryz.prog 213 #[vrV x,.pointer (some ⟨pt,0,none⟩)] w fun e w'=>e=.returned (.bool (outB x.ty 18))∧Below w.heap.size w w':=by
 have hlt:=zcn hc;have hne:pt≠w.heap.size:=Nat.ne_of_lt hlt;unfold zah at hc;obtain⟨nm,ty,sc,sg,rg,mb,lb⟩:=x;have HP:=lhd (fun W=>zfP ty 18 W);dsimp only at HP⊢;generalize outB ty 18=r at HP⊢;go_enter Tryz.func213,Tryz.ntmps213;go_wp2_with fail;refine(HP.out _).mono ?_;rintro e w1 ⟨rfl,hb⟩;have HB:=lhd (zeF hb);clear hb;go_wp2_with fail;go_ret;exact⟨rfl,HB.out⟩
theorem zfT (x:Vr) (w:World):Calls Tryz.prog 207 #[vrV x] w fun e w'=>e=.returned (.bool (zlj x))∧Below w.heap.size w w':=by
 obtain⟨nm,ty,sc,sg,rg,mb,lb⟩:=x;have HP:=lhd (fun W=>ziJ mb lb W);obtain⟨R,hR⟩:∃R,R=zlj ⟨nm,ty,sc,sg,rg,mb,lb⟩:=⟨_,rfl⟩;rw[←hR];unfold zlj at hR;dsimp only at hR;have hal:Below w.heap.size w (w.alloc (.cells #[.string (bsB nm),.int .i64 ty,.int .i64 sc,.int .i64 sg,.bool rg,.int .i64 mb,.int .i64 lb] 42)):=(Below.refl _ _).alloc (Nat.le_refl _) _;cases rg
 ·rw[if_neg (by decide)]at hR;by_cases h1:mb=0
  ·by_cases h2:lb=0
   ·have HR:=lhd (show R=false by rw[hR];simp[h1,h2]);have b1:(mb==0)=true:=by simp[h1]
    have b2:(lb==0)=true:=by simp[h2]
    subst h1 h2;clear hR HP;go_enter Tryz.func207,Tryz.ntmps207;go_wp2_with fail;go_ret;exact⟨zlE HR.out.symm,hal⟩
   ·have HR:=lhd (show R=true by rw[hR];simp[h2]);have b2:(lb==0)=false:=by simpa using h2
    have b3:(lb !=0)=true:=by simpa using h2
    subst h1;clear hR HP h2;go_enter Tryz.func207,Tryz.ntmps207;go_wp2_with fail;go_ret;exact⟨zlE HR.out.symm,hal⟩
  ·have HR:=lhd (show R=true by rw[hR];simp[h1]);have b2:(mb==0)=false:=by simpa using h1
   have b3:(mb !=0)=true:=by simpa using h1
   clear hR HP h1;go_enter Tryz.func207,Tryz.ntmps207;go_wp2_with fail;go_ret;exact⟨zlE HR.out.symm,hal⟩
 ·rw[if_pos rfl]at hR;have HR:=lhd (show R=(zq9 mb lb==0)by rw[hR];rfl);generalize zq9 mb lb=q at HP HR;clear hR;go_enter Tryz.func207,Tryz.ntmps207;go_wp2_with fail;refine(HP.out _).mono ?_;rintro e w1 ⟨rfl,rfl⟩;go_wp2_with fail;go_ret;exact⟨zlE HR.out.symm,hal⟩
open Go.RowKit Go.WideMaps Go.Shelf
attribute [local go_sem] Oper.semAt_some
theorem zrq {P:Program} {K:TypeId} {κ:Type} [DecidableEq κ] {E:KeyEnc P K κ} (w:World) {ops:Array Oper} {rest:List Oper} {o:Oper} {a:Act} {Q:Exit→Act→World→Prop}
 (hg:o.guard=none) (m x v:Operand) (t:TypeId) (hop:o.op=Op.insert t m x v) (e:TypeId) (ht:P.underlying t=some (.map K e)) (b n:Nat) (f:κ→Option Value)
 (hm:a.eval m=.map (some b)) (hown:KMap E w b n f) (hn:n<maxLen) (k:κ) (val:Value) (hx:a.eval x=E.vK k) (hv:a.eval v=val) (hk:E.dom k)
 (hC:∀w',KMap E w' b (n+1) (fun y=>if y=k then some val else f y)→w.grownBy w' (some b)→wpList P ops Q rest (a.put o.dst undef) w'):
 wpList P ops Q (o::rest) a w:=by
 refine wpList_plain hg fun K' hK'=>?_;obtain⟨w',hrun,r1,r2⟩:=hown.put ht hn k hk val;unfold Oper.wp;simp[execOp,hop,hm,hx,hv,hrun,Result.andThen];exact hK' _ _ (hC w' r1 r2)
theorem zrp {F:Fence} {nF:Nat} {P:Program} {K:TypeId} {κ:Type} [DecidableEq κ] {E:KeyEnc P K κ} (w:World) {ops:Array Oper} {rest:List Oper} {o:Oper} {a:Act} {Q:Exit→Act→World→Prop}
 (hg:o.guard=none) (m x v:Operand) (t:TypeId) (hop:o.op=Op.mapUpdate t m x v) (e:TypeId) (ht:P.underlying t=some (.map K e)) (b n:Nat) (f:κ→Option Value)
 (hm:a.eval m=.map (some b)) (hown:KMap E w b n f) (hn:n<maxLen) (k:κ) (val:Value) (hx:a.eval x=E.vK k) (hv:a.eval v=val) (hk:E.dom k)
 (hC:∀w',KMap E w' b (n+1) (fun y=>if y=k then some val else f y)→w.grownBy w' (some b)→wpListIn F nF P ops Q rest (a.put o.dst undef) w'):
 wpListIn F nF P ops Q (o::rest) a w:=by
 refine wpListIn_plain hg fun K' hK'=>?_;obtain⟨w',hrun,r1,r2⟩:=hown.put ht hn k hk val;unfold Oper.wpIn;refine⟨by simp[Oper.about,hop],?_⟩;rw[Oper.semAt_plain F _ _ (by rw[hop];intro c hc';cases hc')];simp[execOp,hop,hm,hx,hv,hrun,Result.andThen];exact hK' _ _ (hC w' r1 r2)
def nowF (ord:List Nat) (k:Nat) (x:Int):Option Value:=if x= -1∨(0≤x∧x.toNat∈ord.take k)then some (.int .i64 (pos ord x))else none
theorem zi5 {ord:List Nat} (hn:ord.Nodup) {k:Nat} (hk:k<ord.length) (y:Int):(if y=(ord[k]:Int)then some (Value.int .i64 (k:Int))else nowF ord k y)=nowF ord (k+1) y:=by
 have hix:ord.idxOf ord[k]=k:=hn.idxOf_getElem k hk;by_cases hy:y=(ord[k]:Int)
 ·subst hy;rw[if_pos rfl];unfold nowF;rw[if_pos (.inr ⟨by omega,by rw[Int.toNat_natCast,List.take_succ_eq_append_getElem hk];exact List.mem_append_right _ (List.mem_singleton.2 rfl)⟩)];unfold pos;rw[if_neg (by omega),Int.toNat_natCast,hix]
 ·rw[if_neg hy];unfold nowF
  have e:(y= -1∨(0≤y∧y.toNat∈ord.take (k+1)))↔(y= -1∨(0≤y∧y.toNat∈ord.take k)):=by
   rw[List.take_succ_eq_append_getElem hk];simp only[List.mem_append,List.mem_singleton];constructor
   ·rintro(h|⟨h1,h2|h2⟩)
    ·exact .inl h
    ·exact .inr ⟨h1,h2⟩
    ·exact absurd (show y=(ord[k]:Int)by omega) hy
   ·rintro(h|⟨h1,h2⟩)
    ·exact .inl h
    ·exact .inr ⟨h1,.inl h2⟩
  by_cases h:y= -1∨(0≤y∧y.toNat∈ord.take k)
  ·rw[if_pos h,if_pos (e.2 h)]
  ·rw[if_neg h,if_neg (fun h'=>h (e.1 h'))]
theorem zi6 (ord:List Nat) (y:Int):(if y= -1 then some (Value.int .i64 (-1))else none)=nowF ord 0 y:=by
 unfold nowF;by_cases hy:y= -1
 ·subst hy;rw[if_pos rfl,if_pos (.inl rfl)];rfl
 ·rw[if_neg hy,if_neg];rintro(h|⟨-,h⟩)
  ·exact hy h
  ·simp at h
structure OrI (w:World) (v:Value) (b9 bq:Nat) (S:List Sc) (k km:Nat) (vo:Value) (W:World):Prop where
 bs:W.heap[w.heap.size]? =some (.cells #[v] 22 (0,0))
 bo:W.heap[b9]? =some (.cells #[vo] 22 (0,0))
 bn:W.heap[bq]? =some (.cells #[.map (some (b9+1))] 93 (0,0))
 m:KMap (zgz (P:=Tryz.prog) (K:=3) Tryz.underlying3) W (b9+1) (km+1) (nowF (preS S) km)
 o:W.ownsRow w.heap.size 55 3 vo k (scs ((scF S).take k))
 b:Below w.heap.size w W
 z:w.heap.size<b9∧b9+1<bq
theorem OrI.turn {w W V:World} {v vo:Value} {b9 bq k km B:Nat} {S:List Sc} (h:OrI w v b9 bq S k km vo W) (hB:bq<B) (ht:TurnI B 5 W V):OrI w v b9 bq S k km vo V:=by
 have hz:=h.z
 exact⟨(ht.low _ (by omega)).trans h.bs,(ht.low _ (by omega)).trans h.bo,(ht.low _ (by omega)).trans h.bn,h.m.same (ht.low _ (by omega)),zkn h.o ht (by decide),
  ⟨ht.os.trans h.b.os,ht.tape.trans h.b.tape,ht.output.trans h.b.output,Nat.le_trans h.b.size ht.size,fun b hb=>(ht.low b (by omega)).trans (h.b.block b hb)⟩,h.z⟩
theorem OrI.below {w W V:World} {v vo:Value} {b9 bq k km:Nat} {S:List Sc} (h:OrI w v b9 bq S k km vo W) (hb:Below W.heap.size W V):OrI w v b9 bq S k km vo V:=by
 have hs:=Same0.of_below hb;exact⟨hs.cells _ _ _ _ h.bs,hs.cells _ _ _ _ h.bo,hs.cells _ _ _ _ h.bn,h.m.below hb h.m.lt,zkj h.o hs,h.b.trans (hb.mono h.b.size),h.z⟩
theorem OrI.setM {w W W1:World} {v vo:Value} {b9 bq k:Nat} {S:List Sc} (h:OrI w v b9 bq S k k vo W) (hn:(preS S).Nodup) (hk:k<(preS S).length)
 (hm:KMap (zgz (P:=Tryz.prog) (K:=3) Tryz.underlying3) W1 (b9+1) (k+1+1) (fun y=>if y=((preS S)[k]:Int)then some (.int .i64 (k:Int))else nowF (preS S) k y)) (hg:W.grownBy W1 (some (b9+1))):OrI w v b9 bq S k (k+1) vo W1:=by
 have hz:=h.z
 have hne:∀(i:Nat) (D:Array Value) (T:TypeId) (fr:Nat×Nat),W.heap[i]? =some (.cells D T fr)→W1.heap[i]? =some (.cells D T fr):=by
  intro i D T fr hi
  rw[hg.block i (Array.getElem?_eq_some_iff.1 hi).1 (fun q=>by
   injection q with q;subst q;exact h.m.no_cells hi)]
  exact hi
 exact⟨hne _ _ _ _ h.bs,hne _ _ _ _ h.bo,hne _ _ _ _ h.bn,hm.ext (fun y=>zi5 hn hk y),h.o.kept hg (.inr fun e=>h.m.ne_row h.o e.symm),h.b.grown hg h.b.size (fun j hj=>by injection hj with hj;omega),hz⟩
theorem OrI.add {w W W1:World} {v vo vo':Value} {b9 bq k km:Nat} {S:List Sc} {x:Sc} (h:OrI w v b9 bq S k km vo W) (hx:(scF S)[k]? =some x) (ho:W1.ownsRow w.heap.size 55 3 vo' (k+1) (scs ((scF S).take k)++scC x)) (hg:W.grownBy W1 vo.ownBlock):
 OrI w v b9 bq S (k+1) km vo' (W1.setCell ⟨b9,0,none⟩ vo'):=by
 have hz:=h.z
 have hne:∀(i:Nat) (D:Array Value) (T:TypeId) (fr:Nat×Nat),W.heap[i]? =some (.cells D T fr)→T≠55→W1.heap[i]? =some (.cells D T fr):=by
  intro i D T fr hi hT
  rw[hg.block i (Array.getElem?_eq_some_iff.1 hi).1 (fun q=>by
   rcases h.o.2 with⟨rfl,-⟩|⟨g',cap',cur,rfl,-,hgb,-⟩
   ·cases q
   ·injection q with q;subst q;rw[hgb]at hi;injection hi with hi;injection hi with _ h5 _;exact hT h5.symm)]
  exact hi
 have h1:=hne _ _ _ _ h.bs (by decide);have h2:=hne _ _ _ _ h.bo (by decide);have h3:=hne _ _ _ _ h.bn (by decide);have hm:=(h.m.kept hg (h.m.ne_row h.o)).setCell (a:=⟨b9,0,none⟩) (by show b9+1≠b9;omega) vo';refine⟨zfL (by omega) h1,zfM h2,zfL (by omega) h3,hm,?_,(h.b.grown hg h.b.size (fun k hk=>(h.o.lt _ hk).1)).setCell (p:=⟨b9,0,none⟩) (by show w.heap.size≤b9;omega) _,hz⟩;rw[List.take_add_one,hx,zmj];show World.ownsRow _ _ _ _ _ _ (scs ((scF S).take k)++scs [x]);have e:scs [x]=scC x:=by simp[scs]
 rw[e];refine ownsRow_setCell_other (a:=⟨b9,0,none⟩) ho (fun q=>?_) _;rcases ho.2 with⟨rfl,-⟩|⟨g',cap',cur,rfl,-,hgb,-⟩
 ·cases q
 ·injection q with q;subst q;rw[hgb]at h2;injection h2 with h2;injection h2 with _ h5 _;exact absurd h5 (by decide)
theorem OrI.keepBo {w W W1:World} {v vo:Value} {b9 bq k km:Nat} {S:List Sc} (h:OrI w v b9 bq S k km vo W) (hg:W.grownBy W1 vo.ownBlock):W1.heap[b9]? =some (.cells #[vo] 22 (0,0)):=by
 rw[hg.block b9 (Array.getElem?_eq_some_iff.1 h.bo).1 (fun q=>by
  rcases h.o.2 with⟨rfl,-⟩|⟨g',cap',cur,rfl,-,hgb,-⟩
  ·cases q
  ·injection q with q;subst q;have hi:=h.bo;rw[hgb]at hi;injection hi with hi;injection hi with _ h5 _;exact absurd h5 (by decide))]
 exact h.bo
theorem OrI.others {w W W1:World} {v vo vo':Value} {b9 bq k km:Nat} {S:List Sc} (h:OrI w v b9 bq S k km vo W) (hg:W.grownBy W1 vo.ownBlock):KeepsOthers W (W1.setCell ⟨b9,0,none⟩ vo'):=by
 refine(KeepsOthers.of_grownBy hg fun j o ej hj=>?_).trans (KeepsOthers.setCell _ _ _);rcases h.o.2 with⟨rfl,_⟩|⟨g,cap,cur,rfl,_,hgb,_⟩
 ·simp[Value.ownBlock]at ej
 ·obtain rfl:g=j:=by simpa[Value.ownBlock] using ej
  rw[hgb]at hj;cases hj;rfl
theorem OrI.kp {w W W1:World} {v vo vo':Value} {b9 bq k km:Nat} {S:List Sc} (h:OrI w v b9 bq S k km vo W) (hg:W.grownBy W1 vo.ownBlock):KpO w.heap.size W (W1.setCell ⟨b9,0,none⟩ vo'):=by
 refine⟨by have:=hg.size;simpa using this,fun b C T fr hb hc=>?_⟩;have hz:=h.z;rw[Below.heap_setCell _ _ _ _ (by show b≠b9;omega),hg.block b (Array.getElem?_eq_some_iff.1 hc).1 (fun q=>by have:=(h.o.lt _ q.symm).1;omega)];exact hc
theorem zkt {S:List Sc} {k:Nat} (hk:k<(preS S).length):parS S (preS S)[k]= -1∨(0≤parS S (preS S)[k]∧(parS S (preS S)[k]).toNat∈(preS S).take (k+1)):=by
 have hsp:preS S=(preS S).take k++(preS S)[k]::(preS S).drop (k+1):=by rw[←List.drop_eq_getElem_cons hk,List.take_append_drop]
 rcases zkX _ _ _ _ _ hsp with h|⟨y,hy,h⟩
 ·exact .inl h
 ·rw[h];refine .inr ⟨by omega,?_⟩;rw[Int.toNat_natCast,List.take_succ_eq_append_getElem hk];exact List.mem_append_left _ hy
end Go.Proofs.YtbiadennhnokhaaGreatDoor
