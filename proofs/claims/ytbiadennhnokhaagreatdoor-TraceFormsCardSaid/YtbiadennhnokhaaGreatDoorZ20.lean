import Derived.Test.YtbiadennhnokhaaGreatDoorZ00
import Derived.Test.YtbiadennhnokhaaGreatDoorZ17
set_option maxRecDepth 100000
set_option maxHeartbeats 16000000
namespace Go.Proofs.YtbiadennhnokhaaGreatDoor
open Go.RowKit
set_option linter.unusedSimpArgs false
theorem zlx (v1 v2 v3 v4:Value) (A B:List Sc) (C D:List Vr) (w:World) (h1:SlR w v1 A.length (scs A)) (h2:SlR w v2 B.length (scs B)) (h3:SlR w v3 C.length (vrs C)) (h4:SlR w v4 D.length (vrs D)):
 Calls Tryz.prog 71 #[v1,v2,v3,v4] w fun e w'=>e=.returned (.bool (decide (A=B)&&decide (C=D)))∧Below w.heap.size w w':=by
 obtain⟨a1,c1,rfl,n1,m1⟩:=h1.shape;obtain⟨a2,c2,rfl,n2,m2⟩:=h2.shape;obtain⟨a3,c3,rfl,n3,m3⟩:=h3.shape;obtain⟨a4,c4,rfl,n4,m4⟩:=h4.shape;unfold maxLen at m1 m2 m3 m4;have H1:=lhd h1;have H2:=lhd h2;have H3:=lhd h3;have H4:=lhd h4;clear h1 h2 h3 h4;obtain⟨R,hR⟩:∃R,R=(decide (A=B)&&decide (C=D)):=⟨_,rfl⟩;rw[←hR];by_cases hne:A.length=B.length
 rotate_left
 ·have HR:=lhd (show R=false by rw[hR,decide_eq_false (show ¬A=B from fun h=>hne (by rw[h])),Bool.false_and]);have hb:((A.length:Int) !=(B.length:Int))=true:=by rw[bne_iff_ne];omega
  clear hne hR;go_enter Tryz.func71,Tryz.ntmps71;go_wp2_with fail;go_ret;exact⟨zli HR.out.symm,Below.refl _ _⟩
 have hb:((A.length:Int) !=(B.length:Int))=false:=by rw[hne];simp
 by_cases hne2:C.length=D.length
 rotate_left
 ·have HR:=lhd (show R=false by rw[hR,decide_eq_false (show ¬C=D from fun h=>hne2 (by rw[h])),Bool.and_false]);have hb2:((C.length:Int) !=(D.length:Int))=true:=by rw[bne_iff_ne];omega
  clear hne2 hR;go_enter Tryz.func71,Tryz.ntmps71;go_wp2_with fail;go_ret;exact⟨zli HR.out.symm,Below.refl _ _⟩
 have hb2:((C.length:Int) !=(D.length:Int))=false:=by rw[hne2];simp
 have HRR:=lhd hR;clear hR;go_enter Tryz.func71,Tryz.ntmps71;go_wp2_with fail;go_loopw [9] (fun i wr=>∃(j:Nat),j≤A.length∧i=.int .i64 j∧A.take j=B.take j∧Below w.heap.size w wr) (fun i _=>A.length-(intOf i).toNat)
 case atStart=>exact⟨0,Nat.zero_le _,rfl,rfl,Below.refl _ _⟩
 case round=>
  obtain⟨j,hj,rfl,hgo,hbw⟩:=hrel;have HGO:=lhd hgo;have HB:=lhd hbw;clear hgo hbw;by_cases hlt:j<A.length
  ·have hlt2:j<B.length:=by omega
   obtain⟨b,o,rfl,hc⟩:=(H1.out.below HB.out).scs hlt;obtain⟨b2,o2,rfl,hd⟩:=(H2.out.below HB.out).scs hlt2;have d0:wr.cell? ⟨b,o+j*3,none⟩=some (.string (bsB A[j].1)):=hc 0 _ rfl;have d1:wr.cell? ⟨b,o+j*3+1,none⟩=some (.int .i64 A[j].2.1):=hc 1 _ rfl;have d2:wr.cell? ⟨b,o+j*3+2,none⟩=some (.int .i64 A[j].2.2):=hc 2 _ rfl;have g0:wr.cell? ⟨b2,o2+j*3,none⟩=some (.string (bsB B[j].1)):=hd 0 _ rfl;have g1:wr.cell? ⟨b2,o2+j*3+1,none⟩=some (.int .i64 B[j].2.1):=hd 1 _ rfl;have g2:wr.cell? ⟨b2,o2+j*3+2,none⟩=some (.int .i64 B[j].2.2):=hd 2 _ rfl;have hw:IntKind.i64.wrap ((j:Int)+1)=(j:Int)+1:=IntWalk.i64_in _ (by omega);clear hc hd;by_cases he:A[j]=B[j]
   ·have HGO2:Hid (A.take (j+1)=B.take (j+1)):=lhd (by rw[List.take_succ_eq_append_getElem hlt,List.take_succ_eq_append_getElem hlt2,HGO.out,he]);rw[←he]at g0 g1 g2;generalize A[j]=c at d0 d1 d2 g0 g1 g2;clear he HGO;obtain⟨x,y,z⟩:=c;dsimp only at d0 d1 d2 g0 g1 g2;go_wp2_with fail;go_quiet (fail);go_wp2_with fail;go_roundw;case rel=>exact⟨j+1,by omega,by go_num,HGO2.out,za6 HB.out _⟩
    case measure=>simp[intOf];omega
   ·have HR:=lhd (show R=false by rw[HRR.out,decide_eq_false (show ¬A=B from fun h=>he (by subst h;rfl)),Bool.false_and]);generalize A[j]=c at d0 d1 d2 he;generalize B[j]=c' at g0 g1 g2 he;clear HGO;obtain⟨x,y,z⟩:=c;obtain⟨x',y',z'⟩:=c';dsimp only at d0 d1 d2 g0 g1 g2;by_cases hx:x=x'
    ·subst hx;by_cases hy:y=y'
     ·subst hy;have hz:(z==z')=false:=by rw[beq_eq_false_iff_ne];exact fun h=>he (by rw[h])
      clear he;go_wp2_with fail;go_quiet (fail);go_wp2_with fail;go_ret;exact⟨zli HR.out.symm,za6 HB.out _⟩
     ·have hyb:(y==y')=false:=by rw[beq_eq_false_iff_ne];exact hy
      clear he;go_wp2_with fail;go_quiet (fail);go_wp2_with fail;go_ret;exact⟨zli HR.out.symm,za6 HB.out _⟩
    ·have hxb:=za1 (zbv hx);clear he;go_wp2_with fail;go_quiet (fail);go_wp2_with fail;go_ret;exact⟨zli HR.out.symm,za6 HB.out _⟩
  ·obtain rfl:j=A.length:=by omega
   have HAB:=lhd (show A=B by have:=HGO.out;rwa [List.take_length,hne,List.take_length]at this);have HB0:=HB;clear HGO hlt hj HB;go_wp2_with fail;go_loopw [10] (fun i wr=>∃(j:Nat),j≤C.length∧i=.int .i64 j∧C.take j=D.take j∧Below w.heap.size w wr) (fun i _=>C.length-(intOf i).toNat)
   case atStart=>exact⟨0,Nat.zero_le _,rfl,rfl,HB0.out⟩
   case round=>
    clear HB0;obtain⟨j,hj,rfl,hgo,hbw⟩:=hrel;have HGO:=lhd hgo;have HB:=lhd hbw;clear hgo hbw;by_cases hlt:j<C.length
    ·have hlt2:j<D.length:=by omega
     obtain⟨b,o,rfl,hc⟩:=(H3.out.below HB.out).vrs hlt;obtain⟨b2,o2,rfl,hd⟩:=(H4.out.below HB.out).vrs hlt2;have d0:wr.cell? ⟨b,o+j*7,none⟩=some (.string (bsB C[j].nm)):=hc 0 _ rfl;have d1:wr.cell? ⟨b,o+j*7+1,none⟩=some (.int .i64 C[j].ty):=hc 1 _ rfl;have d2:wr.cell? ⟨b,o+j*7+2,none⟩=some (.int .i64 C[j].sc):=hc 2 _ rfl;have d3:wr.cell? ⟨b,o+j*7+3,none⟩=some (.int .i64 C[j].sg):=hc 3 _ rfl;have d4:wr.cell? ⟨b,o+j*7+4,none⟩=some (.bool C[j].rg):=hc 4 _ rfl;have d5:wr.cell? ⟨b,o+j*7+5,none⟩=some (.int .i64 C[j].mb):=hc 5 _ rfl;have d6:wr.cell? ⟨b,o+j*7+6,none⟩=some (.int .i64 C[j].lb):=hc 6 _ rfl;have g0:wr.cell? ⟨b2,o2+j*7,none⟩=some (.string (bsB D[j].nm)):=hd 0 _ rfl;have g1:wr.cell? ⟨b2,o2+j*7+1,none⟩=some (.int .i64 D[j].ty):=hd 1 _ rfl;have g2:wr.cell? ⟨b2,o2+j*7+2,none⟩=some (.int .i64 D[j].sc):=hd 2 _ rfl;have g3:wr.cell? ⟨b2,o2+j*7+3,none⟩=some (.int .i64 D[j].sg):=hd 3 _ rfl;have g4:wr.cell? ⟨b2,o2+j*7+4,none⟩=some (.bool D[j].rg):=hd 4 _ rfl;have g5:wr.cell? ⟨b2,o2+j*7+5,none⟩=some (.int .i64 D[j].mb):=hd 5 _ rfl;have g6:wr.cell? ⟨b2,o2+j*7+6,none⟩=some (.int .i64 D[j].lb):=hd 6 _ rfl;have hw:IntKind.i64.wrap ((j:Int)+1)=(j:Int)+1:=IntWalk.i64_in _ (by omega);clear hc hd;by_cases he:C[j]=D[j]
     ·have HGO2:Hid (C.take (j+1)=D.take (j+1)):=lhd (by rw[List.take_succ_eq_append_getElem hlt,List.take_succ_eq_append_getElem hlt2,HGO.out,he]);rw[←he]at g0 g1 g2 g3 g4 g5 g6;generalize C[j]=c at d0 d1 d2 d3 d4 d5 d6 g0 g1 g2 g3 g4 g5 g6;clear he HGO;obtain⟨x0,x1,x2,x3,x4,x5,x6⟩:=c;dsimp only at d0 d1 d2 d3 d4 d5 d6 g0 g1 g2 g3 g4 g5 g6;go_wp2_with fail;go_quiet (fail);go_wp2_with fail;go_roundw;case rel=>exact⟨j+1,by omega,by go_num,HGO2.out,za6 HB.out _⟩
      case measure=>simp[intOf];omega
     ·have HR:=lhd (show R=false by rw[HRR.out,decide_eq_false (show ¬C=D from fun h=>he (by subst h;rfl)),Bool.and_false]);generalize C[j]=c at d0 d1 d2 d3 d4 d5 d6 he;generalize D[j]=c' at g0 g1 g2 g3 g4 g5 g6 he;clear HGO;obtain⟨x0,x1,x2,x3,x4,x5,x6⟩:=c;obtain⟨y0,y1,y2,y3,y4,y5,y6⟩:=c';dsimp only at d0 d1 d2 d3 d4 d5 d6 g0 g1 g2 g3 g4 g5 g6;by_cases e0:x0=y0
      rotate_left
      ·have hxb:=za1 (zbv e0);clear he;go_wp2_with fail;go_quiet (fail);go_wp2_with fail;go_ret;exact⟨zli HR.out.symm,za6 HB.out _⟩
      subst e0;by_cases e1:x1=y1
      rotate_left
      ·have hyb:(x1==y1)=false:=by rw[beq_eq_false_iff_ne];exact e1
       clear he;go_wp2_with fail;go_quiet (fail);go_wp2_with fail;go_ret;exact⟨zli HR.out.symm,za6 HB.out _⟩
      subst e1;by_cases e2:x2=y2
      rotate_left
      ·have hyb:(x2==y2)=false:=by rw[beq_eq_false_iff_ne];exact e2
       clear he;go_wp2_with fail;go_quiet (fail);go_wp2_with fail;go_ret;exact⟨zli HR.out.symm,za6 HB.out _⟩
      subst e2;by_cases e3:x3=y3
      rotate_left
      ·have hyb:(x3==y3)=false:=by rw[beq_eq_false_iff_ne];exact e3
       clear he;go_wp2_with fail;go_quiet (fail);go_wp2_with fail;go_ret;exact⟨zli HR.out.symm,za6 HB.out _⟩
      subst e3;by_cases e4:x4=y4
      rotate_left
      ·have hyb:(x4==y4)=false:=by rw[beq_eq_false_iff_ne];exact e4
       clear he;go_wp2_with fail;go_quiet (fail);go_wp2_with fail;go_ret;exact⟨zli HR.out.symm,za6 HB.out _⟩
      subst e4;by_cases e5:x5=y5
      rotate_left
      ·have hyb:(x5==y5)=false:=by rw[beq_eq_false_iff_ne];exact e5
       clear he;go_wp2_with fail;go_quiet (fail);go_wp2_with fail;go_ret;exact⟨zli HR.out.symm,za6 HB.out _⟩
      subst e5;have hyb:(x6==y6)=false:=by rw[beq_eq_false_iff_ne];exact fun h=>he (by rw[h])
      clear he;go_wp2_with fail;go_quiet (fail);go_wp2_with fail;go_ret;exact⟨zli HR.out.symm,za6 HB.out _⟩
    ·obtain rfl:j=C.length:=by omega
     have HR:=lhd (show R=true by
      have:=HGO.out;rw[List.take_length,hne2,List.take_length]at this;rw[HRR.out,decide_eq_true HAB.out,decide_eq_true this];rfl)
     go_wp2_with fail;go_ret;exact⟨zli HR.out.symm,HB.out⟩
theorem zgp {l:List Int} {x:Int} (h:x∈l):ixI l x=(l.idxOf x:Int):=by unfold ixI;rw[if_pos h]
theorem zgr {l:List Int} {x:Int} (h:x∉l):ixI l x= -1:=by unfold ixI;rw[if_neg h]
theorem zgs {l:List Int} {x:Int} (h:x∉l):ixI (l++ [x]) x=(l.length:Int):=by
 rw[zgp (by simp),List.idxOf_append,if_neg h,List.idxOf_cons_self];omega
theorem zfM:∀(l:List Nat) (n:Nat),(l.map fun i:Nat=>(i:Int)).idxOf (n:Int)=l.idxOf n
 | [],_=>rfl
 |a::l,n=>by
  rw[List.map_cons,List.idxOf_cons,List.idxOf_cons,zfM l n];have e:((a:Int)==(n:Int))=(a==n):=by rw[Bool.eq_iff_iff,beq_iff_eq,beq_iff_eq];omega
  rw[e]
theorem zir {l:List Vr} {x:Vr} (h:x.sg∈(numF [] l).2):numF [] (l++ [x])=((numF [] l).1++ [{x with sg:=((numF [] l).2.idxOf x.sg:Int)}],(numF [] l).2):=by
 rw[zim,zin (by simpa using h)];rfl
theorem zis {l:List Vr} {x:Vr} (h:x.sg∉(numF [] l).2):numF [] (l++ [x])=((numF [] l).1++ [{x with sg:=((numF [] l).2.length:Int)}],(numF [] l).2++ [x.sg]):=by
 rw[zim,ziq (by simpa using h)];rfl
def blkL (S:List Sc) (V:List Vr) (i:Int) (m:Nat):List Vr:=((V.take m).filter fun v=>decide (v.sc=zjc (preS S) i)).map fun v=>{v with sc:=i}
theorem zbl (S:List Sc) (V:List Vr) (i:Int):blkL S V i 0=[]:=by simp[blkL]
theorem zbk {S:List Sc} {V:List Vr} {i:Int} {m:Nat} (hm:m<V.length) (h:V[m].sc=zjc (preS S) i):blkL S V i (m+1)=blkL S V i m++ [{V[m]with sc:=i}]:=by
 unfold blkL;rw[List.take_succ_eq_append_getElem hm,List.filter_append,List.map_append];simp[h]
theorem zbj {S:List Sc} {V:List Vr} {i:Int} {m:Nat} (hm:m<V.length) (h:V[m].sc≠zjc (preS S) i):blkL S V i (m+1)=blkL S V i m:=by
 unfold blkL;rw[List.take_succ_eq_append_getElem hm,List.filter_append,List.map_append];simp[h]
def allL (S:List Sc) (V:List Vr) (k:Nat):List Vr:=((rgm S.length).take k).flatMap fun i=>blkL S V i V.length
theorem zaJ (S:List Sc) (V:List Vr):allL S V 0=[]:=by simp[allL]
theorem zl4 (n:Nat):(rgm n).length=n+1:=by simp[rgm,rgI]
theorem zl2 {n k:Nat} (h:k<(rgm n).length):(rgm n)[k]=(k:Int)-1:=by
 cases k with
 |zero=>rfl
 |succ k=>
  have e:(rgm n)[k+1]? =some (k:Int):=by
   rw[zl4]at h;unfold rgm rgI;rw[List.getElem?_cons_succ,List.getElem?_map,List.getElem?_range (by omega)];rfl
  rw[List.getElem?_eq_getElem h]at e;have:=Option.some.inj e;rw[this];omega
theorem zaI {S:List Sc} {V:List Vr} {k:Nat} (h:k<S.length+1):allL S V (k+1)=allL S V k++blkL S V ((k:Int)-1) V.length:=by
 unfold allL;have hl:k<(rgm S.length).length:=by rw[zl4];exact h
 rw[List.take_succ_eq_append_getElem hl,List.flatMap_append,zl2 hl];simp
theorem zaG {S:List Sc} {V:List Vr} (hF:Fst (parS S) S.length) (hV:∀v∈V,-1≤v.sc∧v.sc<(S.length:Int)):allL S V (S.length+1)=vr2 S V:=by
 unfold allL;rw[List.take_of_length_le (by rw[zl4];omega),zqg hF hV];congr 1
 funext i
 unfold blkL;rw[List.take_length]
theorem zme {S:List Sc} (hF:Fst (parS S) S.length) {k:Nat} (hk:k<S.length):∃i,∃hi:i<S.length,(preS S)[k]? =some i∧(scF S)[k]? =some (S[i].1,S[i].2.1,pos (preS S) S[i].2.2):=by
 have h1:k<(preS S).length:=by rw[zke hF];exact hk
 have h2:(preS S)[k]<S.length:=(zkf hF).1 (List.getElem_mem h1);refine⟨(preS S)[k],h2,List.getElem?_eq_getElem h1,?_⟩;unfold scF;rw[List.getElem?_map,List.getElem?_eq_getElem h1,Option.map_some];have e:S.getD (preS S)[k] ([],0,0)=S[(preS S)[k]]:=by simp[List.getD,List.getElem?_eq_getElem h2]
 rw[e,zjL h2]
theorem zjZ {S:List Sc} (hF:Fst (parS S) S.length) {i:Nat} (hi:i<S.length) (h0:0≤S[i].2.2):ixI ((preS S).map fun i:Nat=>(i:Int)) S[i].2.2=pos (preS S) S[i].2.2:=by
 have h:=hF i hi;rw[zjL hi]at h;obtain⟨p,hp⟩:∃p:Nat,S[i].2.2=(p:Int):=⟨S[i].2.2.toNat,by omega⟩;rw[hp]at h⊢;have hm:p∈preS S:=(zkf hF).2 (by omega);rw[zgp (List.mem_map.2 ⟨p,hm,rfl⟩),zfM];unfold pos;rw[if_neg (by omega),Int.toNat_natCast]
theorem zj1 {S:List Sc} {p:Int} (h:p<0):pos (preS S) p=p:=by unfold pos;rw[if_pos h]
theorem zio:∀(l:List Vr) (fm:List Int),(numF fm l).1.length=l.length∧(numF fm l).2.length≤fm.length+l.length
 | [],fm=>⟨rfl,Nat.le_refl _⟩
 |v::l,fm=>by
  by_cases hc:fm.contains v.sg=true
  ·rw[zin hc];have:=zio l fm;simp;omega
  ·rw[ziq hc];have:=zio l (fm++ [v.sg]);simp at this⊢;omega
theorem zaH {S:List Sc} {V:List Vr} (hF:Fst (parS S) S.length) (hV:∀v∈V,-1≤v.sc∧v.sc<(S.length:Int)) {k:Nat} (hk:k≤S.length) (m:Nat):(allL S V k++blkL S V ((k:Int)-1) m).length≤V.length:=by
 have h1:(allL S V (S.length+1)).length=V.length:=by
  rw[zaG hF hV];unfold vr2 vr1;rw[zgi,List.length_map]
 have h2:allL S V (S.length+1)=allL S V (k+1)++((rgm S.length).drop (k+1)).flatMap fun i=>blkL S V i V.length:=by
  unfold allL;rw[List.take_of_length_le (by rw[zl4];omega),←List.flatMap_append,List.take_append_drop]
 have h3:(blkL S V ((k:Int)-1) m).length≤(blkL S V ((k:Int)-1) V.length).length:=by
  unfold blkL;rw[List.length_map,List.length_map,List.take_length];exact List.Sublist.length_le ((List.take_sublist m V).filter _)
 rw[h2,zaI (by omega),List.length_append,List.length_append]at h1;rw[List.length_append];omega
end Go.Proofs.YtbiadennhnokhaaGreatDoor
