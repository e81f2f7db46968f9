import Derived.Test.YtbiadennhnokhaaGreatDoorZ00
import Derived.Test.YtbiadennhnokhaaGreatDoorZ29
set_option maxRecDepth 100000
set_option maxHeartbeats 16000000
namespace Go.Proofs.YtbiadennhnokhaaGreatDoor
open Go.RowKit
def zsq (c:Int):Int→List Sg→Bool
 |_,[]=>true
 |a,x::L=>if c<a+x.2.2.length then false else if few x.2.2 c=false then false else zsq c (a+x.2.2.length) L
def zso (L:List Sg) (n c:Int):Bool:=zsq c 0 L&&decide ((L.length:Int)≤n)
theorem zsr {c:Int}:∀{L:List Sg} {a:Int},zsq c a L=true→∀x∈L,few x.2.2 c=true
 | [],_,_,x,h=>by cases h
 |y::L,a,h,x,hx=>by
  unfold zsq at h;split at h
  ·cases h
  ·split at h
   ·cases h
   ·rename_i h1
    rcases List.mem_cons.1 hx with rfl|hx
    ·simpa using h1
    ·exact zsr h x hx
theorem zsp {L:List (Sg×Value)} {n:Int} (h:zso (L.map Prod.fst) n 80=true) (hn:n≤8):FitS L∧(L.length:Int)≤n∧∀x∈L,x.1.2.2.length≤80:=by
 unfold zso at h;rw[Bool.and_eq_true,decide_eq_true_iff,List.length_map]at h;obtain⟨h1,h2⟩:=h;have ha:∀x∈L,few x.1.2.2 80=true:=fun x hx=>zsr h1 x.1 (List.mem_map_of_mem hx)
 have hb:∀x∈L,Fit x.1.2.2∧x.1.2.2.length≤80:=fun x hx=>by
  have:=ha x hx;unfold few fewV at this;rw[Bool.and_eq_true,decide_eq_true_iff,List.all_eq_true]at this;refine⟨⟨by omega,fun c hc=>?_⟩,by omega⟩;have:=this.1 c hc;rw[decide_eq_true_iff]at this;omega
 exact⟨⟨by omega,fun x hx=>(hb x hx).1⟩,h2,fun x hx=>(hb x hx).2⟩
theorem ztA (v:Value) (L:List (Sg×Value)) (n c:Int) (w:World) (hs:Sigs w v L) (hc0:0≤c) (hc1:c≤1000000):
 Calls Tryz.prog 38 #[v,.int .i64 n,.int .i64 c] w fun e w'=>e=.returned (.bool (zso (L.map Prod.fst) n c))∧w'=w:=by
 obtain⟨a,cap,rfl,hc,hm⟩:=hs.s.shape;unfold maxLen at hm;have HS:=lhd hs;clear hs;go_enter Tryz.func38,Tryz.ntmps38;go_wp2_with fail
 go_loopw [7,8] (fun s_ i wr=>∃(j:Nat) (s:Int),j≤L.length∧i=.int .i64 j∧s_=.int .i64 s∧0≤s∧s≤c∧zsq c s ((L.drop j).map Prod.fst)=zsq c 0 (L.map Prod.fst)∧wr=w)
  (fun _ i _=>L.length-(intOf i).toNat)
 case atStart=>exact⟨0,0,Nat.zero_le _,rfl,rfl,Int.le_refl _,hc0,rfl,rfl⟩
 case round=>
  obtain⟨j,s,hj,rfl,rfl,hs0,hs1,hgo,rfl⟩:=hrel;have HGO:=lhd hgo;clear hgo;by_cases hlt:j<L.length
  ·obtain⟨b,o,rfl,y0,y1,y2,hd⟩:=HS.out.at hlt
   have HGO2:=lhd (show zsq c s (L[j].1::(L.drop (j+1)).map Prod.fst)=zsq c 0 (L.map Prod.fst)by
    rw[←HGO.out,List.drop_eq_getElem_cons hlt];rfl)
   generalize L[j]=x at y0 y1 y2 hd HGO2;obtain⟨⟨xk,xn,xl⟩,xv⟩:=x;dsimp only at y0 y1 y2 hd HGO2;obtain⟨xa,xc,rfl,hcx,hmx⟩:=hd.shape;unfold maxLen at hmx;have HD:=lhd hd;have hw1:IntKind.i64.wrap ((j:Int)+1)=(j:Int)+1:=IntWalk.i64_in _ (by omega);clear hd;by_cases h1:c<s+xl.length
   ·have HR:=lhd (show false=zso (L.map Prod.fst) n c by unfold zso;rw[←HGO2.out];unfold zsq;rw[if_pos h1];rfl);by_cases hov:s+(xl.length:Int)≤9223372036854775807
    ·have hw:IntKind.i64.wrap (s+(xl.length:Int))=s+xl.length:=IntWalk.i64_in _ (by omega);have hb1:decide (c<s+(xl.length:Int))=true:=by rw[decide_eq_true_iff];exact h1
     clear h1 hov;go_wp2_with fail;go_ret;exact⟨zli HR.out,rfl⟩
    ·have hw:IntKind.i64.wrap (s+(xl.length:Int))=s+xl.length-18446744073709551616:=by rw[IntKind.wrap_i64];omega
     have hb1:decide (c<s+(xl.length:Int)-18446744073709551616)=false:=by rw[decide_eq_false_iff_not];omega
     have hfw:few xl c=false:=by
      unfold few;rw[decide_eq_false (show ¬(xl.length:Int)≤c by omega),Bool.and_false]
     clear h1 hov;go_wp2_with fail;refine(zkS _ xl c _ HD.out).mono ?_;rw[hfw];rintro e w2 ⟨rfl,rfl⟩;go_wp2_with fail;go_ret;exact⟨zli HR.out,rfl⟩
   ·have hw:IntKind.i64.wrap (s+(xl.length:Int))=s+xl.length:=IntWalk.i64_in _ (by omega);have hb1:decide (c<s+(xl.length:Int))=false:=by rw[decide_eq_false_iff_not];exact h1
    have HGO3:=lhd (show(if few xl c=false then false else zsq c (s+xl.length) ((L.drop (j+1)).map Prod.fst))=_ from((show zsq c s ((xk,xn,xl)::(L.drop (j+1)).map Prod.fst)=_ by rw[zsq];exact if_neg h1).symm.trans HGO2.out));have hs2:s+xl.length≤c:=by omega
    clear h1;go_wp2_with fail;refine(zkS _ xl c _ HD.out).mono ?_;rintro e w2 ⟨rfl,rfl⟩;cases hfw:few xl c
    ·have HR:=lhd (show false=zso (L.map Prod.fst) n c by unfold zso;rw[←HGO3.out,if_pos hfw];rfl);clear hfw;go_wp2_with fail;go_ret;exact⟨zli HR.out,rfl⟩
    ·have HGO4:=lhd (show zsq c (s+xl.length) ((L.drop (j+1)).map Prod.fst)=_ from(if_neg (by rw[hfw];simp)).symm.trans HGO3.out);clear hfw;go_wp2_with fail;go_roundw;case rel=>exact⟨j+1,s+xl.length,by omega,by go_num,rfl,by omega,hs2,HGO4.out,trivial⟩
     case measure=>simp[intOf];omega
  ·obtain rfl:j=L.length:=by omega
   have HR:=lhd (show decide ((L.length:Int)≤n)=zso (L.map Prod.fst) n c by
    unfold zso;rw[←HGO.out,List.drop_length,List.length_map];simp[zsq])
   go_wp2_with fail;go_ret;exact⟨zli HR.out,rfl⟩
theorem zrY {w:World} {a:Option Addr} {cap:Nat} {l:List Dv} (h:SlR w (.slice a l.length cap) l.length (dvs l)) {j:Nat} (hj:j<l.length):
 ∃b o,a=some ⟨b,o,none⟩∧w.cell? ⟨b,o+j*3,none⟩=some (.int .i64 l[j].1)∧w.cell? ⟨b,o+j*3+1,none⟩=some (.int .i64 l[j].2.1)∧w.cell? ⟨b,o+j*3+2,none⟩=some (.bool l[j].2.2):=by
 obtain⟨b,o,cap',hv,-,-,hcell⟩:=h.at (by omega);injection hv with e1 _ _;obtain⟨h0,h1,h2⟩:=zr1 l j hj;refine⟨b,o,e1,?_,?_,?_⟩
 ·have:=hcell _ _ h0;rwa [Nat.mul_comm 3 j]at this
 ·have:=hcell _ _ h1;rwa [Nat.mul_comm 3 j,←Nat.add_assoc]at this
 ·have:=hcell _ _ h2;rwa [Nat.mul_comm 3 j,←Nat.add_assoc]at this
theorem ztB (v u:Value) (l m:List Dv) (w:World) (hs:SlR w v l.length (dvs l)) (ht:SlR w u m.length (dvs m)):
 Calls Tryz.prog 101 #[v,u] w fun e w'=>e=.returned (.bool (decide (l=m)))∧Below w.heap.size w w':=by
 obtain⟨a,cap,rfl,hc,hm⟩:=hs.shape;obtain⟨a2,cap2,rfl,hc2,hm2⟩:=ht.shape;unfold maxLen at hm hm2;have HS:=lhd hs;have HT:=lhd ht;clear hs ht;by_cases hne:l.length≠m.length
 ·have E:=lhd (show decide (l=m)=false by rw[decide_eq_false_iff_not];intro h;exact hne (by rw[h]));have hb:((l.length:Int) !=(m.length:Int))=true:=by rw[bne_iff_ne];omega
  clear hne;go_enter Tryz.func101,Tryz.ntmps101;go_wp2_with fail;go_ret;exact⟨zli E.out.symm,Below.refl _ _⟩
 have hlen:l.length=m.length:=by omega
 have hb:((l.length:Int) !=(m.length:Int))=false:=by rw[hlen];simp
 clear hne;go_enter Tryz.func101,Tryz.ntmps101;go_wp2_with fail
 go_loopw [5] (fun i wr=>∃(j:Nat),j≤l.length∧i=.int .i64 j∧l.take j=m.take j∧Below w.heap.size w wr)
  (fun i _=>l.length-(intOf i).toNat)
 case atStart=>exact⟨0,Nat.zero_le _,rfl,rfl,Below.refl _ _⟩
 case round=>
  obtain⟨j,hj,rfl,hgo,hbw⟩:=hrel;have HGO:=lhd hgo;have HB:=lhd hbw;clear hgo hbw;by_cases hlt:j<l.length
  ·have hlt2:j<m.length:=by omega
   obtain⟨b,o,rfl,d0,d1,d2⟩:=zrY (HS.out.below HB.out) hlt;obtain⟨b2,o2,rfl,g0,g1,g2⟩:=zrY (HT.out.below HB.out) hlt2;have hw:IntKind.i64.wrap ((j:Int)+1)=(j:Int)+1:=IntWalk.i64_in _ (by omega);by_cases he:l[j]=m[j]
   ·have HGO2:Hid (l.take (j+1)=m.take (j+1)):=lhd (by rw[List.take_succ_eq_append_getElem hlt,List.take_succ_eq_append_getElem hlt2,HGO.out,he]);rw[←he]at g0 g1 g2;generalize l[j]=c at d0 d1 d2 g0 g1 g2;clear he;obtain⟨x,y,z⟩:=c;dsimp only at d0 d1 d2 g0 g1 g2;go_wp2_with fail;go_quiet (fail);go_wp2_with fail;go_roundw;case rel=>exact⟨j+1,by omega,by go_num,HGO2.out,za6 HB.out _⟩
    case measure=>simp[intOf];omega
   ·have E2:=lhd (show decide (l=m)=false by rw[decide_eq_false_iff_not];intro h;subst h;exact he rfl);generalize l[j]=c at d0 d1 d2 he;generalize m[j]=c' at g0 g1 g2 he;obtain⟨x,y,z⟩:=c;obtain⟨x',y',z'⟩:=c';dsimp only at d0 d1 d2 g0 g1 g2;by_cases hx:x=x'
    ·subst hx;by_cases hy:y=y'
     ·subst hy;have hz:(z==z')=false:=by rw[beq_eq_false_iff_ne];exact fun h=>he (by rw[h])
      clear he;go_wp2_with fail;go_quiet (fail);go_wp2_with fail;go_ret;exact⟨zli E2.out.symm,za6 HB.out _⟩
     ·have hyb:(y==y')=false:=by rw[beq_eq_false_iff_ne];exact hy
      clear he;go_wp2_with fail;go_quiet (fail);go_wp2_with fail;go_ret;exact⟨zli E2.out.symm,za6 HB.out _⟩
    ·have hxb:(x==x')=false:=by rw[beq_eq_false_iff_ne];exact hx
     clear he;go_wp2_with fail;go_quiet (fail);go_wp2_with fail;go_ret;exact⟨zli E2.out.symm,za6 HB.out _⟩
  ·obtain rfl:j=l.length:=by omega
   have E2:=lhd (show decide (l=m)=true by rw[decide_eq_true_iff];have:=HGO.out;rwa [List.take_length,hlen,List.take_length]at this);go_wp2_with fail;go_ret;exact⟨zli E2.out.symm,HB.out⟩
theorem ztC (v u:Value) (L M:List (Sg×Value)) (w:World) (hs:Sigs w v L) (ht:Sigs w u M):
 Calls Tryz.prog 102 #[v,u] w fun e w'=>e=.returned (.bool (decide (L.map Prod.fst=M.map Prod.fst)))∧Below w.heap.size w w':=by
 obtain⟨a,cap,rfl,hc,hm⟩:=hs.s.shape;obtain⟨a2,cap2,rfl,hc2,hm2⟩:=ht.s.shape;unfold maxLen at hm hm2;have HS:=lhd hs;have HT:=lhd ht;clear hs ht;by_cases hne:L.length≠M.length
 ·have E:=lhd (show decide (L.map Prod.fst=M.map Prod.fst)=false by rw[decide_eq_false_iff_not];intro h;exact hne (by have:=congrArg List.length h;simpa using this));have hb:((L.length:Int) !=(M.length:Int))=true:=by rw[bne_iff_ne];omega
  clear hne;go_enter Tryz.func102,Tryz.ntmps102;go_wp2_with fail;go_ret;exact⟨zli E.out.symm,Below.refl _ _⟩
 have HLEN:=lhd (show L.length=M.length by omega);have hb:((L.length:Int) !=(M.length:Int))=false:=by rw[HLEN.out];simp
 clear hne;go_enter Tryz.func102,Tryz.ntmps102;go_wp2_with fail
 go_loopw [5] (fun i wr=>∃(j:Nat),j≤L.length∧i=.int .i64 j∧(L.take j).map Prod.fst=(M.take j).map Prod.fst∧Below w.heap.size w wr)
  (fun i _=>L.length-(intOf i).toNat)
 case atStart=>exact⟨0,Nat.zero_le _,rfl,rfl,Below.refl _ _⟩
 case round=>
  obtain⟨j,hj,rfl,hgo,hbw⟩:=hrel;have HGO:=lhd hgo;have HB:=lhd hbw;clear hgo hbw;by_cases hlt:j<L.length
  ·have hlt2:j<M.length:=by have:=HLEN.out;omega
   obtain⟨b,o,rfl,d0,d1,d2,hd⟩:=(HS.out.below HB.out).at hlt;obtain⟨b2,o2,rfl,g0,g1,g2,hg⟩:=(HT.out.below HB.out).at hlt2;have hw:IntKind.i64.wrap ((j:Int)+1)=(j:Int)+1:=IntWalk.i64_in _ (by omega)
   have HE:=lhd (show L[j].1=M[j].1→(L.take (j+1)).map Prod.fst=(M.take (j+1)).map Prod.fst from fun h=>by
    rw[List.take_succ_eq_append_getElem hlt,List.take_succ_eq_append_getElem hlt2,List.map_append,List.map_append,HGO.out];simp[h])
   have HN:=lhd (show L[j].1≠M[j].1→decide (L.map Prod.fst=M.map Prod.fst)=false from fun h=>by
    rw[decide_eq_false_iff_not];intro h2;have h3:=congrArg (fun l=>l[j]?) h2;simp[hlt,hlt2]at h3;exact h h3)
   generalize L[j]=x at d0 d1 d2 hd HE HN;generalize M[j]=y at g0 g1 g2 hg HE HN;obtain⟨⟨xk,xn,xl⟩,xv⟩:=x;obtain⟨⟨yk,yn,yl⟩,yv⟩:=y;dsimp only at d0 d1 d2 hd g0 g1 g2 hg HE HN;obtain⟨xa,xc,rfl,-,-⟩:=hd.shape;obtain⟨ya,yc,rfl,-,-⟩:=hg.shape;have HQ:=lhd (fun W hW=>zkR xk xn yk yn (.slice xa xl.length xc) (.slice ya yl.length yc) xl yl W (hd.below hW) (hg.below hW));clear hd hg;go_upto_region 6 with fail
   go_region_held3 (fun w'=>w'.cell? ⟨b,o+j*3,none⟩=some (.int .i64 xk)∧w'.cell? ⟨b,o+j*3+1,none⟩=some (.int .i64 xn)∧w'.cell? ⟨b,o+j*3+2,none⟩=some (.slice xa xl.length xc)∧
    w'.cell? ⟨b2,o2+j*3,none⟩=some (.int .i64 yk)∧w'.cell? ⟨b2,o2+j*3+1,none⟩=some (.int .i64 yn)∧w'.cell? ⟨b2,o2+j*3+2,none⟩=some (.slice ya yl.length yc))
    (first|exact⟨d0,d1,d2,g0,g1,g2⟩|exact⟨(hb2.cell (zbT d0)).trans d0,(hb2.cell (zbT d1)).trans d1,(hb2.cell (zbT d2)).trans d2,(hb2.cell (zbT g0)).trans g0,(hb2.cell (zbT g1)).trans g1,(hb2.cell (zbT g2)).trans g2⟩|go_keep)
    (first
      |(go_at_call 72
        (with_reducible refine(HQ.out _ ?_).mono ?_)
        ·exact za6 (Below.refl _ _) _
        rintro e w2 ⟨rfl,hb2'⟩;have hb2:=zrB hb2';clear hb2'))
   rename_i hh
   clear hh;have HB2:=lhd (zem HB.out hb2);clear hb2 d0 d1 d2 g0 g1 g2;cases hq:sEq xk xn xl yk yn yl
   ·have HR:=lhd (show false=decide (L.map Prod.fst=M.map Prod.fst)from(HN.out (fun h=>by
     injection h with h1 h2;injection h2 with h2 h3;subst h1 h2 h3;unfold sEq zl8 at hq;simp at hq)).symm)
    clear hq;go_wp2_with fail;go_ret;exact⟨zli HR.out,HB2.out⟩
   ·have HGO2:=lhd (HE.out (by
     unfold sEq zl8 at hq;simp at hq;obtain⟨h1,h2,h3⟩:=hq;rw[h1,h2,h3]))
    clear hq;go_wp2_with fail;go_roundw;case rel=>exact⟨j+1,by omega,by go_num,HGO2.out,HB2.out⟩
    case measure=>simp[intOf];omega
  ·obtain rfl:j=L.length:=by omega
   have E2:=lhd (show decide (L.map Prod.fst=M.map Prod.fst)=true by rw[decide_eq_true_iff];have:=HGO.out;rwa [List.take_length,HLEN.out,List.take_length]at this);go_wp2_with fail;go_ret;exact⟨zli E2.out.symm,HB.out⟩
theorem ztW:(Tryz.prog.info? 45).map (fun i=>(i.zero,i.size,i.bytes))=some (some (.agg #[.int .i64 0,.int .i64 0,.slice none 0 0]),3,40):=by kernel_rfl
def zsA (l st:List Sg) (d:List Dv) (j:Nat):Bool:=((l.zip d).drop j).all fun p=>zsB p.1 st p.2
theorem zsD {l st:List Sg} {d:List Dv} {j:Nat} (h1:j<l.length) (h2:j<d.length):zsA l st d j=(zsB l[j] st d[j]&&zsA l st d (j+1)):=by
 have h:j<(l.zip d).length:=by rw[List.length_zip];omega
 unfold zsA;rw[List.drop_eq_getElem_cons h,List.all_cons,List.getElem_zip]
theorem zrf (v v2 v3:Value) (L S:List (Sg×Value)) (D:List Dv) (w:World) (hs:Sigs w v L) (ht:Sigs w v2 S) (hd:SlR w v3 D.length (dvs D)):
 Calls Tryz.prog 40 #[v,v2,v3] w fun e w'=>e=.returned (.bool (zuG (L.map Prod.fst) (S.map Prod.fst) D))∧Below w.heap.size w w':=by
 obtain⟨a,cap,rfl,hc,hm⟩:=hs.s.shape;obtain⟨a2,cap2,rfl,hc2,hm2⟩:=ht.s.shape;obtain⟨a3,cap3,rfl,hc3,hm3⟩:=hd.shape;have HT1:=lhd (fun W hW=>zri _ L W (hs.below hW) (fun x hx W' hW'=>zrr x.1 x.2 W' (by obtain⟨a,c,e,-,-⟩:=(hs.m x hx).shape;exact⟨_,_,_,e⟩)));have HT2:=lhd (fun W hW=>zri _ S W (ht.below hW) (fun x hx W' hW'=>zrr x.1 x.2 W' (by obtain⟨a,c,e,-,-⟩:=(ht.m x hx).shape;exact⟨_,_,_,e⟩)));have HS:=lhd hs;have HT:=lhd ht;have HD:=lhd hd
 have HR:=lhd (show zuG (L.map Prod.fst) (S.map Prod.fst) D=(decide (L.length≤64)&&decide (S.length≤64)&&decide (D.length=L.length)&&(L.all fun x=>tyS x.1)&&(S.all fun x=>tyS x.1)&&zsA (L.map Prod.fst) (S.map Prod.fst) D 0)by
  unfold zuG zsA;rw[List.length_map,List.length_map,List.all_map,List.all_map];rfl)
 clear hs ht hd hm hm2 hm3;by_cases h1:¬(L.length≤64∧S.length≤64∧D.length=L.length)
 ·have HR2:=lhd (show false=zuG (L.map Prod.fst) (S.map Prod.fst) D by
   rw[HR.out];by_cases a1:L.length≤64
   ·by_cases a2:S.length≤64
    ·by_cases a3:D.length=L.length
     ·exact absurd ⟨a1,a2,a3⟩ h1
     ·simp[a3]
    ·simp[a2]
   ·simp[a1])
  by_cases a1:L.length≤64
  ·have b1:decide ((L.length:Int)>64)=false:=by rw[decide_eq_false_iff_not];omega
   by_cases a2:S.length≤64
   ·have b2:decide ((S.length:Int)>64)=false:=by rw[decide_eq_false_iff_not];omega
    have b3:((D.length:Int) !=(L.length:Int))=true:=by rw[bne_iff_ne];omega
    clear h1 a1 a2;go_enter Tryz.func40,Tryz.ntmps40;go_wp2_with fail;go_ret;exact⟨zli HR2.out,Below.refl _ _⟩
   ·have b2:decide ((S.length:Int)>64)=true:=by rw[decide_eq_true_iff];omega
    clear h1 a1 a2;go_enter Tryz.func40,Tryz.ntmps40;go_wp2_with fail;go_ret;exact⟨zli HR2.out,Below.refl _ _⟩
  ·have b1:decide ((L.length:Int)>64)=true:=by rw[decide_eq_true_iff];omega
   clear h1 a1;go_enter Tryz.func40,Tryz.ntmps40;go_wp2_with fail;go_ret;exact⟨zli HR2.out,Below.refl _ _⟩
 obtain⟨hl,hsl,hdl⟩:=Classical.not_not.1 h1;have b1:decide ((L.length:Int)>64)=false:=by rw[decide_eq_false_iff_not];omega
 have b2:decide ((S.length:Int)>64)=false:=by rw[decide_eq_false_iff_not];omega
 have b3:((D.length:Int) !=(L.length:Int))=false:=by rw[hdl];simp
 clear h1;go_enter Tryz.func40,Tryz.ntmps40;go_wp2_with fail;refine(HT1.out _ (Below.refl _ _)).mono ?_;rintro e w1 ⟨rfl,hb1⟩;have HB1:=lhd hb1;clear hb1;cases hA:L.all fun x=>tyS x.1
 ·have HR2:=lhd (show false=zuG (L.map Prod.fst) (S.map Prod.fst) D by rw[HR.out,hA];simp);clear hA;go_wp2_with fail;go_ret;exact⟨zli HR2.out,HB1.out⟩
 have HA:=lhd hA;clear hA;go_wp2_with fail;refine(HT2.out _ HB1.out).mono ?_;rintro e w2 ⟨rfl,hb2⟩;have HB2:=lhd (zem HB1.out hb2);clear hb2 HB1;cases hB:S.all fun x=>tyS x.1
 ·have HR2:=lhd (show false=zuG (L.map Prod.fst) (S.map Prod.fst) D by rw[HR.out,hB];simp);clear hB;go_wp2_with fail;go_ret;exact⟨zli HR2.out,HB2.out⟩
 have HBB:=lhd hB;have HR3:=lhd (show zsA (L.map Prod.fst) (S.map Prod.fst) D 0=zuG (L.map Prod.fst) (S.map Prod.fst) D by rw[HR.out,HA.out,hB];simp[hl,hsl,hdl]);clear hB;go_wp2_with fail;go_loopw [36] (fun i wr=>∃(j:Nat),j≤L.length∧i=.int .i64 j∧zsA (L.map Prod.fst) (S.map Prod.fst) D j=zuG (L.map Prod.fst) (S.map Prod.fst) D∧Below w.heap.size w wr) (fun i _=>L.length-(intOf i).toNat)
 case atStart=>exact⟨0,Nat.zero_le _,rfl,HR3.out,HB2.out⟩
 case round=>
  obtain⟨j,hj,rfl,hgo,hb⟩:=hrel;have HGO:=lhd hgo;have HB:=lhd hb;clear hgo hb HB2 HR3;by_cases hlt:j<L.length
  ·have hlt2:j<D.length:=by omega
   obtain⟨b,o,rfl,y0,y1,y2,hy⟩:=(HS.out.below HB.out).at hlt;obtain⟨b3,o3,rfl,z0,z1,z2⟩:=zrY (HD.out.below HB.out) hlt2
   have HGO2:=lhd (show(zsB L[j].1 (S.map Prod.fst) D[j]&&zsA (L.map Prod.fst) (S.map Prod.fst) D (j+1))=zuG (L.map Prod.fst) (S.map Prod.fst) D by
    rw[←HGO.out,zsD (by simpa using hlt) hlt2];simp)
   have hty:tyS L[j].1=true:=List.all_eq_true.1 HA.out _ (List.getElem_mem hlt);generalize L[j]=x at y0 y1 y2 hy HGO2 hty;generalize D[j]=d at z0 z1 z2 HGO2;obtain⟨⟨xk,xn,xl⟩,xv⟩:=x;obtain⟨do_,df,di⟩:=d;dsimp only at y0 y1 y2 hy HGO2 z0 z1 z2;obtain⟨xa,xc,rfl,-,-⟩:=hy.shape;have HFT:=lhd (fun W hW=>zrm (xk,xn,xl) (.slice xa xl.length xc) (.slice a2 S.length cap2) S (do_,df,di) W ⟨_,_,_,rfl⟩ (HT.out.below hW) (fun y hy=>zuE (List.all_eq_true.1 HBB.out y hy)) (zuE hty));have hz0:=zbT z0;have hbx:=HB.out.alloc HB.out.size (.cells #[.int .i64 xk,.int .i64 xn,.slice xa xl.length xc] 45);have s0:=(zal.fresh wr #[.int .i64 xk,.int .i64 xn,.slice xa xl.length xc] 45).cell (j:=0) rfl;have s1:=(zal.fresh wr #[.int .i64 xk,.int .i64 xn,.slice xa xl.length xc] 45).cell (j:=1) rfl;have s2:=(zal.fresh wr #[.int .i64 xk,.int .i64 xn,.slice xa xl.length xc] 45).cell (j:=2) rfl;have t0:=zbS z0 (.cells #[.int .i64 xk,.int .i64 xn,.slice xa xl.length xc] 45);have t1:=zbS z1 (.cells #[.int .i64 xk,.int .i64 xn,.slice xa xl.length xc] 45);have t2:=zbS z2 (.cells #[.int .i64 xk,.int .i64 xn,.slice xa xl.length xc] 45);clear hy hty;go_upto_region 6 with fail;generalize wr.alloc (.cells #[.int .i64 xk,.int .i64 xn,.slice xa xl.length xc] 45)=w5 at hbx s0 s1 s2 t0 t1 t2⊢;generalize wr.heap.size=Bx at s0 s1 s2⊢;have HBX:=lhd hbx;clear z0 z1 z2 y0 y1 y2 hbx
   go_region_held3 (fun w'=>w'.cell? ⟨Bx,0,none⟩=some (.int .i64 xk)∧w'.cell? ⟨Bx,1,none⟩=some (.int .i64 xn)∧w'.cell? ⟨Bx,2,none⟩=some (.slice xa xl.length xc)∧
    w'.cell? ⟨b3,o3+j*3,none⟩=some (.int .i64 do_)∧w'.cell? ⟨b3,o3+j*3+1,none⟩=some (.int .i64 df)∧w'.cell? ⟨b3,o3+j*3+2,none⟩=some (.bool di))
    (first|exact⟨s0,s1,s2,t0,t1,t2⟩|exact⟨(hb6.cell (zbT s0)).trans s0,(hb6.cell (zbT s1)).trans s1,(hb6.cell (zbT s2)).trans s2,(hb6.cell (zbT t0)).trans t0,(hb6.cell (zbT t1)).trans t1,(hb6.cell (zbT t2)).trans t2⟩|go_keep)
    (first
      |(go_at_call 107
        (with_reducible refine(HFT.out _ ?_).mono ?_)
        ·exact za6 HBX.out _
        rintro e w6 ⟨rfl,hb6'⟩;have hb6:=zrB hb6';clear hb6'))
   rename_i hh
   clear hh;have HB6:=lhd (zem HBX.out hb6);clear hb6 s0 s1 s2 t0 t1 t2;cases hq:zsB (xk,xn,xl) (S.map Prod.fst) (do_,df,di)
   ·have HR4:=lhd (show false=zuG (L.map Prod.fst) (S.map Prod.fst) D by rw[←HGO2.out,hq];rfl);clear hq;go_wp2_with fail;go_ret;exact⟨zli HR4.out,HB6.out⟩
   ·have HGO3:=lhd (show zsA (L.map Prod.fst) (S.map Prod.fst) D (j+1)=zuG (L.map Prod.fst) (S.map Prod.fst) D by rw[←HGO2.out,hq,Bool.true_and]);clear hq;go_wp2_with fail;go_roundw;case rel=>exact⟨j+1,by omega,by go_num,HGO3.out,HB6.out⟩
    case measure=>simp[intOf];omega
  ·obtain rfl:j=L.length:=by omega
   have HR4:=lhd (show true=zuG (L.map Prod.fst) (S.map Prod.fst) D by
    rw[←HGO.out];unfold zsA;rw[List.drop_eq_nil_iff.2 (by rw[List.length_zip,List.length_map];omega)];rfl)
   go_wp2_with fail;go_ret;exact⟨zli HR4.out,HB.out⟩
theorem zuc (k n:Int) (l:List Ch) (f w:Int):Fit (zua k n l f w).1.2.2:=by
 have h0:Fit []:=⟨by simp,by simp⟩;unfold zua;split
 ·exact h0
 ·rename_i h1
  split
  ·exact h0
  ·rename_i h2
   obtain rfl:k=0:=Classical.not_not.1 h2;have hv:sv 0 n l=true:=by simpa using h1
   split
   ·exact h0
   ·rename_i h3
    have hc:=(zt9 (zqB (zoh.1 hv).1)).1 (Classical.not_not.1 h3);obtain⟨p,e1,e2,-,-⟩:=zud hv hc;unfold zua at e1;rw[if_neg h1,if_neg h2,if_neg h3]at e1;rw[e1];exact zuw e2
theorem zsS (k n:Int) (l:List Ch):Fit (invR k n l).1.2.2:=by
 have h0:Fit []:=⟨by simp,by simp⟩;unfold invR;split
 ·exact h0
 ·rename_i h1
  split
  ·exact h0
  ·rename_i h2
   obtain rfl:k=0:=Classical.not_not.1 h2;have hv:sv 0 n l=true:=by simpa using h1
   obtain⟨q,e1,e2,-,-⟩:=zsU hv;unfold invR at e1;rw[if_neg h1,if_neg h2]at e1;rw[e1];exact zuw e2
theorem ztx {st:Sg} (h:Fit st.2.2) (fr:Int) (inv:Bool) (width:Int):Fit (ztw st fr inv width).1.2.2:=by
 unfold ztw;split
 ·exact h
 ·split
  ·exact zsS _ _ _
  ·exact zuc _ _ _ _ _
theorem zsC {s:Sg} {st:List Sg} {d:Dv} (h:zsB s st d=true) (hn:d.1≠ -1):0≤d.1∧d.1<st.length:=by
 unfold zsB at h;split at h
 ·cases h
 ·omega
theorem zts {w:World} {B B' e e' size size' n n':Nat} {v v':Value} {xs xs':List Value} (h:w.ownsRow B e size v n xs) (h':w.ownsRow B' e' size' v' n' xs') (hne:e≠e'):v.ownBlock=none∨v.ownBlock≠v'.ownBlock:=by
 rcases h.2 with⟨rfl,_⟩|⟨g,cap,cur,rfl,_,hgg,_⟩
 ·exact .inl rfl
 ·rcases h'.2 with⟨rfl,_⟩|⟨g',cap',cur',rfl,_,hgg',_⟩
  ·exact .inr (by simp[Value.ownBlock])
  ·refine .inr fun he=>?_;simp only[Value.ownBlock,Option.some.injEq]at he;subst he;rw[hgg]at hgg';simp only[Option.some.injEq,Obj.cells.injEq]at hgg';exact hne hgg'.2.1
structure SigOwn (B:Nat) (w:World) (v:Value) (M:List (Sg×Value)):Prop where
 s:w.ownsRow B 45 3 v M.length (sgs M)
 m:∀x∈M,w.ownsRow B 53 2 x.2 x.1.2.2.length (chs x.1.2.2)
theorem SigOwn.sigs {B:Nat} {w:World} {v:Value} {M:List (Sg×Value)} (h:SigOwn B w v M):Sigs w v M:=⟨SlR.of_own h.s,fun x hx=>SlR.of_own (h.m x hx)⟩
theorem ztq {W W':World} {B e size n:Nat} {v:Value} {xs:List Value} (h:W.ownsRow B e size v n xs) (hb:RowKit.Below W.heap.size W W'):W'.ownsRow B e size v n xs:=
 h.kept (row:=none) ⟨hb.os,hb.tape,hb.output,hb.size,fun i hi _=>hb.block i hi⟩ (by cases v.ownBlock<;>simp)
theorem SigOwn.later {B:Nat} {w W:World} {v:Value} {M:List (Sg×Value)} (h:SigOwn B w v M) (hb:Below w.heap.size w W):SigOwn B W v M:=⟨ztq h.s hb,fun x hx=>ztq (h.m x hx) hb⟩
theorem SigOwn.snoc {B:Nat} {w W:World} {v v':Value} {M:List (Sg×Value)} {s:Sg} {u:Value} (h:SigOwn B w v M) (hg:w.grownBy W v.ownBlock) (hu:w.ownsRow B 53 2 u s.2.2.length (chs s.2.2))
 (ho:W.ownsRow B 45 3 v' (M.length+1) (sgs M++ [.int .i64 s.1,.int .i64 s.2.1,u])):SigOwn B W v' (M++ [(s,u)]):=by
 refine⟨by rw[zmX,List.length_append];exact ho,fun x hx=>?_⟩
 have hx2:w.ownsRow B 53 2 x.2 x.1.2.2.length (chs x.1.2.2):=by
  rcases List.mem_append.1 hx with hx|hx
  ·exact h.m x hx
  ·rw[List.mem_singleton]at hx;subst hx;exact hu
 exact hx2.kept hg (zts hx2 h.s (by decide))
theorem zrd (v v2 v3:Value) (L S:List (Sg×Value)) (D:List Dv) (w:World) (hg:Glob w) (hs:Sigs w v L) (ht:Sigs w v2 S) (hd:SlR w v3 D.length (dvs D)) (hf:FitS S):
 Calls Tryz.prog 39 #[v,v2,v3] w fun e w'=>∃v' M,e=.returned (.tuple #[v',.int .i64 (ztL (L.map Prod.fst) (S.map Prod.fst) D).2])∧M.map Prod.fst=(ztL (L.map Prod.fst) (S.map Prod.fst) D).1∧SigOwn w.heap.size w' v' M∧Below w.heap.size w w':=by
 obtain⟨i0,hi,iz0,iz1,iz2⟩:=info_parts (P:=Tryz.prog) ztW;obtain⟨a,cap,rfl,hc,hm⟩:=hs.s.shape;obtain⟨a2,cap2,rfl,hc2,hm2⟩:=ht.s.shape;obtain⟨a3,cap3,rfl,hc3,hm3⟩:=hd.shape;have HAV:=lhd (zrj _ S w ht (fun x hx W hW=>znc x.1.1 x.1.2.1 x.2 x.1.2.2 W (hg.below hW) ((ht.m x hx).below hW) (hf.2 x hx)));have HVD:=lhd (fun W hW=>zrf _ _ _ L S D W (hs.below hW) (ht.below hW) (hd.below hW));have HG:=lhd hg;have HS:=lhd hs;have HT:=lhd ht;have HD:=lhd hd;have HF:=lhd hf;clear hg hs ht hd hf hm hm2 hm3;go_enter Tryz.func39,Tryz.ntmps39;go_wp2_with fail;refine HAV.out.mono ?_;rintro e w1 ⟨rfl,hb1⟩;have HB1:=lhd hb1;clear hb1 HAV;cases hA:S.all fun x=>svS x.1
 ·have HR:=lhd (show ztL (L.map Prod.fst) (S.map Prod.fst) D=([],1)by
   unfold ztL;rw[if_neg (fun h=>by rw[List.all_map,show S.all (svS∘Prod.fst)=S.all (fun x=>svS x.1)from rfl,hA]at h;cases h.1)])
  clear hA;go_wp2_with fail;refine bodyPost_ret (v:=.tuple #[.slice none 0 0,.int .i64 1]) (by simp[results,Tryz.results39,go_sem]) rfl ?_;rw[HR.out];exact⟨_,[],rfl,rfl,⟨World.ownsRow_nil _ _ _ _,by simp⟩,HB1.out⟩
 have HA:=lhd hA;clear hA;go_wp2_with fail;refine(HVD.out _ HB1.out).mono ?_;rintro e w2 ⟨rfl,hb2⟩;have HB2:=lhd (zem HB1.out hb2);clear hb2 HB1;cases hV:zuG (L.map Prod.fst) (S.map Prod.fst) D
 ·have HR:=lhd (show ztL (L.map Prod.fst) (S.map Prod.fst) D=([],1)by
   unfold ztL;rw[if_neg (fun h=>by rw[hV]at h;cases h.2)])
  clear hV;go_wp2_with fail;refine bodyPost_ret (v:=.tuple #[.slice none 0 0,.int .i64 1]) (by simp[results,Tryz.results39,go_sem]) rfl ?_;rw[HR.out];exact⟨_,[],rfl,rfl,⟨World.ownsRow_nil _ _ _ _,by simp⟩,HB2.out⟩
 have HR:=lhd (show ztL (L.map Prod.fst) (S.map Prod.fst) D=(((L.map Prod.fst).zip D).map (fun p=>ztK (S.map Prod.fst) p.1 p.2),0)by
  unfold ztL;rw[if_pos ⟨by rw[List.all_map];exact HA.out,hV⟩])
 obtain⟨hl,hsl,hdl,hfi0⟩:=zuH hV;have HFI:=lhd hfi0;clear hV hfi0;rw[List.length_map]at hl hsl hdl;go_wp2_with fail;go_loopw [8,26] (fun o_ i wr=>∃(j:Nat) (M:List (Sg×Value)),j≤L.length∧i=.int .i64 j∧M.length=j∧M.map Prod.fst=(((L.map Prod.fst).zip D).take j).map (fun p=>ztK (S.map Prod.fst) p.1 p.2)∧SigOwn w.heap.size wr o_ M∧Below w.heap.size w wr) (fun _ i _=>L.length-(intOf i).toNat)
 case atStart=>exact⟨0,[],Nat.zero_le _,rfl,rfl,rfl,⟨World.ownsRow_nil _ _ _ _,by simp⟩,HB2.out⟩
 case round=>
  obtain⟨j,M,hj,rfl,hml,hmm,hso,hb⟩:=hrel;have HML:=lhd hml;have hm64:M.length≤64:=by omega
  clear hml;have HM:=lhd hmm;have HSW:=lhd hso;have HB:=lhd hb;obtain⟨ao,co,rfl,-,-⟩:=(SlR.of_own hso.s).shape;clear hmm hso hb HB2;by_cases hlt:j<L.length
  ·have hlt2:j<D.length:=by omega
   obtain⟨b,o,rfl,y0,y1,y2,hy⟩:=(HS.out.below HB.out).at hlt;obtain⟨b3,o3,rfl,z0,z1,z2⟩:=zrY (HD.out.below HB.out) hlt2;have hlz:j<((L.map Prod.fst).zip D).length:=by rw[List.length_zip,List.length_map];omega
   have HST:=lhd (show ∀M2:List (Sg×Value),M2.map Prod.fst=M.map Prod.fst++ [ztK (S.map Prod.fst) L[j].1 D[j]]→M2.map Prod.fst=(((L.map Prod.fst).zip D).take (j+1)).map (fun p=>ztK (S.map Prod.fst) p.1 p.2)from fun M2 h=>by
    rw[h,HM.out,List.take_succ_eq_append_getElem hlz,List.map_append,List.getElem_zip];simp)
   have hfi:zsB L[j].1 (S.map Prod.fst) D[j]=true:=HFI.out j L[j].1 D[j] (by simp[hlt]) (by simp[hlt2]);generalize L[j]=x at y0 y1 y2 hy HST hfi;generalize D[j]=d at z0 z1 z2 HST hfi;obtain⟨⟨xk,xn,xl⟩,xv⟩:=x;obtain⟨do_,df,di⟩:=d;dsimp only at y0 y1 y2 hy HST z0 z1 z2 hfi;obtain⟨xa,xc,rfl,-,-⟩:=hy.shape;have hz0:=zbT z0;have hx7:=zal.fresh (wr.alloc (.cells #[.int .i64 xk,.int .i64 xn,.slice xa xl.length xc] 45)) #[.int .i64 xk,.int .i64 xn,.slice none 0 0] 45;have hb7:Below wr.heap.size wr ((wr.alloc (.cells #[.int .i64 xk,.int .i64 xn,.slice xa xl.length xc] 45)).alloc (.cells #[.int .i64 xk,.int .i64 xn,.slice none 0 0] 45)):=((Below.refl _ _).alloc (Nat.le_refl _) _).alloc (by simp) _;have hs7:=(zal.fresh wr #[.int .i64 xk,.int .i64 xn,.slice xa xl.length xc] 45).alloc (by simp) (.cells #[.int .i64 xk,.int .i64 xn,.slice none 0 0] 45);have hz7:wr.heap.size+1<((wr.alloc (.cells #[.int .i64 xk,.int .i64 xn,.slice xa xl.length xc] 45)).alloc (.cells #[.int .i64 xk,.int .i64 xn,.slice none 0 0] 45)).heap.size:=by simp
   simp only[World.size_alloc]at hx7;obtain⟨w7,hw7⟩:∃w7,w7=(wr.alloc (.cells #[.int .i64 xk,.int .i64 xn,.slice xa xl.length xc] 45)).alloc (.cells #[.int .i64 xk,.int .i64 xn,.slice none 0 0] 45):=⟨_,rfl⟩;rw[←hw7]at hx7 hb7 hs7 hz7;have HX7:=lhd hx7;have HS7:=lhd hs7;have HB7W:=lhd (HB.out.trans (hb7.mono HB.out.size));have hsz0:=HB.out.size;clear hx7 hs7 hy;by_cases hn:do_= -1
   ·subst hn;have HE:=lhd (show ztK (S.map Prod.fst) (xk,xn,xl) (-1,df,di)=(xk,xn,[])by unfold ztK;rw[if_pos rfl]);have HSO7:=lhd (HSW.out.later hb7);clear hfi hb7;go_upto_region 11 with fail;rw[←hw7];clear hw7 z0 z1 z2 y0 y1 y2;have c0:=(HX7.out).cell (j:=0) rfl;have c1:=(HX7.out).cell (j:=1) rfl;have c2:=(HX7.out).cell (j:=2) rfl;have HC:=lhd (World.news_of_block (w:=(w7).alloc (.cells #[.int .i64 xk,.int .i64 xn,.slice none 0 0] 45)) (cs:=#[.int .i64 xk,.int .i64 xn,.slice none 0 0]) (t:=45) (fr:=(0,0)) (by exact heap_alloc_new _ _));have hso:=(HSO7.out).later ((Below.refl (w7).heap.size w7).alloc (Nat.le_refl _) (.cells #[.int .i64 xk,.int .i64 xn,.slice none 0 0] 45));have HSO:=lhd hso;have HVO:=lhd (ztq (show w7.ownsRow w.heap.size 53 2 (.slice none 0 0) 0 []from World.ownsRow_nil _ _ _ _) ((Below.refl (w7).heap.size w7).alloc (Nat.le_refl _) (.cells #[.int .i64 xk,.int .i64 xn,.slice none 0 0] 45)));have HB7:=lhd ((HB7W.out).alloc (HB7W.out).size (.cells #[.int .i64 xk,.int .i64 xn,.slice none 0 0] 45));have hsz7:=(HB7W.out).size;clear hso;go_wp2_with (at_builtin;refine wpList_append_own_at _ rfl _ _ 24 rfl w.heap.size 45 i0 (.agg #[.int .i64 0,.int .i64 0,.slice none 0 0]) 3 40 Tryz.underlying24 hi iz0 iz1 iz2 rfl (by decide) _ _ _ rfl HSO.out.s ⟨(w7).heap.size,0,none⟩ 1 1 [.int .i64 xk,.int .i64 xn,.slice none 0 0] rfl rfl HC.out (by simp[Value.oneCell']) (by unfold maxLen;omega) (by omega) (by simp;omega) ?_)
    intro v8 w8 ho8 hg8 _ _;have HS8:=lhd (HSO.out.snoc (s:=(xk,xn,[])) hg8 HVO.out ho8);have HB8:=lhd (HB7.out.grown hg8 (by simp;omega) (fun q hq=>(HSO.out.s.lt q hq).1));clear ho8 hg8 c0 c1 c2;go_wp2_with fail;go_roundw;case rel=>exact⟨j+1,_,by omega,by go_num,by simp[HML.out],HST.out _ (by rw[HE.out];simp),HS8.out,HB8.out⟩
    case measure=>simp[intOf];omega
   ·have hnb:(do_ != -1)=true:=by rw[bne_iff_ne];exact hn
    have hrg:=zsC hfi hn;rw[List.length_map]at hrg;obtain⟨jj,rfl⟩:∃jj:Nat,do_=(jj:Int):=⟨do_.toNat,by dsimp only at hrg;omega⟩;have hjj:jj<S.length:=by dsimp only at hrg;omega
    obtain⟨b4,o4,rfl,t0,t1,t2,ht⟩:=(HT.out.below HB.out).at hjj
    have HE:=lhd (show ztK (S.map Prod.fst) (xk,xn,xl) ((jj:Int),df,di)=(xk,xn,(ztw S[jj].1 df di xn).1.2.2)by
     unfold ztK;dsimp only;rw[if_neg (by omega),Int.toNat_natCast,ztV (by simpa using hjj)];simp)
    have HFX:=lhd (HF.out.2 S[jj] (List.getElem_mem hjj));generalize S[jj]=y at t0 t1 t2 ht HE HFX;obtain⟨⟨yk,yn,yl⟩,yv⟩:=y;dsimp only at t0 t1 t2 ht HE HFX;obtain⟨ya,yc,rfl,-,-⟩:=ht.shape;have HTX:=lhd ht;have hpf:=(ztx (st:=(yk,yn,yl)) HFX.out df di xn).1;have HPT:=lhd (fun W (hW:Below w7.heap.size w7 W)=>zrn (yk,yn,yl) (.slice ya yl.length yc) (jj:Int) df xn di W (HG.out.below (zem HB7W.out hW)) (ht.below (zem hb7 hW)) HFX.out);generalize ztw (yk,yn,yl) df di xn=r at HE hpf HPT;obtain⟨⟨rk,rn,rl⟩,rb⟩:=r;dsimp only at HE hpf;have q0:=(hb7.cell (zbT z0)).trans z0;have q1:=(hb7.cell (zbT z1)).trans z1;have q2:=(hb7.cell (zbT z2)).trans z2;have q3:=(hb7.cell (zbT t0)).trans t0;have q4:=(hb7.cell (zbT t1)).trans t1;have q5:=(hb7.cell (zbT t2)).trans t2;have q6:=HS7.out.cell (j:=1) rfl;have HQ:=lhd (And.intro q0 (And.intro q1 (And.intro q2 (And.intro q3 (And.intro q4 (And.intro q5 q6))))));have HH7:=lhd hb7;have hzl:=zbT q0;have hzl4:=zbT q3;clear ht hfi hrg hn
    have hlx:w7.heap.size<(w7.alloc (.cells #[.int .i64 0,.int .i64 0,.slice none 0 0] 45)).drew.heap.size:=by
     show w7.heap.size<(w7.alloc (.cells #[.int .i64 0,.int .i64 0,.slice none 0 0] 45)).heap.size;simp
    go_upto_region 9 with fail;rw[←hw7];clear hw7 z0 z1 z2 y0 y1 y2 t0 t1 t2 hb7
    go_region_held3 (fun w'=>w'.cell? ⟨b3,o3+j*3,none⟩=some (.int .i64 (jj:Int))∧w'.cell? ⟨b3,o3+j*3+1,none⟩=some (.int .i64 df)∧w'.cell? ⟨b3,o3+j*3+2,none⟩=some (.bool di)∧
     w'.cell? ⟨b4,o4+jj*3,none⟩=some (.int .i64 yk)∧w'.cell? ⟨b4,o4+jj*3+1,none⟩=some (.int .i64 yn)∧w'.cell? ⟨b4,o4+jj*3+2,none⟩=some (.slice ya yl.length yc)∧w'.cell? ⟨wr.heap.size,1,none⟩=some (.int .i64 xn))
     (first|exact⟨q0,q1,q2,q3,q4,q5,q6⟩|exact⟨v0,v1,v2,v3,v4,v5,v6⟩|(exact(have hq:=zrz B5.out (Nat.le_refl _) (.int .i64 rk) (.int .i64 rn) (.slice a5 rl.length c5);⟨(hq.cell hzl).trans HQ.out.1,(hq.cell hzl).trans HQ.out.2.1,(hq.cell hzl).trans HQ.out.2.2.1,(hq.cell hzl4).trans HQ.out.2.2.2.1,(hq.cell hzl4).trans HQ.out.2.2.2.2.1,(hq.cell hzl4).trans HQ.out.2.2.2.2.2.1,(hq.cell (show wr.heap.size<_ by omega)).trans HQ.out.2.2.2.2.2.2⟩))|go_keep)
     (first
       |(go_at_call 105;(with_reducible refine(HPT.out _ ?_).mono ?_);(exact za6 (Below.refl _ _) _);rintro e w5 ⟨v5',rfl,hq5,hb5⟩;have b5:=zrB hb5;(try dsimp only at hq5);have ho5:=hq5.slr (HTX.out.below (zem HH7.out b5));obtain⟨a5,c5,rfl,-,-⟩:=ho5.shape;have v0:=(b5.cell hzl).trans HQ.out.1;have v1:=(b5.cell hzl).trans HQ.out.2.1;have v2:=(b5.cell hzl).trans HQ.out.2.2.1;have v3:=(b5.cell hzl4).trans HQ.out.2.2.2.1;have v4:=(b5.cell hzl4).trans HQ.out.2.2.2.2.1;have v5:=(b5.cell hzl4).trans HQ.out.2.2.2.2.2.1;have v6:=(b5.cell (show wr.heap.size<_ by omega)).trans HQ.out.2.2.2.2.2.2;have B5:=lhd b5;have HO5:=lhd ho5;have hz5:=b5.size;clear b5 hb5 ho5 hq5)
       |(go_at_call 105;(with_reducible refine(HPT.out _ ?_).mono ?_);(exact((Below.refl w7.heap.size w7).alloc (Nat.le_refl _) _).drew);rintro e w5 ⟨v5',rfl,hq5,hb5⟩;have b5:Below w7.heap.size w7 w5:=((Below.refl w7.heap.size w7).alloc (Nat.le_refl _) (.cells #[.int .i64 0,.int .i64 0,.slice none 0 0] 45)).drew.trans (hb5.mono (Nat.le_of_lt hlx));(try dsimp only at hq5);have ho5:=hq5.slr (HTX.out.below (zem HH7.out b5));obtain⟨a5,c5,rfl,-,-⟩:=ho5.shape;have HQ5:=lhd hq5;have v0:=(b5.cell hzl).trans HQ.out.1;have v1:=(b5.cell hzl).trans HQ.out.2.1;have v2:=(b5.cell hzl).trans HQ.out.2.2.1;have v3:=(b5.cell hzl4).trans HQ.out.2.2.2.1;have v4:=(b5.cell hzl4).trans HQ.out.2.2.2.2.1;have v5:=(b5.cell hzl4).trans HQ.out.2.2.2.2.2.1;have v6:=(b5.cell (show wr.heap.size<_ by omega)).trans HQ.out.2.2.2.2.2.2;have hx5:zal w5 w7.heap.size [.int .i64 0,.int .i64 0,.slice none 0 0]:=((zal.fresh w7 #[.int .i64 0,.int .i64 0,.slice none 0 0] 45).drew).below hb5 hlx;have x5:=hx5.cell (j:=0) rfl;have x6:=hx5.cell (j:=1) rfl;have x7:=hx5.cell (j:=2) rfl;have z0:=hx5.free (j:=0) (by simp);have z1:=hx5.free (j:=1) (by simp);have z2:=hx5.free (j:=2) (by simp);have hl5:w7.heap.size<w5.heap.size:=(Nat.lt_of_lt_of_le hlx hb5.size);have HX5:=lhd hx5;have B5:=lhd b5;have HO5:=lhd ho5;have hz5:=b5.size;clear b5 hb5 ho5 hq5)
       |(go_at_call 105;(with_reducible refine(HPT.out _ ?_).mono ?_);(exact(za6 (Below.refl _ _) _).alloc (by simp) _);rintro e w5 ⟨v5',rfl,hq5,hb5⟩;have b5:=zrB (zrx hb5);(try dsimp only at hq5);have ho5:=hq5.slr (HTX.out.below (zem HH7.out b5));obtain⟨a5,c5,rfl,-,-⟩:=ho5.shape;have HQ5:=lhd hq5;have v0:=(b5.cell hzl).trans HQ.out.1;have v1:=(b5.cell hzl).trans HQ.out.2.1;have v2:=(b5.cell hzl).trans HQ.out.2.2.1;have v3:=(b5.cell hzl4).trans HQ.out.2.2.2.1;have v4:=(b5.cell hzl4).trans HQ.out.2.2.2.2.1;have v5:=(b5.cell hzl4).trans HQ.out.2.2.2.2.2.1;have v6:=(b5.cell (show wr.heap.size<_ by omega)).trans HQ.out.2.2.2.2.2.2;have hx5:zal w5 w7.heap.size [.int .i64 0,.int .i64 0,.slice none 0 0]:=(zal.fresh w7.drew #[.int .i64 0,.int .i64 0,.slice none 0 0] 45).below hb5 (by simp);have x5:=hx5.cell (j:=0) rfl;have x6:=hx5.cell (j:=1) rfl;have x7:=hx5.cell (j:=2) rfl;have z0:=hx5.free (j:=0) (by simp);have z1:=hx5.free (j:=1) (by simp);have z2:=hx5.free (j:=2) (by simp);have hl5:w7.heap.size<w5.heap.size:=(by have:=hb5.size;simp at this;omega);have HX5:=lhd hx5;have B5:=lhd b5;have HO5:=lhd ho5;have hz5:=b5.size;clear b5 hb5 ho5 hq5)
       |fail "no arm")
    ·rename_i hh
     clear hh;have hal:=(Below.refl w5.heap.size w5).alloc (Nat.le_refl _) (.cells #[.int .i64 rk,.int .i64 rn,.slice a5 rl.length c5] 45);have hb8:=zem B5.out hal;have ho8:=HO5.out.below hal;have hy8:=zal.fresh w5 #[.int .i64 rk,.int .i64 rn,.slice a5 rl.length c5] 45;clear hal v0 v1 v2 v3 v4 v5 v6 q0 q1 q2 q3 q4 q5 q6;generalize w5.alloc (.cells #[.int .i64 rk,.int .i64 rn,.slice a5 rl.length c5] 45)=w8 at hb8 ho8 hy8⊢;generalize w5.heap.size=Dy at hy8⊢;have hz8:=hb8.size;have y2:=hy8.cell (j:=2) rfl;have hb80:=zem HH7.out hb8;have HX8:=lhd (HX7.out.below hb8 (by omega));have HB80:=lhd hb80;clear hb8 hb80 hy8;go_wp2_with fail;refine(zrN _ rl _ ho8 hpf).mono ?_;rintro e w9 ⟨v9,rfl,ho9,hb9⟩;obtain⟨a9,c9,rfl,-,-⟩:=(SlR.of_own ho9).shape;have hx9:=HX8.out.below hb9 (by omega);have x2c:=hx9.cell (j:=2) rfl;have x2f:=hx9.free (j:=2) (by simp);have hx10:=hx9.set (j:=2) (by simp) (.slice a9 rl.length c9);have hb10:=(zem HB80.out hb9).setCell (p:=⟨wr.heap.size+1,2,none⟩) (by simp) (.slice a9 rl.length c9);have hv10:=zjJ (base':=w.heap.size) (ownsRow_setCell_below ho9 (a:=⟨wr.heap.size+1,2,none⟩) (by simp;omega) (.slice a9 rl.length c9)) (by omega);have HX10:=lhd hx10;have HSO10:=lhd (HSW.out.later hb10);have HV10:=lhd hv10;have HB10:=lhd (HB.out.trans (hb10.mono HB.out.size));clear hx9 hx10 hb10 hv10 ho9 hb9 ho8 y2;obtain⟨w10,hw10⟩:∃w10,w10=w9.setCell ⟨wr.heap.size+1,2,none⟩ (.slice a9 rl.length c9):=⟨_,rfl⟩;rw[←hw10]at HX10 HSO10 HV10 HB10;go_upto_region 11 with fail;rw[←hw10];clear hw10 x2c x2f;have c0:=(HX10.out).cell (j:=0) rfl;have c1:=(HX10.out).cell (j:=1) rfl;have c2:=(HX10.out).cell (j:=2) rfl;have HC:=lhd (World.news_of_block (w:=(w10).alloc (.cells #[.int .i64 xk,.int .i64 xn,.slice a9 rl.length c9] 45)) (cs:=#[.int .i64 xk,.int .i64 xn,.slice a9 rl.length c9]) (t:=45) (fr:=(0,0)) (by exact heap_alloc_new _ _));have hso:=(HSO10.out).later ((Below.refl (w10).heap.size w10).alloc (Nat.le_refl _) (.cells #[.int .i64 xk,.int .i64 xn,.slice a9 rl.length c9] 45));have HSO:=lhd hso;have HVO:=lhd (ztq HV10.out ((Below.refl (w10).heap.size w10).alloc (Nat.le_refl _) (.cells #[.int .i64 xk,.int .i64 xn,.slice a9 rl.length c9] 45)));have HB7:=lhd ((HB10.out).alloc (HB10.out).size (.cells #[.int .i64 xk,.int .i64 xn,.slice a9 rl.length c9] 45));have hsz7:=(HB10.out).size;clear hso;go_wp2_with (at_builtin;refine wpList_append_own_at _ rfl _ _ 24 rfl w.heap.size 45 i0 (.agg #[.int .i64 0,.int .i64 0,.slice none 0 0]) 3 40 Tryz.underlying24 hi iz0 iz1 iz2 rfl (by decide) _ _ _ rfl HSO.out.s ⟨(w10).heap.size,0,none⟩ 1 1 [.int .i64 xk,.int .i64 xn,.slice a9 rl.length c9] rfl rfl HC.out (by simp[Value.oneCell']) (by unfold maxLen;omega) (by omega) (by simp;omega) ?_)
     intro v8 w8 ho8 hg8 _ _;have HS8:=lhd (HSO.out.snoc (s:=(xk,xn,rl)) hg8 HVO.out ho8);have HB8:=lhd (HB7.out.grown hg8 (by simp;omega) (fun q hq=>(HSO.out.s.lt q hq).1));clear ho8 hg8 c0 c1 c2;go_wp2_with fail;go_roundw;case rel=>exact⟨j+1,_,by omega,by go_num,by simp[HML.out],HST.out _ (by rw[HE.out];simp),HS8.out,HB8.out⟩
     case measure=>simp[intOf];omega
    ·rename_i hh
     clear hh;have hb8:=zrz B5.out (Nat.le_refl _) (.int .i64 rk) (.int .i64 rn) (.slice a5 rl.length c5);have ho8:=zq9.slr (zq9.set3 HQ5.out (show w7.heap.size<_ by simp) (.int .i64 rk) (.int .i64 rn) (.slice a5 rl.length c5)) (HTX.out.below (zem HH7.out hb8));have hy8:=((HX5.out.set (j:=0) (by simp) (.int .i64 rk)).set (j:=1) (by simp) (.int .i64 rn)).set (j:=2) (by simp) (.slice a5 rl.length c5);clear v0 v1 v2 v3 v4 v5 v6 q0 q1 q2 q3 q4 q5 q6 hx5 x5 x6 x7 z0 z1 z2;generalize ((w5.setCell ⟨w7.heap.size,0,none⟩ (.int .i64 rk)).setCell ⟨w7.heap.size,1,none⟩ (.int .i64 rn)).setCell ⟨w7.heap.size,2,none⟩ (.slice a5 rl.length c5)=w8 at hb8 ho8 hy8⊢;generalize hDy:w7.heap.size=Dy at hy8⊢;have hz8:=hb8.size;have y2:=hy8.cell (j:=2) rfl;have hb80:=zem HH7.out hb8;have HX8:=lhd (HX7.out.below hb8 (by omega));have HB80:=lhd hb80;clear hb8 hb80 hy8;go_wp2_with fail;refine(zrN _ rl _ ho8 hpf).mono ?_;rintro e w9 ⟨v9,rfl,ho9,hb9⟩;obtain⟨a9,c9,rfl,-,-⟩:=(SlR.of_own ho9).shape;have hx9:=HX8.out.below hb9 (by omega);have x2c:=hx9.cell (j:=2) rfl;have x2f:=hx9.free (j:=2) (by simp);have hx10:=hx9.set (j:=2) (by simp) (.slice a9 rl.length c9);have hb10:=(zem HB80.out hb9).setCell (p:=⟨wr.heap.size+1,2,none⟩) (by simp) (.slice a9 rl.length c9);have hv10:=zjJ (base':=w.heap.size) (ownsRow_setCell_below ho9 (a:=⟨wr.heap.size+1,2,none⟩) (by simp;omega) (.slice a9 rl.length c9)) (by omega);have HX10:=lhd hx10;have HSO10:=lhd (HSW.out.later hb10);have HV10:=lhd hv10;have HB10:=lhd (HB.out.trans (hb10.mono HB.out.size));clear hx9 hx10 hb10 hv10 ho9 hb9 ho8 y2;obtain⟨w10,hw10⟩:∃w10,w10=w9.setCell ⟨wr.heap.size+1,2,none⟩ (.slice a9 rl.length c9):=⟨_,rfl⟩;rw[←hw10]at HX10 HSO10 HV10 HB10;go_upto_region 11 with fail;rw[←hw10];clear hw10 x2c x2f;have c0:=(HX10.out).cell (j:=0) rfl;have c1:=(HX10.out).cell (j:=1) rfl;have c2:=(HX10.out).cell (j:=2) rfl;have HC:=lhd (World.news_of_block (w:=(w10).alloc (.cells #[.int .i64 xk,.int .i64 xn,.slice a9 rl.length c9] 45)) (cs:=#[.int .i64 xk,.int .i64 xn,.slice a9 rl.length c9]) (t:=45) (fr:=(0,0)) (by exact heap_alloc_new _ _));have hso:=(HSO10.out).later ((Below.refl (w10).heap.size w10).alloc (Nat.le_refl _) (.cells #[.int .i64 xk,.int .i64 xn,.slice a9 rl.length c9] 45));have HSO:=lhd hso;have HVO:=lhd (ztq HV10.out ((Below.refl (w10).heap.size w10).alloc (Nat.le_refl _) (.cells #[.int .i64 xk,.int .i64 xn,.slice a9 rl.length c9] 45)));have HB7:=lhd ((HB10.out).alloc (HB10.out).size (.cells #[.int .i64 xk,.int .i64 xn,.slice a9 rl.length c9] 45));have hsz7:=(HB10.out).size;clear hso;go_wp2_with (at_builtin;refine wpList_append_own_at _ rfl _ _ 24 rfl w.heap.size 45 i0 (.agg #[.int .i64 0,.int .i64 0,.slice none 0 0]) 3 40 Tryz.underlying24 hi iz0 iz1 iz2 rfl (by decide) _ _ _ rfl HSO.out.s ⟨(w10).heap.size,0,none⟩ 1 1 [.int .i64 xk,.int .i64 xn,.slice a9 rl.length c9] rfl rfl HC.out (by simp[Value.oneCell']) (by unfold maxLen;omega) (by omega) (by simp;omega) ?_)
     intro v8 w8 ho8 hg8 _ _;have HS8:=lhd (HSO.out.snoc (s:=(xk,xn,rl)) hg8 HVO.out ho8);have HB8:=lhd (HB7.out.grown hg8 (by simp;omega) (fun q hq=>(HSO.out.s.lt q hq).1));clear ho8 hg8 c0 c1 c2;go_wp2_with fail;go_roundw;case rel=>exact⟨j+1,_,by omega,by go_num,by simp[HML.out],HST.out _ (by rw[HE.out];simp),HS8.out,HB8.out⟩
     case measure=>simp[intOf];omega
  ·obtain rfl:j=L.length:=by omega
   have HR2:=lhd (show M.map Prod.fst=(ztL (L.map Prod.fst) (S.map Prod.fst) D).1 by
    rw[HR.out,HM.out,List.take_of_length_le (by rw[List.length_zip,List.length_map];omega)])
   go_wp2_with fail;refine bodyPost_ret (v:=.tuple #[.slice ao M.length co,.int .i64 0]) (by simp[results,Tryz.results39,go_sem]) rfl ?_;exact⟨_,M,by rw[HR.out],HR2.out,HSW.out,HB.out⟩
set_option linter.unusedSimpArgs false
theorem za5 {B:Nat} {a w:World} (h:Below B a w) (n:Nat):Below B a (w.drewN n):=h.trans ⟨rfl,rfl,rfl,Nat.le_refl _,fun _ _=>rfl⟩
theorem zjx {w:World} {B e size n:Nat} {v:Value} {xs:List Value} (h:w.ownsRow B e size v n xs) (hn:0<n):
 ∃g c,v=.slice (some ⟨g,0,none⟩) n c∧n≤c∧B≤g∧g<w.heap.size∧∀j u,xs[j]? =some u→w.cell? ⟨g,j,none⟩=some u:=by
 rcases h.2 with⟨-,h0⟩|⟨g,cap,cur,e0,hb,hh,hc,-⟩
 ·omega
 refine⟨g,cap,e0,hc,hb,(Array.getElem?_eq_some_iff.1 hh).1,fun j u hj=>?_⟩;obtain⟨a',c',ev,-,-,-,h4⟩:=SlR.of_own h;obtain⟨b',o',rfl,hat⟩:=h4 hn;rw[e0]at ev;injection ev with ev _ _;injection ev with ev;injection ev with ev1 ev2 _;subst ev1 ev2;have:=hat j u hj;rwa [Nat.zero_add]at this
theorem BI.vr {w W:World} {t u:Tr} {p q:TP} (h:BI w t p u q W) {k:Nat} (hk:k<u.V.length):
 ∃g c,q.vv=.slice (some ⟨g,0,none⟩) u.V.length c∧w.heap.size+2≤g∧g<W.heap.size∧W.cell? ⟨g,k*7,none⟩=some (.string (bsB u.V[k].nm))∧W.cell? ⟨g,k*7+1,none⟩=some (.int .i64 u.V[k].ty)∧
  W.cell? ⟨g,k*7+2,none⟩=some (.int .i64 u.V[k].sc)∧W.cell? ⟨g,k*7+3,none⟩=some (.int .i64 u.V[k].sg)∧W.cell? ⟨g,k*7+4,none⟩=some (.bool u.V[k].rg)∧
  W.cell? ⟨g,k*7+5,none⟩=some (.int .i64 u.V[k].mb)∧W.cell? ⟨g,k*7+6,none⟩=some (.int .i64 u.V[k].lb):=by
 obtain⟨g,c,e,-,h1,h2,-⟩:=zjx h.v (by omega);have hs:=h.v;rw[e,show u.V=u.V.take k++u.V[k]::u.V.drop (k+1)by rw[←List.drop_eq_getElem_cons hk,List.take_append_drop]]at hs;have hl:(u.V.take k++u.V[k]::u.V.drop (k+1)).length=u.V.length:=by rw[←List.drop_eq_getElem_cons hk,List.take_append_drop]
 have hh:=SO.at (X:=u.V.take k) (Z:=u.V.drop (k+1)) (x:=u.V[k]) (by rw[hl]at hs;exact hs);rw[List.length_take,Nat.min_eq_left (Nat.le_of_lt hk)]at hh;exact⟨g,c,e,h1,h2,hh⟩
theorem BI.sg {w W:World} {t u:Tr} {p q:TP} (h:BI w t p u q W) {k:Nat} (hk:k<q.M.length):
 ∃g c,q.vg=.slice (some ⟨g,0,none⟩) q.M.length c∧w.heap.size+2≤g∧g<W.heap.size∧W.cell? ⟨g,k*3,none⟩=some (.int .i64 q.M[k].1.1)∧W.cell? ⟨g,k*3+1,none⟩=some (.int .i64 q.M[k].1.2.1)∧W.cell? ⟨g,k*3+2,none⟩=some q.M[k].2∧
  SlR W q.M[k].2 q.M[k].1.2.2.length (chs q.M[k].1.2.2):=by
 obtain⟨g,c,e,-,h1,h2,hc⟩:=zjx h.g (by omega);obtain⟨h3,h4,h5⟩:=zmY q.M k hk;refine⟨g,c,e,h1,h2,?_,?_,?_,?_⟩
 ·rw[Nat.mul_comm];exact hc _ _ h3
 ·rw[Nat.mul_comm];exact hc _ _ h4
 ·rw[Nat.mul_comm];exact hc _ _ h5
 ·rcases h.c _ (List.getElem_mem hk)with h6|h6
  ·exact(h.l _ h6).below h.b
  ·exact SlR.of_own h6
theorem BI.ml {w W:World} {t u:Tr} {p q:TP} (h:BI w t p u q W):q.M.length=u.G.length:=by rw[←h.m,List.length_map]
theorem zew {α:Type} {f:α→Int} {l:List α} {k:Nat} (hk:k<l.length):zeu f (l.drop k)=if f l[k]≠0 then f l[k]else zeu f (l.drop (k+1)):=by
 rw[List.drop_eq_getElem_cons hk];rfl
theorem zoG (w W:World) (t u:Tr) (p q:TP) (h:BI w t p u q W) (hf:∀v∈u.V,0≤v.sg∧v.sg<u.G.length) (hl:u.V.length≤1000) (hl2:u.G.length≤1000):
 Calls Tryz.prog 55 #[.pointer (some ⟨w.heap.size,0,none⟩)] W fun e W'=>zas w t p q.vp (zeu (fitE u.G) u.V) u e W':=by
 have HI:=lhd h;have HF:=lhd hf;have c14:=h.x.cell (j:=14) rfl;obtain⟨va,vc,ev,-,-⟩:=(SlR.of_own h.v).shape;rw[ev]at c14;have HB0:=lhd (Below.refl W.heap.size W);clear h hf;go_enter Tryz.func55,Tryz.ntmps55;go_wp2_with fail;go_loopw [12] (fun i wr=>∃k:Nat,k≤u.V.length∧i=.int .i64 k∧zeu (fitE u.G) (u.V.drop k)=zeu (fitE u.G) u.V∧Below W.heap.size W wr) (fun i _=>u.V.length-(intOf i).toNat)
 case atStart=>exact⟨0,Nat.zero_le _,rfl,rfl,HB0.out⟩
 case round=>
  obtain⟨k,hk,rfl,hgo,hb⟩:=hrel;have HB:=lhd hb;have HGO:=lhd hgo;clear hgo hb c14;by_cases hlt:k<u.V.length
  ·have HI2:=lhd (HI.out.next HB.out);obtain⟨g,c,ev2,hg1,hg2,d0,d1,d2,d3,d4,d5,d6⟩:=HI2.out.vr hlt;rw[ev]at ev2;injection ev2 with ev2 _ ev3;subst ev2 ev3;obtain⟨hs1,hs2⟩:=HF.out _ (List.getElem_mem hlt);have HG1:=lhd (zew (f:=fitE u.G) hlt);rw[HGO.out]at HG1;generalize u.V[k]=x at*;obtain⟨nm,ty,sc,sg,rg,mb,lb⟩:=x;dsimp only at d0 d1 d2 d3 d4 d5 d6 hs1 hs2;obtain⟨m,rfl⟩:∃m:Nat,sg=m:=⟨sg.toNat,by omega⟩;have hm:m<q.M.length:=by rw[HI2.out.ml];omega
   obtain⟨gg,gc,eg,hh1,hh2,s0,s1,s2,s3⟩:=HI2.out.sg hm;obtain⟨xa,xc,ex,-,-⟩:=s3.shape;rw[ex]at s2;clear s3;have c15:=HI2.out.x.cell (j:=15) rfl;rw[eg]at c15;have hML:q.M.length≤1000:=by rw[HI2.out.ml];exact hl2
   have HSG:=lhd (show sgI u.G (m:Int)=q.M[m].1 by
    unfold sgI;rw[←HI2.out.m,Int.toNat_natCast];simp[List.getD,hm])
   have HFT:=lhd (show fitE u.G ⟨nm,ty,sc,(m:Int),rg,mb,lb⟩=if q.M[m].1.1≠zgL ty∨(rg=true∧q.M[m].1.1≠0)then 7 else if rg=true∧q.M[m].1.2.1≠zqJ mb lb then 8 else 0 by
    unfold fitE;rw[HSG.out])
   clear ex;generalize q.M[m].1.2.2.length=xn at*;generalize q.M[m].1=y at*;obtain⟨kd,wd,cl⟩:=y;dsimp only at s0 s1 s2 HFT;clear HSG;have hgz:=HI2.out.lt;have X4:=lhd (zal.fresh wr #[.string (bsB nm),.int .i64 ty,.int .i64 sc,.int .i64 (m:Int),.bool rg,.int .i64 mb,.int .i64 lb] 42);have hb4:Below wr.heap.size wr (wr.alloc (.cells #[.string (bsB nm),.int .i64 ty,.int .i64 sc,.int .i64 (m:Int),.bool rg,.int .i64 mb,.int .i64 lb] 42)):=(Below.refl _ _).alloc (Nat.le_refl _) _;have hz4:wr.heap.size<(wr.alloc (.cells #[.string (bsB nm),.int .i64 ty,.int .i64 sc,.int .i64 (m:Int),.bool rg,.int .i64 mb,.int .i64 lb] 42)).heap.size:=by simp
   go_wp2_with fail;generalize wr.alloc (.cells #[.string (bsB nm),.int .i64 ty,.int .i64 sc,.int .i64 (m:Int),.bool rg,.int .i64 mb,.int .i64 lb] 42)=w4 at*;have e3:=X4.out.cell (j:=3) rfl;rw[←hb4.cell (p:=⟨gg,m*3,none⟩) hh2]at s0;rw[←hb4.cell (p:=⟨gg,m*3+1,none⟩) hh2]at s1;rw[←hb4.cell (p:=⟨gg,m*3+2,none⟩) hh2]at s2;rw[←hb4.cell (p:=⟨w.heap.size,15,none⟩) hgz]at c15;have HB4:=lhd hb4;have hz6:w.heap.size<w4.heap.size:=Nat.lt_trans hgz hz4;have hz7:gg<w4.heap.size:=Nat.lt_trans hh2 hz4;clear d0 d1 d2 d3 d4 d5 d6 hb4;go_region
   have X5:=lhd (zal.fresh w4 #[.int .i64 kd,.int .i64 wd,.slice xa xn xc] 45).drew;have hb5:Below w4.heap.size w4 (w4.alloc (.cells #[.int .i64 kd,.int .i64 wd,.slice xa xn xc] 45)).drew:=((Below.refl _ _).alloc (Nat.le_refl _) _).drew;have hz5:w4.heap.size<(w4.alloc (.cells #[.int .i64 kd,.int .i64 wd,.slice xa xn xc] 45)).drew.heap.size:=by show _<(w4.alloc _).heap.size;simp
   generalize (w4.alloc (.cells #[.int .i64 kd,.int .i64 wd,.slice xa xn xc] 45)).drew=w5 at*;have X4:=lhd (X4.out.below hb5 hz4);have HB5:=lhd (HB.out.trans ((HB4.out.trans (hb5.mono HB4.out.size)).mono HB.out.size));clear s0 s1 s2 c15 e3 hb5 HB4;have r1:=X4.out.cell (j:=1) rfl;have r4:=X4.out.cell (j:=4) rfl;have r5:=X4.out.cell (j:=5) rfl;have r6:=X4.out.cell (j:=6) rfl;have v0:=X5.out.cell (j:=0) rfl;have v1:=X5.out.cell (j:=1) rfl;have HKD:=lhd (fun W=>zo4 ty W);have HWI:=lhd (fun W=>zhW mb lb W);generalize zgL ty=kf at*;generalize zqJ mb lb=wf at*;by_cases hA:kd=kf
   ·subst hA;cases rg with
    |false=>
     have hR:=HG1.out;simp[HFT.out]at hR;have HR:=lhd hR.symm;clear hR;go_wp2_with fail;go_quiet ((go_at_call 16;exact Calls.quiet_of_same ((HKD.out _).mono (by rintro e w ⟨rfl,rfl⟩;exact⟨rfl,rfl⟩))))
     have HB6:=lhd (za5 HB5.out nq);have q4:=(World.cell?_drewN w5 nq _).trans r4;have q5:=(World.cell?_drewN w5 nq _).trans r5;have q6:=(World.cell?_drewN w5 nq _).trans r6;have y1:=(World.cell?_drewN w5 nq _).trans v1;generalize w5.drewN nq=w6 at*;clear r1 r4 r5 r6 v0 v1;go_wp2_with fail;go_quiet (fail);clear q4 q5 q6 y1;have HB7:=lhd (za5 HB6.out nq);go_wp2_with fail;go_roundw;case rel=>exact⟨k+1,hlt,by go_num,HR.out,HB7.out⟩
     case measure=>simp[intOf];omega
    |true=>
     by_cases hk0:kd=0
     ·subst hk0;by_cases hw:wd=wf
      ·subst hw;have hR:=HG1.out;simp[HFT.out]at hR;have HR:=lhd hR.symm;clear hR;go_wp2_with fail;go_quiet ((go_at_call 16;exact Calls.quiet_of_same ((HKD.out _).mono (by rintro e w ⟨rfl,rfl⟩;exact⟨rfl,rfl⟩))))
       have HB6:=lhd (za5 HB5.out nq);have q4:=(World.cell?_drewN w5 nq _).trans r4;have q5:=(World.cell?_drewN w5 nq _).trans r5;have q6:=(World.cell?_drewN w5 nq _).trans r6;have y1:=(World.cell?_drewN w5 nq _).trans v1;generalize w5.drewN nq=w6 at*;clear r1 r4 r5 r6 v0 v1;go_wp2_with fail;go_quiet ((go_at_call 122;exact Calls.quiet_of_same ((HWI.out _).mono (by rintro e w ⟨rfl,rfl⟩;exact⟨rfl,rfl⟩))))
       clear q4 q5 q6 y1;have HB7:=lhd (za5 HB6.out nq);go_wp2_with fail;go_roundw;case rel=>exact⟨k+1,hlt,by go_num,HR.out,HB7.out⟩
       case measure=>simp[intOf];omega
      ·have bw:(wd==wf)=false:=by simpa using hw
       have hR:=HG1.out;simp[HFT.out,hw]at hR;have HR:=lhd hR.symm;clear hR;go_wp2_with fail;go_quiet ((go_at_call 16;exact Calls.quiet_of_same ((HKD.out _).mono (by rintro e w ⟨rfl,rfl⟩;exact⟨rfl,rfl⟩))))
       have HB6:=lhd (za5 HB5.out nq);have q4:=(World.cell?_drewN w5 nq _).trans r4;have q5:=(World.cell?_drewN w5 nq _).trans r5;have q6:=(World.cell?_drewN w5 nq _).trans r6;have y1:=(World.cell?_drewN w5 nq _).trans v1;generalize w5.drewN nq=w6 at*;clear r1 r4 r5 r6 v0 v1;go_wp2_with fail;go_quiet ((go_at_call 122;exact Calls.quiet_of_same ((HWI.out _).mono (by rintro e w ⟨rfl,rfl⟩;exact⟨rfl,rfl⟩))))
       clear q4 q5 q6 y1;have HB7:=lhd (za5 HB6.out nq);have HI7:=lhd (HI.out.next HB7.out);go_wp2_with fail;go_ret;exact⟨zlj HR.out,HI7.out.b,fun h=>by rw[←HR.out]at h;cases h⟩
     ·have bk0:(kd==0)=false:=by simpa using hk0
      have hR:=HG1.out;rw[HFT.out,if_pos (Or.inr ⟨rfl,hk0⟩),if_pos (by decide)]at hR;have HR:=lhd hR.symm;clear hR;go_wp2_with fail;go_quiet ((go_at_call 16;exact Calls.quiet_of_same ((HKD.out _).mono (by rintro e w ⟨rfl,rfl⟩;exact⟨rfl,rfl⟩))))
      have HB6:=lhd (za5 HB5.out nq);have HI6:=lhd (HI.out.next HB6.out);clear r1 r4 r5 r6 v0 v1;go_wp2_with fail;go_ret;exact⟨zlj HR.out,HI6.out.b,fun h=>by rw[←HR.out]at h;cases h⟩
   ·have bA:(kd==kf)=false:=by simpa using hA
    have hR:=HG1.out;rw[HFT.out,if_pos (Or.inl hA),if_pos (by decide)]at hR;have HR:=lhd hR.symm;clear hR;go_wp2_with fail;go_quiet ((go_at_call 16;exact Calls.quiet_of_same ((HKD.out _).mono (by rintro e w ⟨rfl,rfl⟩;exact⟨rfl,rfl⟩))))
    have HB6:=lhd (za5 HB5.out nq);have HI6:=lhd (HI.out.next HB6.out);clear r1 r4 r5 r6 v0 v1;go_wp2_with fail;go_ret;exact⟨zlj HR.out,HI6.out.b,fun h=>by rw[←HR.out]at h;cases h⟩
  ·obtain rfl:k=u.V.length:=by omega
   have HR:=lhd (show(0:Int)=zeu (fitE u.G) u.V by rw[←HGO.out,List.drop_length];rfl);have HI2:=lhd (HI.out.next HB.out);go_wp2_with fail;go_ret;exact⟨zlj HR.out,HI2.out.b,fun _=>⟨q,HI2.out,rfl⟩⟩
end Go.Proofs.YtbiadennhnokhaaGreatDoor
