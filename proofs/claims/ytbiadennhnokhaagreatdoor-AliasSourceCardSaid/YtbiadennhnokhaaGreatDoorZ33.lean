import Derived.Test.YtbiadennhnokhaaGreatDoorZ00
import Derived.Test.YtbiadennhnokhaaGreatDoorZ30
set_option maxRecDepth 100000
set_option maxHeartbeats 16000000
namespace Go.Proofs.YtbiadennhnokhaaGreatDoor
open Go.RowKit
theorem zdZ {w:World} {a:Option Addr} {cap:Nat} {l:List Dv} (h:SlR w (.slice a l.length cap) l.length (dvs l)) {j:Nat} (hj:j<l.length):
 ∃b o,a=some ⟨b,o,none⟩∧w.cell? ⟨b,o+j*3,none⟩=some (.int .i64 l[j].1)∧w.cell? ⟨b,o+j*3+1,none⟩=some (.int .i64 l[j].2.1)∧w.cell? ⟨b,o+j*3+2,none⟩=some (.bool l[j].2.2):=by
 obtain⟨b,o,cap',hv,-,-,hcell⟩:=h.at (by omega);injection hv with e1 _ _;obtain⟨h0,h1,h2⟩:=zd1 l j hj;refine⟨b,o,e1,?_,?_,?_⟩
 ·have:=hcell _ _ h0;rwa [Nat.mul_comm 3 j]at this
 ·have:=hcell _ _ h1;rwa [Nat.mul_comm 3 j,←Nat.add_assoc]at this
 ·have:=hcell _ _ h2;rwa [Nat.mul_comm 3 j,←Nat.add_assoc]at this
theorem zls (v u:Value) (l m:List Dv) (w:World) (hs:SlR w v l.length (dvs l)) (ht:SlR w u m.length (dvs m)):
 Calls Tryz.prog 101 #[v,u] w fun e w'=>e=.returned (.bool (decide (l=m)))∧Below w.heap.size w w':=by
 obtain⟨a,cap,rfl,hc,hm⟩:=hs.shape;obtain⟨a2,cap2,rfl,hc2,hm2⟩:=ht.shape;unfold maxLen at hm hm2;have HS:=lhd hs;have HT:=lhd ht;clear hs ht;by_cases hne:l.length≠m.length
 ·have E:=lhd (show decide (l=m)=false by rw[decide_eq_false_iff_not];intro h;exact hne (by rw[h]));have hb:((l.length:Int) !=(m.length:Int))=true:=by rw[bne_iff_ne];omega
  clear hne;go_enter Tryz.func101,Tryz.ntmps101;go_wp2_with fail;go_ret;exact⟨zlE E.out.symm,Below.refl _ _⟩
 have hlen:l.length=m.length:=by omega
 have hb:((l.length:Int) !=(m.length:Int))=false:=by rw[hlen];simp
 clear hne;go_enter Tryz.func101,Tryz.ntmps101;go_wp2_with fail
 go_loopw [5] (fun i wr=>∃(j:Nat),j≤l.length∧i=.int .i64 j∧l.take j=m.take j∧Below w.heap.size w wr)
  (fun i _=>l.length-(intOf i).toNat)
 case atStart=>exact⟨0,Nat.zero_le _,rfl,rfl,Below.refl _ _⟩
 case round=>
  obtain⟨j,hj,rfl,hgo,hbw⟩:=hrel;have HGO:=lhd hgo;have HB:=lhd hbw;clear hgo hbw;by_cases hlt:j<l.length
  ·have hlt2:j<m.length:=by omega
   obtain⟨b,o,rfl,d0,d1,d2⟩:=zdZ (HS.out.below HB.out) hlt;obtain⟨b2,o2,rfl,g0,g1,g2⟩:=zdZ (HT.out.below HB.out) hlt2;have hw:IntKind.i64.wrap ((j:Int)+1)=(j:Int)+1:=IntWalk.i64_in _ (by omega);by_cases he:l[j]=m[j]
   ·have HGO2:Hid (l.take (j+1)=m.take (j+1)):=lhd (by rw[List.take_succ_eq_append_getElem hlt,List.take_succ_eq_append_getElem hlt2,HGO.out,he]);rw[←he]at g0 g1 g2;generalize l[j]=c at d0 d1 d2 g0 g1 g2;clear he;obtain⟨x,y,z⟩:=c;dsimp only at d0 d1 d2 g0 g1 g2;go_wp2_with fail;go_quiet (fail);go_wp2_with fail;go_roundw;case rel=>exact⟨j+1,by omega,by go_num,HGO2.out,zbz HB.out _⟩
    case measure=>simp[intOf];omega
   ·have E2:=lhd (show decide (l=m)=false by rw[decide_eq_false_iff_not];intro h;subst h;exact he rfl);generalize l[j]=c at d0 d1 d2 he;generalize m[j]=c' at g0 g1 g2 he;obtain⟨x,y,z⟩:=c;obtain⟨x',y',z'⟩:=c';dsimp only at d0 d1 d2 g0 g1 g2;by_cases hx:x=x'
    ·subst hx;by_cases hy:y=y'
     ·subst hy;have hz:(z==z')=false:=by rw[beq_eq_false_iff_ne];exact fun h=>he (by rw[h])
      clear he;go_wp2_with fail;go_quiet (fail);go_wp2_with fail;go_ret;exact⟨zlE E2.out.symm,zbz HB.out _⟩
     ·have hyb:(y==y')=false:=by rw[beq_eq_false_iff_ne];exact hy
      clear he;go_wp2_with fail;go_quiet (fail);go_wp2_with fail;go_ret;exact⟨zlE E2.out.symm,zbz HB.out _⟩
    ·have hxb:(x==x')=false:=by rw[beq_eq_false_iff_ne];exact hx
     clear he;go_wp2_with fail;go_quiet (fail);go_wp2_with fail;go_ret;exact⟨zlE E2.out.symm,zbz HB.out _⟩
  ·obtain rfl:j=l.length:=by omega
   have E2:=lhd (show decide (l=m)=true by rw[decide_eq_true_iff];have:=HGO.out;rwa [List.take_length,hlen,List.take_length]at this);go_wp2_with fail;go_ret;exact⟨zlE E2.out.symm,HB.out⟩
theorem zlu (v u:Value) (L M:List (Sg×Value)) (w:World) (hs:Sigs w v L) (ht:Sigs w u M):
 Calls Tryz.prog 102 #[v,u] w fun e w'=>e=.returned (.bool (decide (L.map Prod.fst=M.map Prod.fst)))∧Below w.heap.size w w':=by
 obtain⟨a,cap,rfl,hc,hm⟩:=hs.s.shape;obtain⟨a2,cap2,rfl,hc2,hm2⟩:=ht.s.shape;unfold maxLen at hm hm2;have HS:=lhd hs;have HT:=lhd ht;clear hs ht;by_cases hne:L.length≠M.length
 ·have E:=lhd (show decide (L.map Prod.fst=M.map Prod.fst)=false by rw[decide_eq_false_iff_not];intro h;exact hne (by have:=congrArg List.length h;simpa using this));have hb:((L.length:Int) !=(M.length:Int))=true:=by rw[bne_iff_ne];omega
  clear hne;go_enter Tryz.func102,Tryz.ntmps102;go_wp2_with fail;go_ret;exact⟨zlE E.out.symm,Below.refl _ _⟩
 have HLEN:=lhd (show L.length=M.length by omega);have hb:((L.length:Int) !=(M.length:Int))=false:=by rw[HLEN.out];simp
 clear hne;go_enter Tryz.func102,Tryz.ntmps102;go_wp2_with fail
 go_loopw [5] (fun i wr=>∃(j:Nat),j≤L.length∧i=.int .i64 j∧(L.take j).map Prod.fst=(M.take j).map Prod.fst∧Below w.heap.size w wr)
  (fun i _=>L.length-(intOf i).toNat)
 case atStart=>exact⟨0,Nat.zero_le _,rfl,rfl,Below.refl _ _⟩
 case round=>
  obtain⟨j,hj,rfl,hgo,hbw⟩:=hrel;have HGO:=lhd hgo;have HB:=lhd hbw;clear hgo hbw;by_cases hlt:j<L.length
  ·have hlt2:j<M.length:=by have:=HLEN.out;omega
   obtain⟨b,o,rfl,d0,d1,d2,hd⟩:=(HS.out.below HB.out).at hlt;obtain⟨b2,o2,rfl,g0,g1,g2,hg⟩:=(HT.out.below HB.out).at hlt2;have hw:IntKind.i64.wrap ((j:Int)+1)=(j:Int)+1:=IntWalk.i64_in _ (by omega)
   have HE:=lhd (show L[j].1=M[j].1→(L.take (j+1)).map Prod.fst=(M.take (j+1)).map Prod.fst from fun h=>by
    rw[List.take_succ_eq_append_getElem hlt,List.take_succ_eq_append_getElem hlt2,List.map_append,List.map_append,HGO.out];simp[h])
   have HN:=lhd (show L[j].1≠M[j].1→decide (L.map Prod.fst=M.map Prod.fst)=false from fun h=>by
    rw[decide_eq_false_iff_not];intro h2;have h3:=congrArg (fun l=>l[j]?) h2;simp[hlt,hlt2]at h3;exact h h3)
   generalize L[j]=x at d0 d1 d2 hd HE HN;generalize M[j]=y at g0 g1 g2 hg HE HN;obtain⟨⟨xk,xn,xl⟩,xv⟩:=x;obtain⟨⟨yk,yn,yl⟩,yv⟩:=y;dsimp only at d0 d1 d2 hd g0 g1 g2 hg HE HN;obtain⟨xa,xc,rfl,-,-⟩:=hd.shape;obtain⟨ya,yc,rfl,-,-⟩:=hg.shape;have HQ:=lhd (fun W hW=>zlq xk xn yk yn (.slice xa xl.length xc) (.slice ya yl.length yc) xl yl W (hd.below hW) (hg.below hW));clear hd hg;go_upto_region 6 with fail
   go_region_held3 (fun w'=>w'.cell? ⟨b,o+j*3,none⟩=some (.int .i64 xk)∧w'.cell? ⟨b,o+j*3+1,none⟩=some (.int .i64 xn)∧w'.cell? ⟨b,o+j*3+2,none⟩=some (.slice xa xl.length xc)∧
    w'.cell? ⟨b2,o2+j*3,none⟩=some (.int .i64 yk)∧w'.cell? ⟨b2,o2+j*3+1,none⟩=some (.int .i64 yn)∧w'.cell? ⟨b2,o2+j*3+2,none⟩=some (.slice ya yl.length yc))
    (first|exact⟨d0,d1,d2,g0,g1,g2⟩|exact⟨(hb2.cell (zcn d0)).trans d0,(hb2.cell (zcn d1)).trans d1,(hb2.cell (zcn d2)).trans d2,(hb2.cell (zcn g0)).trans g0,(hb2.cell (zcn g1)).trans g1,(hb2.cell (zcn g2)).trans g2⟩|go_keep)
    (first
      |(go_at_call 72
        (with_reducible refine(HQ.out _ ?_).mono ?_)
        ·exact zbz (Below.refl _ _) _
        rintro e w2 ⟨rfl,hb2'⟩;have hb2:=zbL hb2';clear hb2'))
   rename_i hh
   clear hh;have HB2:=lhd (zeG HB.out hb2);clear hb2 d0 d1 d2 g0 g1 g2;cases hq:sEq xk xn xl yk yn yl
   ·have HR:=lhd (show false=decide (L.map Prod.fst=M.map Prod.fst)from(HN.out (fun h=>by
     injection h with h1 h2;injection h2 with h2 h3;subst h1 h2 h3;unfold sEq zlY at hq;simp at hq)).symm)
    clear hq;go_wp2_with fail;go_ret;exact⟨zlE HR.out,HB2.out⟩
   ·have HGO2:=lhd (HE.out (by
     unfold sEq zlY at hq;simp at hq;obtain⟨h1,h2,h3⟩:=hq;rw[h1,h2,h3]))
    clear hq;go_wp2_with fail;go_roundw;case rel=>exact⟨j+1,by omega,by go_num,HGO2.out,HB2.out⟩
    case measure=>simp[intOf];omega
  ·obtain rfl:j=L.length:=by omega
   have E2:=lhd (show decide (L.map Prod.fst=M.map Prod.fst)=true by rw[decide_eq_true_iff];have:=HGO.out;rwa [List.take_length,HLEN.out,List.take_length]at this);go_wp2_with fail;go_ret;exact⟨zlE E2.out.symm,HB.out⟩
theorem zmF:(Tryz.prog.info? 45).map (fun i=>(i.zero,i.size,i.bytes))=some (some (.agg #[.int .i64 0,.int .i64 0,.slice none 0 0]),3,40):=by kernel_rfl
def ze5 (l st:List Sg) (d:List Dv) (j:Nat):Bool:=((l.zip d).drop j).all fun p=>ze6 p.1 st p.2
theorem ze8 {l st:List Sg} {d:List Dv} {j:Nat} (h1:j<l.length) (h2:j<d.length):ze5 l st d j=(ze6 l[j] st d[j]&&ze5 l st d (j+1)):=by
 have h:j<(l.zip d).length:=by rw[List.length_zip];omega
 unfold ze5;rw[List.drop_eq_getElem_cons h,List.all_cons,List.getElem_zip]
theorem zaO (v v2 v3:Value) (L S:List (Sg×Value)) (D:List Dv) (w:World) (hs:Sigs w v L) (ht:Sigs w v2 S) (hd:SlR w v3 D.length (dvs D)):
 Calls Tryz.prog 40 #[v,v2,v3] w fun e w'=>e=.returned (.bool (zqw (L.map Prod.fst) (S.map Prod.fst) D))∧Below w.heap.size w w':=by
 obtain⟨a,cap,rfl,hc,hm⟩:=hs.s.shape;obtain⟨a2,cap2,rfl,hc2,hm2⟩:=ht.s.shape;obtain⟨a3,cap3,rfl,hc3,hm3⟩:=hd.shape;have HT1:=lhd (fun W hW=>zaR _ L W (hs.below hW) (fun x hx W' hW'=>za0 x.1 x.2 W' (by obtain⟨a,c,e,-,-⟩:=(hs.m x hx).shape;exact⟨_,_,_,e⟩)));have HT2:=lhd (fun W hW=>zaR _ S W (ht.below hW) (fun x hx W' hW'=>za0 x.1 x.2 W' (by obtain⟨a,c,e,-,-⟩:=(ht.m x hx).shape;exact⟨_,_,_,e⟩)));have HS:=lhd hs;have HT:=lhd ht;have HD:=lhd hd
 have HR:=lhd (show zqw (L.map Prod.fst) (S.map Prod.fst) D=(decide (L.length≤64)&&decide (S.length≤64)&&decide (D.length=L.length)&&(L.all fun x=>tyS x.1)&&(S.all fun x=>tyS x.1)&&ze5 (L.map Prod.fst) (S.map Prod.fst) D 0)by
  unfold zqw ze5;rw[List.length_map,List.length_map,List.all_map,List.all_map];rfl)
 clear hs ht hd hm hm2 hm3;by_cases h1:¬(L.length≤64∧S.length≤64∧D.length=L.length)
 ·have HR2:=lhd (show false=zqw (L.map Prod.fst) (S.map Prod.fst) D by
   rw[HR.out];by_cases a1:L.length≤64
   ·by_cases a2:S.length≤64
    ·by_cases a3:D.length=L.length
     ·exact absurd ⟨a1,a2,a3⟩ h1
     ·simp[a3]
    ·simp[a2]
   ·simp[a1])
  by_cases a1:L.length≤64
  ·have b1:decide ((L.length:Int)>64)=false:=by rw[decide_eq_false_iff_not];omega
   by_cases a2:S.length≤64
   ·have b2:decide ((S.length:Int)>64)=false:=by rw[decide_eq_false_iff_not];omega
    have b3:((D.length:Int) !=(L.length:Int))=true:=by rw[bne_iff_ne];omega
    clear h1 a1 a2;go_enter Tryz.func40,Tryz.ntmps40;go_wp2_with fail;go_ret;exact⟨zlE HR2.out,Below.refl _ _⟩
   ·have b2:decide ((S.length:Int)>64)=true:=by rw[decide_eq_true_iff];omega
    clear h1 a1 a2;go_enter Tryz.func40,Tryz.ntmps40;go_wp2_with fail;go_ret;exact⟨zlE HR2.out,Below.refl _ _⟩
  ·have b1:decide ((L.length:Int)>64)=true:=by rw[decide_eq_true_iff];omega
   clear h1 a1;go_enter Tryz.func40,Tryz.ntmps40;go_wp2_with fail;go_ret;exact⟨zlE HR2.out,Below.refl _ _⟩
 obtain⟨hl,hsl,hdl⟩:=Classical.not_not.1 h1;have b1:decide ((L.length:Int)>64)=false:=by rw[decide_eq_false_iff_not];omega
 have b2:decide ((S.length:Int)>64)=false:=by rw[decide_eq_false_iff_not];omega
 have b3:((D.length:Int) !=(L.length:Int))=false:=by rw[hdl];simp
 clear h1;go_enter Tryz.func40,Tryz.ntmps40;go_wp2_with fail;refine(HT1.out _ (Below.refl _ _)).mono ?_;rintro e w1 ⟨rfl,hb1⟩;have HB1:=lhd hb1;clear hb1;cases hA:L.all fun x=>tyS x.1
 ·have HR2:=lhd (show false=zqw (L.map Prod.fst) (S.map Prod.fst) D by rw[HR.out,hA];simp);clear hA;go_wp2_with fail;go_ret;exact⟨zlE HR2.out,HB1.out⟩
 have HA:=lhd hA;clear hA;go_wp2_with fail;refine(HT2.out _ HB1.out).mono ?_;rintro e w2 ⟨rfl,hb2⟩;have HB2:=lhd (zeG HB1.out hb2);clear hb2 HB1;cases hB:S.all fun x=>tyS x.1
 ·have HR2:=lhd (show false=zqw (L.map Prod.fst) (S.map Prod.fst) D by rw[HR.out,hB];simp);clear hB;go_wp2_with fail;go_ret;exact⟨zlE HR2.out,HB2.out⟩
 have HBB:=lhd hB;have HR3:=lhd (show ze5 (L.map Prod.fst) (S.map Prod.fst) D 0=zqw (L.map Prod.fst) (S.map Prod.fst) D by rw[HR.out,HA.out,hB];simp[hl,hsl,hdl]);clear hB;go_wp2_with fail;go_loopw [36] (fun i wr=>∃(j:Nat),j≤L.length∧i=.int .i64 j∧ze5 (L.map Prod.fst) (S.map Prod.fst) D j=zqw (L.map Prod.fst) (S.map Prod.fst) D∧Below w.heap.size w wr) (fun i _=>L.length-(intOf i).toNat)
 case atStart=>exact⟨0,Nat.zero_le _,rfl,HR3.out,HB2.out⟩
 case round=>
  obtain⟨j,hj,rfl,hgo,hb⟩:=hrel;have HGO:=lhd hgo;have HB:=lhd hb;clear hgo hb HB2 HR3;by_cases hlt:j<L.length
  ·have hlt2:j<D.length:=by omega
   obtain⟨b,o,rfl,y0,y1,y2,hy⟩:=(HS.out.below HB.out).at hlt;obtain⟨b3,o3,rfl,z0,z1,z2⟩:=zdZ (HD.out.below HB.out) hlt2
   have HGO2:=lhd (show(ze6 L[j].1 (S.map Prod.fst) D[j]&&ze5 (L.map Prod.fst) (S.map Prod.fst) D (j+1))=zqw (L.map Prod.fst) (S.map Prod.fst) D by
    rw[←HGO.out,ze8 (by simpa using hlt) hlt2];simp)
   have hty:tyS L[j].1=true:=List.all_eq_true.1 HA.out _ (List.getElem_mem hlt);generalize L[j]=x at y0 y1 y2 hy HGO2 hty;generalize D[j]=d at z0 z1 z2 HGO2;obtain⟨⟨xk,xn,xl⟩,xv⟩:=x;obtain⟨do_,df,di⟩:=d;dsimp only at y0 y1 y2 hy HGO2 z0 z1 z2;obtain⟨xa,xc,rfl,-,-⟩:=hy.shape;have HFT:=lhd (fun W hW=>zaV (xk,xn,xl) (.slice xa xl.length xc) (.slice a2 S.length cap2) S (do_,df,di) W ⟨_,_,_,rfl⟩ (HT.out.below hW) (fun y hy=>zpD (List.all_eq_true.1 HBB.out y hy)) (zpD hty));have hz0:=zcn z0;have hbx:=HB.out.alloc HB.out.size (.cells #[.int .i64 xk,.int .i64 xn,.slice xa xl.length xc] 45);have s0:=(zas.fresh wr #[.int .i64 xk,.int .i64 xn,.slice xa xl.length xc] 45).cell (j:=0) rfl;have s1:=(zas.fresh wr #[.int .i64 xk,.int .i64 xn,.slice xa xl.length xc] 45).cell (j:=1) rfl;have s2:=(zas.fresh wr #[.int .i64 xk,.int .i64 xn,.slice xa xl.length xc] 45).cell (j:=2) rfl;have t0:=zcm z0 (.cells #[.int .i64 xk,.int .i64 xn,.slice xa xl.length xc] 45);have t1:=zcm z1 (.cells #[.int .i64 xk,.int .i64 xn,.slice xa xl.length xc] 45);have t2:=zcm z2 (.cells #[.int .i64 xk,.int .i64 xn,.slice xa xl.length xc] 45);clear hy hty;go_upto_region 6 with fail;generalize wr.alloc (.cells #[.int .i64 xk,.int .i64 xn,.slice xa xl.length xc] 45)=w5 at hbx s0 s1 s2 t0 t1 t2⊢;generalize wr.heap.size=Bx at s0 s1 s2⊢;have HBX:=lhd hbx;clear z0 z1 z2 y0 y1 y2 hbx
   go_region_held3 (fun w'=>w'.cell? ⟨Bx,0,none⟩=some (.int .i64 xk)∧w'.cell? ⟨Bx,1,none⟩=some (.int .i64 xn)∧w'.cell? ⟨Bx,2,none⟩=some (.slice xa xl.length xc)∧
    w'.cell? ⟨b3,o3+j*3,none⟩=some (.int .i64 do_)∧w'.cell? ⟨b3,o3+j*3+1,none⟩=some (.int .i64 df)∧w'.cell? ⟨b3,o3+j*3+2,none⟩=some (.bool di))
    (first|exact⟨s0,s1,s2,t0,t1,t2⟩|exact⟨(hb6.cell (zcn s0)).trans s0,(hb6.cell (zcn s1)).trans s1,(hb6.cell (zcn s2)).trans s2,(hb6.cell (zcn t0)).trans t0,(hb6.cell (zcn t1)).trans t1,(hb6.cell (zcn t2)).trans t2⟩|go_keep)
    (first
      |(go_at_call 107
        (with_reducible refine(HFT.out _ ?_).mono ?_)
        ·exact zbz HBX.out _
        rintro e w6 ⟨rfl,hb6'⟩;have hb6:=zbL hb6';clear hb6'))
   rename_i hh
   clear hh;have HB6:=lhd (zeG HBX.out hb6);clear hb6 s0 s1 s2 t0 t1 t2;cases hq:ze6 (xk,xn,xl) (S.map Prod.fst) (do_,df,di)
   ·have HR4:=lhd (show false=zqw (L.map Prod.fst) (S.map Prod.fst) D by rw[←HGO2.out,hq];rfl);clear hq;go_wp2_with fail;go_ret;exact⟨zlE HR4.out,HB6.out⟩
   ·have HGO3:=lhd (show ze5 (L.map Prod.fst) (S.map Prod.fst) D (j+1)=zqw (L.map Prod.fst) (S.map Prod.fst) D by rw[←HGO2.out,hq,Bool.true_and]);clear hq;go_wp2_with fail;go_roundw;case rel=>exact⟨j+1,by omega,by go_num,HGO3.out,HB6.out⟩
    case measure=>simp[intOf];omega
  ·obtain rfl:j=L.length:=by omega
   have HR4:=lhd (show true=zqw (L.map Prod.fst) (S.map Prod.fst) D by
    rw[←HGO.out];unfold ze5;rw[List.drop_eq_nil_iff.2 (by rw[List.length_zip,List.length_map];omega)];rfl)
   go_wp2_with fail;go_ret;exact⟨zlE HR4.out,HB.out⟩
theorem znj (k n:Int) (l:List Ch) (f w:Int):Fit (znh k n l f w).1.2.2:=by
 have h0:Fit []:=⟨by simp,by simp⟩;unfold znh;split
 ·exact h0
 ·rename_i h1
  split
  ·exact h0
  ·rename_i h2
   obtain rfl:k=0:=Classical.not_not.1 h2;have hv:sv 0 n l=true:=by simpa using h1
   split
   ·exact h0
   ·rename_i h3
    have hc:=(zng (zq1 (zoI.1 hv).1)).1 (Classical.not_not.1 h3);obtain⟨p,e1,e2,-,-⟩:=znk hv hc;unfold znh at e1;rw[if_neg h1,if_neg h2,if_neg h3]at e1;rw[e1];exact zoH e2
theorem zgF (k n:Int) (l:List Ch):Fit (invR k n l).1.2.2:=by
 have h0:Fit []:=⟨by simp,by simp⟩;unfold invR;split
 ·exact h0
 ·rename_i h1
  split
  ·exact h0
  ·rename_i h2
   obtain rfl:k=0:=Classical.not_not.1 h2;have hv:sv 0 n l=true:=by simpa using h1
   obtain⟨q,e1,e2,-,-⟩:=zgH hv;unfold invR at e1;rw[if_neg h1,if_neg h2]at e1;rw[e1];exact zoH e2
theorem zkx {st:Sg} (h:Fit st.2.2) (fr:Int) (inv:Bool) (width:Int):Fit (zkw st fr inv width).1.2.2:=by
 unfold zkw;split
 ·exact h
 ·split
  ·exact zgF _ _ _
  ·exact znj _ _ _ _ _
theorem ze7 {s:Sg} {st:List Sg} {d:Dv} (h:ze6 s st d=true) (hn:d.1≠ -1):0≤d.1∧d.1<st.length:=by
 unfold ze6 at h;split at h
 ·cases h
 ·omega
theorem zkg {w:World} {B B' e e' size size' n n':Nat} {v v':Value} {xs xs':List Value} (h:w.ownsRow B e size v n xs) (h':w.ownsRow B' e' size' v' n' xs') (hne:e≠e'):v.ownBlock=none∨v.ownBlock≠v'.ownBlock:=by
 rcases h.2 with⟨rfl,_⟩|⟨g,cap,cur,rfl,_,hgg,_⟩
 ·exact .inl rfl
 ·rcases h'.2 with⟨rfl,_⟩|⟨g',cap',cur',rfl,_,hgg',_⟩
  ·exact .inr (by simp[Value.ownBlock])
  ·refine .inr fun he=>?_;simp only[Value.ownBlock,Option.some.injEq]at he;subst he;rw[hgg]at hgg';simp only[Option.some.injEq,Obj.cells.injEq]at hgg';exact hne hgg'.2.1
structure SigOwn (B:Nat) (w:World) (v:Value) (M:List (Sg×Value)):Prop where
 s:w.ownsRow B 45 3 v M.length (sgs M)
 m:∀x∈M,w.ownsRow B 53 2 x.2 x.1.2.2.length (chs x.1.2.2)
theorem SigOwn.sigs {B:Nat} {w:World} {v:Value} {M:List (Sg×Value)} (h:SigOwn B w v M):Sigs w v M:=⟨SlR.of_own h.s,fun x hx=>SlR.of_own (h.m x hx)⟩
theorem zkc {W W':World} {B e size n:Nat} {v:Value} {xs:List Value} (h:W.ownsRow B e size v n xs) (hb:RowKit.Below W.heap.size W W'):W'.ownsRow B e size v n xs:=
 h.kept (row:=none) ⟨hb.os,hb.tape,hb.output,hb.size,fun i hi _=>hb.block i hi⟩ (by cases v.ownBlock<;>simp)
theorem SigOwn.later {B:Nat} {w W:World} {v:Value} {M:List (Sg×Value)} (h:SigOwn B w v M) (hb:Below w.heap.size w W):SigOwn B W v M:=⟨zkc h.s hb,fun x hx=>zkc (h.m x hx) hb⟩
theorem SigOwn.snoc {B:Nat} {w W:World} {v v':Value} {M:List (Sg×Value)} {s:Sg} {u:Value} (h:SigOwn B w v M) (hg:w.grownBy W v.ownBlock) (hu:w.ownsRow B 53 2 u s.2.2.length (chs s.2.2))
 (ho:W.ownsRow B 45 3 v' (M.length+1) (sgs M++ [.int .i64 s.1,.int .i64 s.2.1,u])):SigOwn B W v' (M++ [(s,u)]):=by
 refine⟨by rw[zmG,List.length_append];exact ho,fun x hx=>?_⟩
 have hx2:w.ownsRow B 53 2 x.2 x.1.2.2.length (chs x.1.2.2):=by
  rcases List.mem_append.1 hx with hx|hx
  ·exact h.m x hx
  ·rw[List.mem_singleton]at hx;subst hx;exact hu
 exact hx2.kept hg (zkg hx2 h.s (by decide))
theorem zaM (v v2 v3:Value) (L S:List (Sg×Value)) (D:List Dv) (w:World) (hg:Glob w) (hs:Sigs w v L) (ht:Sigs w v2 S) (hd:SlR w v3 D.length (dvs D)) (hf:FitS S):
 Calls Tryz.prog 39 #[v,v2,v3] w fun e w'=>∃v' M,e=.returned (.tuple #[v',.int .i64 (zlD (L.map Prod.fst) (S.map Prod.fst) D).2])∧M.map Prod.fst=(zlD (L.map Prod.fst) (S.map Prod.fst) D).1∧SigOwn w.heap.size w' v' M∧Below w.heap.size w w':=by
 obtain⟨i0,hi,iz0,iz1,iz2⟩:=info_parts (P:=Tryz.prog) zmF;obtain⟨a,cap,rfl,hc,hm⟩:=hs.s.shape;obtain⟨a2,cap2,rfl,hc2,hm2⟩:=ht.s.shape;obtain⟨a3,cap3,rfl,hc3,hm3⟩:=hd.shape;have HAV:=lhd (zaS _ S w ht (fun x hx W hW=>zmY x.1.1 x.1.2.1 x.2 x.1.2.2 W (hg.below hW) ((ht.m x hx).below hW) (hf.2 x hx)));have HVD:=lhd (fun W hW=>zaO _ _ _ L S D W (hs.below hW) (ht.below hW) (hd.below hW));have HG:=lhd hg;have HS:=lhd hs;have HT:=lhd ht;have HD:=lhd hd;have HF:=lhd hf;clear hg hs ht hd hf hm hm2 hm3;go_enter Tryz.func39,Tryz.ntmps39;go_wp2_with fail;refine HAV.out.mono ?_;rintro e w1 ⟨rfl,hb1⟩;have HB1:=lhd hb1;clear hb1 HAV;cases hA:S.all fun x=>svS x.1
 ·have HR:=lhd (show zlD (L.map Prod.fst) (S.map Prod.fst) D=([],1)by
   unfold zlD;rw[if_neg (fun h=>by rw[List.all_map,show S.all (svS∘Prod.fst)=S.all (fun x=>svS x.1)from rfl,hA]at h;cases h.1)])
  clear hA;go_wp2_with fail;refine bodyPost_ret (v:=.tuple #[.slice none 0 0,.int .i64 1]) (by simp[results,Tryz.results39,go_sem]) rfl ?_;rw[HR.out];exact⟨_,[],rfl,rfl,⟨World.ownsRow_nil _ _ _ _,by simp⟩,HB1.out⟩
 have HA:=lhd hA;clear hA;go_wp2_with fail;refine(HVD.out _ HB1.out).mono ?_;rintro e w2 ⟨rfl,hb2⟩;have HB2:=lhd (zeG HB1.out hb2);clear hb2 HB1;cases hV:zqw (L.map Prod.fst) (S.map Prod.fst) D
 ·have HR:=lhd (show zlD (L.map Prod.fst) (S.map Prod.fst) D=([],1)by
   unfold zlD;rw[if_neg (fun h=>by rw[hV]at h;cases h.2)])
  clear hV;go_wp2_with fail;refine bodyPost_ret (v:=.tuple #[.slice none 0 0,.int .i64 1]) (by simp[results,Tryz.results39,go_sem]) rfl ?_;rw[HR.out];exact⟨_,[],rfl,rfl,⟨World.ownsRow_nil _ _ _ _,by simp⟩,HB2.out⟩
 have HR:=lhd (show zlD (L.map Prod.fst) (S.map Prod.fst) D=(((L.map Prod.fst).zip D).map (fun p=>zlC (S.map Prod.fst) p.1 p.2),0)by
  unfold zlD;rw[if_pos ⟨by rw[List.all_map];exact HA.out,hV⟩])
 obtain⟨hl,hsl,hdl,hfi0⟩:=zqz hV;have HFI:=lhd hfi0;clear hV hfi0;rw[List.length_map]at hl hsl hdl;go_wp2_with fail;go_loopw [8,26] (fun o_ i wr=>∃(j:Nat) (M:List (Sg×Value)),j≤L.length∧i=.int .i64 j∧M.length=j∧M.map Prod.fst=(((L.map Prod.fst).zip D).take j).map (fun p=>zlC (S.map Prod.fst) p.1 p.2)∧SigOwn w.heap.size wr o_ M∧Below w.heap.size w wr) (fun _ i _=>L.length-(intOf i).toNat)
 case atStart=>exact⟨0,[],Nat.zero_le _,rfl,rfl,rfl,⟨World.ownsRow_nil _ _ _ _,by simp⟩,HB2.out⟩
 case round=>
  obtain⟨j,M,hj,rfl,hml,hmm,hso,hb⟩:=hrel;have HML:=lhd hml;have hm64:M.length≤64:=by omega
  clear hml;have HM:=lhd hmm;have HSW:=lhd hso;have HB:=lhd hb;obtain⟨ao,co,rfl,-,-⟩:=(SlR.of_own hso.s).shape;clear hmm hso hb HB2;by_cases hlt:j<L.length
  ·have hlt2:j<D.length:=by omega
   obtain⟨b,o,rfl,y0,y1,y2,hy⟩:=(HS.out.below HB.out).at hlt;obtain⟨b3,o3,rfl,z0,z1,z2⟩:=zdZ (HD.out.below HB.out) hlt2;have hlz:j<((L.map Prod.fst).zip D).length:=by rw[List.length_zip,List.length_map];omega
   have HST:=lhd (show ∀M2:List (Sg×Value),M2.map Prod.fst=M.map Prod.fst++ [zlC (S.map Prod.fst) L[j].1 D[j]]→M2.map Prod.fst=(((L.map Prod.fst).zip D).take (j+1)).map (fun p=>zlC (S.map Prod.fst) p.1 p.2)from fun M2 h=>by
    rw[h,HM.out,List.take_succ_eq_append_getElem hlz,List.map_append,List.getElem_zip];simp)
   have hfi:ze6 L[j].1 (S.map Prod.fst) D[j]=true:=HFI.out j L[j].1 D[j] (by simp[hlt]) (by simp[hlt2]);generalize L[j]=x at y0 y1 y2 hy HST hfi;generalize D[j]=d at z0 z1 z2 HST hfi;obtain⟨⟨xk,xn,xl⟩,xv⟩:=x;obtain⟨do_,df,di⟩:=d;dsimp only at y0 y1 y2 hy HST z0 z1 z2 hfi;obtain⟨xa,xc,rfl,-,-⟩:=hy.shape;have hz0:=zcn z0;have hx7:=zas.fresh (wr.alloc (.cells #[.int .i64 xk,.int .i64 xn,.slice xa xl.length xc] 45)) #[.int .i64 xk,.int .i64 xn,.slice none 0 0] 45;have hb7:Below wr.heap.size wr ((wr.alloc (.cells #[.int .i64 xk,.int .i64 xn,.slice xa xl.length xc] 45)).alloc (.cells #[.int .i64 xk,.int .i64 xn,.slice none 0 0] 45)):=((Below.refl _ _).alloc (Nat.le_refl _) _).alloc (by simp) _;have hs7:=(zas.fresh wr #[.int .i64 xk,.int .i64 xn,.slice xa xl.length xc] 45).alloc (by simp) (.cells #[.int .i64 xk,.int .i64 xn,.slice none 0 0] 45);have hz7:wr.heap.size+1<((wr.alloc (.cells #[.int .i64 xk,.int .i64 xn,.slice xa xl.length xc] 45)).alloc (.cells #[.int .i64 xk,.int .i64 xn,.slice none 0 0] 45)).heap.size:=by simp
   simp only[World.size_alloc]at hx7;obtain⟨w7,hw7⟩:∃w7,w7=(wr.alloc (.cells #[.int .i64 xk,.int .i64 xn,.slice xa xl.length xc] 45)).alloc (.cells #[.int .i64 xk,.int .i64 xn,.slice none 0 0] 45):=⟨_,rfl⟩;rw[←hw7]at hx7 hb7 hs7 hz7;have HX7:=lhd hx7;have HS7:=lhd hs7;have HB7W:=lhd (HB.out.trans (hb7.mono HB.out.size));have hsz0:=HB.out.size;clear hx7 hs7 hy;by_cases hn:do_= -1
   ·subst hn;have HE:=lhd (show zlC (S.map Prod.fst) (xk,xn,xl) (-1,df,di)=(xk,xn,[])by unfold zlC;rw[if_pos rfl]);have HSO7:=lhd (HSW.out.later hb7);clear hfi hb7;go_upto_region 11 with fail;rw[←hw7];clear hw7 z0 z1 z2 y0 y1 y2;have c0:=(HX7.out).cell (j:=0) rfl;have c1:=(HX7.out).cell (j:=1) rfl;have c2:=(HX7.out).cell (j:=2) rfl;have HC:=lhd (World.news_of_block (w:=(w7).alloc (.cells #[.int .i64 xk,.int .i64 xn,.slice none 0 0] 45)) (cs:=#[.int .i64 xk,.int .i64 xn,.slice none 0 0]) (t:=45) (fr:=(0,0)) (by exact heap_alloc_new _ _));have hso:=(HSO7.out).later ((Below.refl (w7).heap.size w7).alloc (Nat.le_refl _) (.cells #[.int .i64 xk,.int .i64 xn,.slice none 0 0] 45));have HSO:=lhd hso;have HVO:=lhd (zkc (show w7.ownsRow w.heap.size 53 2 (.slice none 0 0) 0 []from World.ownsRow_nil _ _ _ _) ((Below.refl (w7).heap.size w7).alloc (Nat.le_refl _) (.cells #[.int .i64 xk,.int .i64 xn,.slice none 0 0] 45)));have HB7:=lhd ((HB7W.out).alloc (HB7W.out).size (.cells #[.int .i64 xk,.int .i64 xn,.slice none 0 0] 45));have hsz7:=(HB7W.out).size;clear hso;go_wp2_with (at_builtin;refine wpList_append_own_at _ rfl _ _ 24 rfl w.heap.size 45 i0 (.agg #[.int .i64 0,.int .i64 0,.slice none 0 0]) 3 40 Tryz.underlying24 hi iz0 iz1 iz2 rfl (by decide) _ _ _ rfl HSO.out.s ⟨(w7).heap.size,0,none⟩ 1 1 [.int .i64 xk,.int .i64 xn,.slice none 0 0] rfl rfl HC.out (by simp[Value.oneCell']) (by unfold maxLen;omega) (by omega) (by simp;omega) ?_)
    intro v8 w8 ho8 hg8 _ _;have HS8:=lhd (HSO.out.snoc (s:=(xk,xn,[])) hg8 HVO.out ho8);have HB8:=lhd (HB7.out.grown hg8 (by simp;omega) (fun q hq=>(HSO.out.s.lt q hq).1));clear ho8 hg8 c0 c1 c2;go_wp2_with fail;go_roundw;case rel=>exact⟨j+1,_,by omega,by go_num,by simp[HML.out],HST.out _ (by rw[HE.out];simp),HS8.out,HB8.out⟩
    case measure=>simp[intOf];omega
   ·have hnb:(do_ != -1)=true:=by rw[bne_iff_ne];exact hn
    have hrg:=ze7 hfi hn;rw[List.length_map]at hrg;obtain⟨jj,rfl⟩:∃jj:Nat,do_=(jj:Int):=⟨do_.toNat,by dsimp only at hrg;omega⟩;have hjj:jj<S.length:=by dsimp only at hrg;omega
    obtain⟨b4,o4,rfl,t0,t1,t2,ht⟩:=(HT.out.below HB.out).at hjj
    have HE:=lhd (show zlC (S.map Prod.fst) (xk,xn,xl) ((jj:Int),df,di)=(xk,xn,(zkw S[jj].1 df di xn).1.2.2)by
     unfold zlC;dsimp only;rw[if_neg (by omega),Int.toNat_natCast,zmB (by simpa using hjj)];simp)
    have HFX:=lhd (HF.out.2 S[jj] (List.getElem_mem hjj));generalize S[jj]=y at t0 t1 t2 ht HE HFX;obtain⟨⟨yk,yn,yl⟩,yv⟩:=y;dsimp only at t0 t1 t2 ht HE HFX;obtain⟨ya,yc,rfl,-,-⟩:=ht.shape;have HTX:=lhd ht;have hpf:=(zkx (st:=(yk,yn,yl)) HFX.out df di xn).1;have HPT:=lhd (fun W (hW:Below w7.heap.size w7 W)=>zaW (yk,yn,yl) (.slice ya yl.length yc) (jj:Int) df xn di W (HG.out.below (zeG HB7W.out hW)) (ht.below (zeG hb7 hW)) HFX.out);generalize zkw (yk,yn,yl) df di xn=r at HE hpf HPT;obtain⟨⟨rk,rn,rl⟩,rb⟩:=r;dsimp only at HE hpf;have q0:=(hb7.cell (zcn z0)).trans z0;have q1:=(hb7.cell (zcn z1)).trans z1;have q2:=(hb7.cell (zcn z2)).trans z2;have q3:=(hb7.cell (zcn t0)).trans t0;have q4:=(hb7.cell (zcn t1)).trans t1;have q5:=(hb7.cell (zcn t2)).trans t2;have q6:=HS7.out.cell (j:=1) rfl;have HQ:=lhd (And.intro q0 (And.intro q1 (And.intro q2 (And.intro q3 (And.intro q4 (And.intro q5 q6))))));have HH7:=lhd hb7;have hzl:=zcn q0;have hzl4:=zcn q3;clear ht hfi hrg hn
    have hlx:w7.heap.size<(w7.alloc (.cells #[.int .i64 0,.int .i64 0,.slice none 0 0] 45)).drew.heap.size:=by
     show w7.heap.size<(w7.alloc (.cells #[.int .i64 0,.int .i64 0,.slice none 0 0] 45)).heap.size;simp
    go_upto_region 9 with fail;rw[←hw7];clear hw7 z0 z1 z2 y0 y1 y2 t0 t1 t2 hb7
    go_region_held3 (fun w'=>w'.cell? ⟨b3,o3+j*3,none⟩=some (.int .i64 (jj:Int))∧w'.cell? ⟨b3,o3+j*3+1,none⟩=some (.int .i64 df)∧w'.cell? ⟨b3,o3+j*3+2,none⟩=some (.bool di)∧
     w'.cell? ⟨b4,o4+jj*3,none⟩=some (.int .i64 yk)∧w'.cell? ⟨b4,o4+jj*3+1,none⟩=some (.int .i64 yn)∧w'.cell? ⟨b4,o4+jj*3+2,none⟩=some (.slice ya yl.length yc)∧w'.cell? ⟨wr.heap.size,1,none⟩=some (.int .i64 xn))
     (first|exact⟨q0,q1,q2,q3,q4,q5,q6⟩|exact⟨v0,v1,v2,v3,v4,v5,v6⟩|(exact(have hq:=zbI B5.out (Nat.le_refl _) (.int .i64 rk) (.int .i64 rn) (.slice a5 rl.length c5);⟨(hq.cell hzl).trans HQ.out.1,(hq.cell hzl).trans HQ.out.2.1,(hq.cell hzl).trans HQ.out.2.2.1,(hq.cell hzl4).trans HQ.out.2.2.2.1,(hq.cell hzl4).trans HQ.out.2.2.2.2.1,(hq.cell hzl4).trans HQ.out.2.2.2.2.2.1,(hq.cell (show wr.heap.size<_ by omega)).trans HQ.out.2.2.2.2.2.2⟩))|go_keep)
     (first
       |(go_at_call 105;(with_reducible refine(HPT.out _ ?_).mono ?_);(exact zbz (Below.refl _ _) _);rintro e w5 ⟨v5',rfl,hq5,hb5⟩;have b5:=zbL hb5;(try dsimp only at hq5);have ho5:=hq5.slr (HTX.out.below (zeG HH7.out b5));obtain⟨a5,c5,rfl,-,-⟩:=ho5.shape;have v0:=(b5.cell hzl).trans HQ.out.1;have v1:=(b5.cell hzl).trans HQ.out.2.1;have v2:=(b5.cell hzl).trans HQ.out.2.2.1;have v3:=(b5.cell hzl4).trans HQ.out.2.2.2.1;have v4:=(b5.cell hzl4).trans HQ.out.2.2.2.2.1;have v5:=(b5.cell hzl4).trans HQ.out.2.2.2.2.2.1;have v6:=(b5.cell (show wr.heap.size<_ by omega)).trans HQ.out.2.2.2.2.2.2;have B5:=lhd b5;have HO5:=lhd ho5;have hz5:=b5.size;clear b5 hb5 ho5 hq5)
       |(go_at_call 105;(with_reducible refine(HPT.out _ ?_).mono ?_);(exact((Below.refl w7.heap.size w7).alloc (Nat.le_refl _) _).drew);rintro e w5 ⟨v5',rfl,hq5,hb5⟩;have b5:Below w7.heap.size w7 w5:=((Below.refl w7.heap.size w7).alloc (Nat.le_refl _) (.cells #[.int .i64 0,.int .i64 0,.slice none 0 0] 45)).drew.trans (hb5.mono (Nat.le_of_lt hlx));(try dsimp only at hq5);have ho5:=hq5.slr (HTX.out.below (zeG HH7.out b5));obtain⟨a5,c5,rfl,-,-⟩:=ho5.shape;have HQ5:=lhd hq5;have v0:=(b5.cell hzl).trans HQ.out.1;have v1:=(b5.cell hzl).trans HQ.out.2.1;have v2:=(b5.cell hzl).trans HQ.out.2.2.1;have v3:=(b5.cell hzl4).trans HQ.out.2.2.2.1;have v4:=(b5.cell hzl4).trans HQ.out.2.2.2.2.1;have v5:=(b5.cell hzl4).trans HQ.out.2.2.2.2.2.1;have v6:=(b5.cell (show wr.heap.size<_ by omega)).trans HQ.out.2.2.2.2.2.2;have hx5:zas w5 w7.heap.size [.int .i64 0,.int .i64 0,.slice none 0 0]:=((zas.fresh w7 #[.int .i64 0,.int .i64 0,.slice none 0 0] 45).drew).below hb5 hlx;have x5:=hx5.cell (j:=0) rfl;have x6:=hx5.cell (j:=1) rfl;have x7:=hx5.cell (j:=2) rfl;have z0:=hx5.free (j:=0) (by simp);have z1:=hx5.free (j:=1) (by simp);have z2:=hx5.free (j:=2) (by simp);have hl5:w7.heap.size<w5.heap.size:=(Nat.lt_of_lt_of_le hlx hb5.size);have HX5:=lhd hx5;have B5:=lhd b5;have HO5:=lhd ho5;have hz5:=b5.size;clear b5 hb5 ho5 hq5)
       |(go_at_call 105;(with_reducible refine(HPT.out _ ?_).mono ?_);(exact(zbz (Below.refl _ _) _).alloc (by simp) _);rintro e w5 ⟨v5',rfl,hq5,hb5⟩;have b5:=zbL (zbw hb5);(try dsimp only at hq5);have ho5:=hq5.slr (HTX.out.below (zeG HH7.out b5));obtain⟨a5,c5,rfl,-,-⟩:=ho5.shape;have HQ5:=lhd hq5;have v0:=(b5.cell hzl).trans HQ.out.1;have v1:=(b5.cell hzl).trans HQ.out.2.1;have v2:=(b5.cell hzl).trans HQ.out.2.2.1;have v3:=(b5.cell hzl4).trans HQ.out.2.2.2.1;have v4:=(b5.cell hzl4).trans HQ.out.2.2.2.2.1;have v5:=(b5.cell hzl4).trans HQ.out.2.2.2.2.2.1;have v6:=(b5.cell (show wr.heap.size<_ by omega)).trans HQ.out.2.2.2.2.2.2;have hx5:zas w5 w7.heap.size [.int .i64 0,.int .i64 0,.slice none 0 0]:=(zas.fresh w7.drew #[.int .i64 0,.int .i64 0,.slice none 0 0] 45).below hb5 (by simp);have x5:=hx5.cell (j:=0) rfl;have x6:=hx5.cell (j:=1) rfl;have x7:=hx5.cell (j:=2) rfl;have z0:=hx5.free (j:=0) (by simp);have z1:=hx5.free (j:=1) (by simp);have z2:=hx5.free (j:=2) (by simp);have hl5:w7.heap.size<w5.heap.size:=(by have:=hb5.size;simp at this;omega);have HX5:=lhd hx5;have B5:=lhd b5;have HO5:=lhd ho5;have hz5:=b5.size;clear b5 hb5 ho5 hq5)
       |fail "no arm")
    ·rename_i hh
     clear hh;have hal:=(Below.refl w5.heap.size w5).alloc (Nat.le_refl _) (.cells #[.int .i64 rk,.int .i64 rn,.slice a5 rl.length c5] 45);have hb8:=zeG B5.out hal;have ho8:=HO5.out.below hal;have hy8:=zas.fresh w5 #[.int .i64 rk,.int .i64 rn,.slice a5 rl.length c5] 45;clear hal v0 v1 v2 v3 v4 v5 v6 q0 q1 q2 q3 q4 q5 q6;generalize w5.alloc (.cells #[.int .i64 rk,.int .i64 rn,.slice a5 rl.length c5] 45)=w8 at hb8 ho8 hy8⊢;generalize w5.heap.size=Dy at hy8⊢;have hz8:=hb8.size;have y2:=hy8.cell (j:=2) rfl;have hb80:=zeG HH7.out hb8;have HX8:=lhd (HX7.out.below hb8 (by omega));have HB80:=lhd hb80;clear hb8 hb80 hy8;go_wp2_with fail;refine(zcQ _ rl _ ho8 hpf).mono ?_;rintro e w9 ⟨v9,rfl,ho9,hb9⟩;obtain⟨a9,c9,rfl,-,-⟩:=(SlR.of_own ho9).shape;have hx9:=HX8.out.below hb9 (by omega);have x2c:=hx9.cell (j:=2) rfl;have x2f:=hx9.free (j:=2) (by simp);have hx10:=hx9.set (j:=2) (by simp) (.slice a9 rl.length c9);have hb10:=(zeG HB80.out hb9).setCell (p:=⟨wr.heap.size+1,2,none⟩) (by simp) (.slice a9 rl.length c9);have hv10:=zko (base':=w.heap.size) (ownsRow_setCell_below ho9 (a:=⟨wr.heap.size+1,2,none⟩) (by simp;omega) (.slice a9 rl.length c9)) (by omega);have HX10:=lhd hx10;have HSO10:=lhd (HSW.out.later hb10);have HV10:=lhd hv10;have HB10:=lhd (HB.out.trans (hb10.mono HB.out.size));clear hx9 hx10 hb10 hv10 ho9 hb9 ho8 y2;obtain⟨w10,hw10⟩:∃w10,w10=w9.setCell ⟨wr.heap.size+1,2,none⟩ (.slice a9 rl.length c9):=⟨_,rfl⟩;rw[←hw10]at HX10 HSO10 HV10 HB10;go_upto_region 11 with fail;rw[←hw10];clear hw10 x2c x2f;have c0:=(HX10.out).cell (j:=0) rfl;have c1:=(HX10.out).cell (j:=1) rfl;have c2:=(HX10.out).cell (j:=2) rfl;have HC:=lhd (World.news_of_block (w:=(w10).alloc (.cells #[.int .i64 xk,.int .i64 xn,.slice a9 rl.length c9] 45)) (cs:=#[.int .i64 xk,.int .i64 xn,.slice a9 rl.length c9]) (t:=45) (fr:=(0,0)) (by exact heap_alloc_new _ _));have hso:=(HSO10.out).later ((Below.refl (w10).heap.size w10).alloc (Nat.le_refl _) (.cells #[.int .i64 xk,.int .i64 xn,.slice a9 rl.length c9] 45));have HSO:=lhd hso;have HVO:=lhd (zkc HV10.out ((Below.refl (w10).heap.size w10).alloc (Nat.le_refl _) (.cells #[.int .i64 xk,.int .i64 xn,.slice a9 rl.length c9] 45)));have HB7:=lhd ((HB10.out).alloc (HB10.out).size (.cells #[.int .i64 xk,.int .i64 xn,.slice a9 rl.length c9] 45));have hsz7:=(HB10.out).size;clear hso;go_wp2_with (at_builtin;refine wpList_append_own_at _ rfl _ _ 24 rfl w.heap.size 45 i0 (.agg #[.int .i64 0,.int .i64 0,.slice none 0 0]) 3 40 Tryz.underlying24 hi iz0 iz1 iz2 rfl (by decide) _ _ _ rfl HSO.out.s ⟨(w10).heap.size,0,none⟩ 1 1 [.int .i64 xk,.int .i64 xn,.slice a9 rl.length c9] rfl rfl HC.out (by simp[Value.oneCell']) (by unfold maxLen;omega) (by omega) (by simp;omega) ?_)
     intro v8 w8 ho8 hg8 _ _;have HS8:=lhd (HSO.out.snoc (s:=(xk,xn,rl)) hg8 HVO.out ho8);have HB8:=lhd (HB7.out.grown hg8 (by simp;omega) (fun q hq=>(HSO.out.s.lt q hq).1));clear ho8 hg8 c0 c1 c2;go_wp2_with fail;go_roundw;case rel=>exact⟨j+1,_,by omega,by go_num,by simp[HML.out],HST.out _ (by rw[HE.out];simp),HS8.out,HB8.out⟩
     case measure=>simp[intOf];omega
    ·rename_i hh
     clear hh;have hb8:=zbI B5.out (Nat.le_refl _) (.int .i64 rk) (.int .i64 rn) (.slice a5 rl.length c5);have ho8:=zaq.slr (zaq.set3 HQ5.out (show w7.heap.size<_ by simp) (.int .i64 rk) (.int .i64 rn) (.slice a5 rl.length c5)) (HTX.out.below (zeG HH7.out hb8));have hy8:=((HX5.out.set (j:=0) (by simp) (.int .i64 rk)).set (j:=1) (by simp) (.int .i64 rn)).set (j:=2) (by simp) (.slice a5 rl.length c5);clear v0 v1 v2 v3 v4 v5 v6 q0 q1 q2 q3 q4 q5 q6 hx5 x5 x6 x7 z0 z1 z2;generalize ((w5.setCell ⟨w7.heap.size,0,none⟩ (.int .i64 rk)).setCell ⟨w7.heap.size,1,none⟩ (.int .i64 rn)).setCell ⟨w7.heap.size,2,none⟩ (.slice a5 rl.length c5)=w8 at hb8 ho8 hy8⊢;generalize hDy:w7.heap.size=Dy at hy8⊢;have hz8:=hb8.size;have y2:=hy8.cell (j:=2) rfl;have hb80:=zeG HH7.out hb8;have HX8:=lhd (HX7.out.below hb8 (by omega));have HB80:=lhd hb80;clear hb8 hb80 hy8;go_wp2_with fail;refine(zcQ _ rl _ ho8 hpf).mono ?_;rintro e w9 ⟨v9,rfl,ho9,hb9⟩;obtain⟨a9,c9,rfl,-,-⟩:=(SlR.of_own ho9).shape;have hx9:=HX8.out.below hb9 (by omega);have x2c:=hx9.cell (j:=2) rfl;have x2f:=hx9.free (j:=2) (by simp);have hx10:=hx9.set (j:=2) (by simp) (.slice a9 rl.length c9);have hb10:=(zeG HB80.out hb9).setCell (p:=⟨wr.heap.size+1,2,none⟩) (by simp) (.slice a9 rl.length c9);have hv10:=zko (base':=w.heap.size) (ownsRow_setCell_below ho9 (a:=⟨wr.heap.size+1,2,none⟩) (by simp;omega) (.slice a9 rl.length c9)) (by omega);have HX10:=lhd hx10;have HSO10:=lhd (HSW.out.later hb10);have HV10:=lhd hv10;have HB10:=lhd (HB.out.trans (hb10.mono HB.out.size));clear hx9 hx10 hb10 hv10 ho9 hb9 ho8 y2;obtain⟨w10,hw10⟩:∃w10,w10=w9.setCell ⟨wr.heap.size+1,2,none⟩ (.slice a9 rl.length c9):=⟨_,rfl⟩;rw[←hw10]at HX10 HSO10 HV10 HB10;go_upto_region 11 with fail;rw[←hw10];clear hw10 x2c x2f;have c0:=(HX10.out).cell (j:=0) rfl;have c1:=(HX10.out).cell (j:=1) rfl;have c2:=(HX10.out).cell (j:=2) rfl;have HC:=lhd (World.news_of_block (w:=(w10).alloc (.cells #[.int .i64 xk,.int .i64 xn,.slice a9 rl.length c9] 45)) (cs:=#[.int .i64 xk,.int .i64 xn,.slice a9 rl.length c9]) (t:=45) (fr:=(0,0)) (by exact heap_alloc_new _ _));have hso:=(HSO10.out).later ((Below.refl (w10).heap.size w10).alloc (Nat.le_refl _) (.cells #[.int .i64 xk,.int .i64 xn,.slice a9 rl.length c9] 45));have HSO:=lhd hso;have HVO:=lhd (zkc HV10.out ((Below.refl (w10).heap.size w10).alloc (Nat.le_refl _) (.cells #[.int .i64 xk,.int .i64 xn,.slice a9 rl.length c9] 45)));have HB7:=lhd ((HB10.out).alloc (HB10.out).size (.cells #[.int .i64 xk,.int .i64 xn,.slice a9 rl.length c9] 45));have hsz7:=(HB10.out).size;clear hso;go_wp2_with (at_builtin;refine wpList_append_own_at _ rfl _ _ 24 rfl w.heap.size 45 i0 (.agg #[.int .i64 0,.int .i64 0,.slice none 0 0]) 3 40 Tryz.underlying24 hi iz0 iz1 iz2 rfl (by decide) _ _ _ rfl HSO.out.s ⟨(w10).heap.size,0,none⟩ 1 1 [.int .i64 xk,.int .i64 xn,.slice a9 rl.length c9] rfl rfl HC.out (by simp[Value.oneCell']) (by unfold maxLen;omega) (by omega) (by simp;omega) ?_)
     intro v8 w8 ho8 hg8 _ _;have HS8:=lhd (HSO.out.snoc (s:=(xk,xn,rl)) hg8 HVO.out ho8);have HB8:=lhd (HB7.out.grown hg8 (by simp;omega) (fun q hq=>(HSO.out.s.lt q hq).1));clear ho8 hg8 c0 c1 c2;go_wp2_with fail;go_roundw;case rel=>exact⟨j+1,_,by omega,by go_num,by simp[HML.out],HST.out _ (by rw[HE.out];simp),HS8.out,HB8.out⟩
     case measure=>simp[intOf];omega
  ·obtain rfl:j=L.length:=by omega
   have HR2:=lhd (show M.map Prod.fst=(zlD (L.map Prod.fst) (S.map Prod.fst) D).1 by
    rw[HR.out,HM.out,List.take_of_length_le (by rw[List.length_zip,List.length_map];omega)])
   go_wp2_with fail;refine bodyPost_ret (v:=.tuple #[.slice ao M.length co,.int .i64 0]) (by simp[results,Tryz.results39,go_sem]) rfl ?_;exact⟨_,M,by rw[HR.out],HR2.out,HSW.out,HB.out⟩
end Go.Proofs.YtbiadennhnokhaaGreatDoor
