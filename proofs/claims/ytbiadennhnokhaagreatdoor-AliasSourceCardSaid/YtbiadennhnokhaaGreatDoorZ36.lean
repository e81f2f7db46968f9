import Derived.Test.YtbiadennhnokhaaGreatDoorZ00
import Derived.Test.YtbiadennhnokhaaGreatDoorZ34
set_option maxRecDepth 100000
set_option maxHeartbeats 16000000
namespace Go.Proofs.YtbiadennhnokhaaGreatDoor
open Go.RowKit
set_option linter.unusedSimpArgs false
theorem zjp (k n:Int) (l:List Ch):(zi4 k n l).1.2.2.length≤4096:=by
 unfold zi4 zhZ;split
 ·simp
 split
 ·simp
 split
 ·simp
 ·dsimp only;omega
def clr1 (P:List Gp) (en:Int) (s:Sg):Sg:=if s.1=0 then(offF P en s).1 else s
theorem zcU (P:List Gp) (en:Int) (G:List Sg):clrL P en G=G.map (clr1 P en):=rfl
theorem zdd (A:List Sg) (s:Sg):zda (A++ [s])=zda A+s.2.2.length:=by simp[zda]
theorem zmv {W:World} {b:Nat} {z0 z1 z2:Value} (h:zas W b [z0,z1,z2]) (u0 u1 u2:Value):zas (((W.setCell ⟨b,0,none⟩ u0).setCell ⟨b,1,none⟩ u1).setCell ⟨b,2,none⟩ u2) b [u0,u1,u2]:=
 ((h.set (j:=0) (by simp) u0).set (j:=1) (by simp) u1).set (j:=2) (by simp) u2
theorem zo2 (w W:World) (t u:Tr) (p q:TP) (h:BI w t p u q W) (hgl:Glob w) (hf:∀s∈u.G,Fit s.2.2∧s.2.2.length≤100000∧Fit (offL (vi s.1 s.2.1) (fun t=>(atR s.1 s.2.1 s.2.2 t).1) u.en u.P s.2.2)) (hl2:u.G.length≤1000) (hlp:u.P.length≤1000)
 (hp:∀g∈u.P,g.2≤1099511627777):
 Calls Tryz.prog 58 #[.pointer (some ⟨w.heap.size,0,none⟩)] W fun e W'=>zay w t p (zcN u.P u.en u.G) {u with G:=clrL u.P u.en u.G} e W':=by
 have HI:=lhd h;have HF:=lhd hf;have HP:=lhd hp;have c15:=h.x.cell (j:=15) rfl;have c16:=h.x.cell (j:=16) rfl;obtain⟨ga,gc,eg⟩:=h.vgk;obtain⟨pa,pc,ep,-,-⟩:=(SlR.of_own h.r).shape;have hML:=h.ml;obtain⟨n,hn⟩:∃n,q.M.length=n:=⟨_,rfl⟩;have hn2:n≤1000:=by rw[←hn,hML];exact hl2
 have HN:=lhd (show u.G.length=n by rw[←hML];exact hn);rw[eg,hn]at c15;rw[ep]at c16;rw[hn]at eg;have HEG:=lhd eg;have HMN:=lhd hn;clear h hf hp hML hn eg hl2 ep;by_cases h16:16<u.P.length
 ·have HR:=lhd (show(9:Int)=zcN u.P u.en u.G by unfold zcN;rw[if_pos h16]);have hb:(16:Int)<(u.P.length:Int):=by omega
  clear h16;go_enter Tryz.func58,Tryz.ntmps58;go_wp2_with fail;go_ret;exact⟨zlF HR.out,HI.out.b,fun h=>by rw[←HR.out]at h;cases h⟩
 ·have HCF:=lhd (show zcN u.P u.en u.G=if clrE u.P u.en u.G≠0 then clrE u.P u.en u.G else if 4096<zda (clrL u.P u.en u.G)then 9 else 0 by unfold zcN;rw[if_neg h16]);have hb:¬(16:Int)<(u.P.length:Int):=by omega
  clear h16;go_enter Tryz.func58,Tryz.ntmps58;go_wp2_with fail;clear hb;go_loopw [21,3] (fun i c_ wr=>∃k:Nat,k≤n∧i=.int .i64 k∧c_=.int .i64 (zda (clrL u.P u.en (u.G.take k)):Int)∧zda (clrL u.P u.en (u.G.take k))≤k*100000∧clrE u.P u.en (u.G.drop k)=clrE u.P u.en u.G∧∃q',BI w t p {u with G:=clrL u.P u.en (u.G.take k)++u.G.drop k} q' wr∧q'.vg=.slice ga n gc) (fun i _ _=>n-(intOf i).toNat)
  case atStart=>exact⟨0,Nat.zero_le _,rfl,rfl,Nat.zero_le _,rfl,q,HI.out,HEG.out⟩
  case round=>
   obtain⟨k,hk,rfl,rfl,hct,hgo,q',hi,heg⟩:=hrel;have HGO:=lhd hgo;have HI2:=lhd hi;have HEG2:=lhd heg;clear hgo hi heg c15 c16;by_cases hlt:k<n
   ·have hku:k<u.G.length:=by rw[HN.out];exact hlt
    have hml:=HI2.out.ml;have hnl:(clrL u.P u.en (u.G.take k)).length=k:=by rw[zcU,List.length_map,List.length_take,HN.out];omega
    have hul:(clrL u.P u.en (u.G.take k)++u.G.drop k).length=n:=by
     rw[List.length_append,List.length_drop,HN.out,hnl];omega
    have hmn:q'.M.length=n:=by rw[hml];exact hul
    have hkm:k<q'.M.length:=by rw[hmn];exact hlt
    have hMk:q'.M[k].1=u.G[k]:=by
     have h1:(q'.M.map Prod.fst)[k]? =some q'.M[k].1:=by rw[List.getElem?_map,List.getElem?_eq_getElem hkm];rfl
     rw[HI2.out.m]at h1;dsimp only at h1;rw[List.getElem?_append_right (by omega),hnl,Nat.sub_self,List.getElem?_drop,Nat.add_zero,List.getElem?_eq_getElem hku]at h1;exact(Option.some.inj h1).symm
    have hsplit:q'.M=q'.M.take k++(q'.M[k].1,q'.M[k].2)::q'.M.drop (k+1):=by
     rw[←List.drop_eq_getElem_cons hkm,List.take_append_drop]
    obtain⟨g,c,eg2,hg1,hg2,s0,s1,s2,s3⟩:=HI2.out.sg hkm;have hck:(q'.M[k].1,q'.M[k].2)∈p.M∨wr.ownsRow (w.heap.size+2) 53 2 q'.M[k].2 q'.M[k].1.2.2.length (chs q'.M[k].1.2.2):=HI2.out.c _ (List.getElem_mem hkm);have eg3:=HEG2.out;rw[eg2]at eg3;injection eg3 with eg3 _ eg4;subst eg3 eg4;have HEQ:=lhd eg2;have hlow:w.heap.size<wr.heap.size:=HI2.out.lt;have hlow2:=HI2.out.lt2;have hA:(q'.M.take k).length=k:=by rw[List.length_take];omega
    have hAm:(q'.M.take k).map Prod.fst=clrL u.P u.en (u.G.take k):=by
     rw[List.map_take,HI2.out.m];dsimp only;rw[List.take_append_of_le_length (by omega),List.take_of_length_le (by omega)]
    have hDm:(q'.M.drop (k+1)).map Prod.fst=u.G.drop (k+1):=by
     rw[List.map_drop,HI2.out.m];dsimp only;rw[List.drop_append,hnl,List.drop_of_length_le (by omega),List.nil_append,List.drop_drop,show k+(k+1-k)=k+1 by omega]
    have HNR:=lhd (ze1 (f:=fun s:Sg=>if s.1=0 then(offF u.P u.en s).2 else 0) hku)
    have htk:clrL u.P u.en (u.G.take (k+1))=clrL u.P u.en (u.G.take k)++ [clr1 u.P u.en u.G[k]]:=by
     rw[List.take_succ_eq_append_getElem hku,zcU,List.map_append];rfl
    have HCT:=lhd (show zda (clrL u.P u.en (u.G.take (k+1)))=zda (clrL u.P u.en (u.G.take k))+(clr1 u.P u.en u.G[k]).2.2.length by rw[htk,zdd])
    have HGK:=lhd (fun(y:Sg) (v:Value) (hy:y=clr1 u.P u.en u.G[k])=>show(q'.M.take k++(y,v)::q'.M.drop (k+1)).map Prod.fst=clrL u.P u.en (u.G.take (k+1))++u.G.drop (k+1)by
     rw[List.map_append,List.map_cons,hAm,hDm,htk,hy];simp)
    obtain⟨hfk,hfl,hfT⟩:=HF.out _ (List.getElem_mem hku);rw[hMk]at s0 s1 s3 hsplit hck;have HSP:=lhd hsplit;have HAK:=lhd hA;generalize u.G[k]=x at*;obtain⟨kd,wd,cl⟩:=x;dsimp only at s0 s1 s2 s3 hfk hfl hfT hck;generalize q'.M[k].2=vx at*;obtain⟨xa,xc,rfl,-,-⟩:=s3.shape;have hls:=hfk.1;have HBX:=lhd (show Below wr.heap.size wr (wr.alloc (.cells #[.int .i64 kd,.int .i64 wd,.slice xa cl.length xc] 45))from(Below.refl _ _).alloc (Nat.le_refl _) _);have HXF:=lhd (zas.fresh wr #[.int .i64 kd,.int .i64 wd,.slice xa cl.length xc] 45);have HI5:=lhd (HI2.out.next HBX.out);have HCK:=lhd hck;have hw5:wr.heap.size<(wr.alloc (.cells #[.int .i64 kd,.int .i64 wd,.slice xa cl.length xc] 45)).heap.size:=by simp
    clear hmn hkm hku hul hml hMk hsplit eg2 hAm hDm hnl hck hA htk;by_cases hkd:kd=0
    ·subst hkd;have HOF:=lhd (zo6 w _ t _ p q' HI5.out hgl 0 wd (.slice xa cl.length xc) cl (s3.below HBX.out) hfk hlp hfl HP.out hfT);obtain⟨⟨⟨ky,wy,ly⟩,cy⟩,hny⟩:∃r,r=offF u.P u.en (0,wd,cl):=⟨_,rfl⟩
     have hll:ly.length≤4096:=by
      have:=zjp (0:Int) wd (offL (vi 0 wd) (fun t=>(atR 0 wd cl t).1) u.en u.P cl);rw[show zi4 0 wd (offL (vi 0 wd) (fun t=>(atR 0 wd cl t).1) u.en u.P cl)=offF u.P u.en (0,wd,cl)from rfl,←hny]at this;exact this
     dsimp only at HOF;rw[←hny]at HOF;have HYE:=lhd (show(ky,wy,ly)=clr1 u.P u.en (0,wd,cl)by unfold clr1;rw[if_pos rfl,←hny]);have hnr:=HNR.out;rw[←hny]at hnr;simp only[if_pos]at hnr;have HNR2:=lhd hnr;clear hny hfT s3 hnr;go_wp2_with fail;refine HOF.out.mono ?_;rintro e w6 ⟨v6,rfl,ho6,hb6⟩;dsimp only at ho6⊢;obtain⟨va,vc,rfl,-,-⟩:=(SlR.of_own ho6).shape;have HX6a:=lhd (HXF.out.below hb6 hw5);have hO6:=zko (base':=wr.heap.size+1) ho6 hw5;have HB6:=lhd (HBX.out.trans (hb6.mono HBX.out.size));have hwz6:wr.heap.size<w6.heap.size:=Nat.lt_of_lt_of_le hw5 hb6.size;have HB7:=lhd (HB6.out.alloc HB6.out.size (.cells #[.int .i64 ky,.int .i64 wy,.slice va ly.length vc] 45));have hba:Below w6.heap.size w6 (w6.alloc (.cells #[.int .i64 ky,.int .i64 wy,.slice va ly.length vc] 45)):=(Below.refl _ _).alloc (Nat.le_refl _) _;have HX7:=lhd (HX6a.out.below hba hwz6);have HY7:=lhd (zas.fresh w6 #[.int .i64 ky,.int .i64 wy,.slice va ly.length vc] 45);have HO7:=lhd (zbE hO6 hba);clear ho6 hb6 hO6 hba HOF;by_cases hcy:cy=0
     ·subst hcy
      have HG2:=lhd (show clrE u.P u.en (u.G.drop (k+1))=clrE u.P u.en u.G by
       rw[←HGO.out];have:=HNR2.out;rw[if_neg (by simp)]at this;exact this.symm)
      have x0:=HX7.out.cell (j:=0) rfl;have x1:=HX7.out.cell (j:=1) rfl;have x2:=HX7.out.cell (j:=2) rfl;have f0:=HX7.out.free (j:=0) (by simp);have f1:=HX7.out.free (j:=1) (by simp);have f2:=HX7.out.free (j:=2) (by simp);have y0:=HY7.out.cell (j:=0) rfl;have y1:=HY7.out.cell (j:=1) rfl;have y2:=HY7.out.cell (j:=2) rfl;have HX6:=lhd (zmv HX7.out (.int .i64 ky) (.int .i64 wy) (.slice va ly.length vc));have HL6:=lhd (((HB7.out.setCell (p:=⟨wr.heap.size,0,none⟩) (Nat.le_refl _) (.int .i64 ky)).setCell (p:=⟨wr.heap.size,1,none⟩) (Nat.le_refl _) (.int .i64 wy)).setCell (p:=⟨wr.heap.size,2,none⟩) (Nat.le_refl _) (.slice va ly.length vc));have HOV:=lhd (show((ky,wy,ly),Value.slice va ly.length vc)∈p.M∨_ from Or.inr (zko (base':=w.heap.size+2) (ownsRow_setCell_below (ownsRow_setCell_below (ownsRow_setCell_below HO7.out (a:=⟨wr.heap.size,0,none⟩) (Nat.lt_succ_self _) (.int .i64 ky)) (a:=⟨wr.heap.size,1,none⟩) (Nat.lt_succ_self _) (.int .i64 wy)) (a:=⟨wr.heap.size,2,none⟩) (Nat.lt_succ_self _) (.slice va ly.length vc)) (by omega)));have HI6:=lhd (HI2.out.next HL6.out);go_upto_region 11 with fail;generalize w6.alloc (.cells #[.int .i64 ky,.int .i64 wy,.slice va ly.length vc] 45)=w7 at*;go_upto_region 12 with fail;clear x0 x1 x2 f0 f1 f2 y0 y1 y2;generalize ((w7.setCell ⟨wr.heap.size,0,none⟩ (.int .i64 ky)).setCell ⟨wr.heap.size,1,none⟩ (.int .i64 wy)).setCell ⟨wr.heap.size,2,none⟩ (.slice va ly.length vc)=w8 at*;have HFZ:=lhd (fun o=>zkb (by have:=HI6.out.g;rw[HEQ.out]at this;exact this) o:∀o,(w8).frozen? ⟨g,o,none⟩=false);have c15:=HI6.out.x.cell (j:=15) rfl;rw[HEG2.out]at c15;have e0:=HX6.out.cell (j:=0) rfl;have e1:=HX6.out.cell (j:=1) rfl;have e2:=HX6.out.cell (j:=2) rfl;have z0:=HFZ.out (k*3);have z1:=HFZ.out (k*3+1);have z2:=HFZ.out (k*3+2);have s0:=(HL6.out.cell (p:=⟨g,k*3,none⟩) hg2).trans s0;have s1:=(HL6.out.cell (p:=⟨g,k*3+1,none⟩) hg2).trans s1;have s2:=(HL6.out.cell (p:=⟨g,k*3+2,none⟩) hg2).trans s2;have hg6:g<(w8).heap.size:=Nat.lt_of_lt_of_le hg2 HL6.out.size;have HFIN:=HI6.out.drew.put3 (y:=(ky,wy,ly)) (v':=(.slice va ly.length vc)) HSP.out HEQ.out (HOV.out.imp id (fun h=>h.drew));rw[HAK.out]at HFIN;have hgk:=HGK.out (ky,wy,ly) ((.slice va ly.length vc)) HYE.out;rw[hgk]at HFIN;have HFIN:=lhd HFIN;have HXT:=lhd ((((HX6.out).other (a:=⟨g,k*3,none⟩) (by show g≠_;omega) (.int .i64 ky)).other (a:=⟨g,k*3+1,none⟩) (by show g≠_;omega) (.int .i64 wy)).other (a:=⟨g,k*3+2,none⟩) (by show g≠_;omega) ((.slice va ly.length vc)));have HC2:=lhd (show zda (clrL u.P u.en (u.G.take (k+1)))=zda (clrL u.P u.en (u.G.take k))+(ly).length by rw[HCT.out,←HYE.out]);clear hgk;go_wp2_with fail;go_region
      clear c15 s0 s1 s2 e0 e1 e2 z0 z1 z2;have t2:=HXT.out.cell (j:=2) rfl;obtain⟨cc,hcc⟩:∃cc,cc=zda (clrL u.P u.en (u.G.take k)):=⟨_,rfl⟩;rw[←hcc]at HC2 hct⊢;have hcb:cc≤100000000:=by omega
      go_wp2_with fail;go_roundw;case rel=>exact⟨k+1,hlt,by go_num,by rw[HC2.out];go_num,by rw[HC2.out];omega,HG2.out,_,HFIN.out,HEG2.out⟩
      case measure=>simp[intOf];omega
     ·have bcy:(cy==0)=false:=by simpa using hcy
      have HR:=lhd (show cy=zcN u.P u.en u.G by
       have h1:cy=clrE u.P u.en u.G:=by
        rw[←HGO.out];have:=HNR2.out;rw[if_pos hcy]at this;exact this.symm
       rw[HCF.out,←h1,if_pos hcy])
      have HI7:=lhd (HI2.out.next HB7.out);clear s0 s1 s2;go_wp2_with fail;go_ret;exact⟨zlF HR.out,HI7.out.b,fun h=>absurd (HR.out.trans h) hcy⟩
    ·have bkd:(kd==0)=false:=by simpa using hkd
     have HYE:=lhd (show(kd,wd,cl)=clr1 u.P u.en (kd,wd,cl)by unfold clr1;rw[if_neg hkd])
     have HG2:=lhd (show clrE u.P u.en (u.G.drop (k+1))=clrE u.P u.en u.G by
      rw[←HGO.out];have:=HNR.out;simp[hkd]at this;exact this.symm)
     have HI6:=HI5;have HX6:=HXF;have HL6:=HBX;have HOV:=lhd (HCK.out.imp id (fun h=>zbE h HBX.out));clear hfT s3;go_wp2_with fail;generalize wr.alloc (.cells #[.int .i64 kd,.int .i64 wd,.slice xa cl.length xc] 45)=w6 at*;have HFZ:=lhd (fun o=>zkb (by have:=HI6.out.g;rw[HEQ.out]at this;exact this) o:∀o,(w6).frozen? ⟨g,o,none⟩=false);have c15:=HI6.out.x.cell (j:=15) rfl;rw[HEG2.out]at c15;have e0:=HX6.out.cell (j:=0) rfl;have e1:=HX6.out.cell (j:=1) rfl;have e2:=HX6.out.cell (j:=2) rfl;have z0:=HFZ.out (k*3);have z1:=HFZ.out (k*3+1);have z2:=HFZ.out (k*3+2);have s0:=(HL6.out.cell (p:=⟨g,k*3,none⟩) hg2).trans s0;have s1:=(HL6.out.cell (p:=⟨g,k*3+1,none⟩) hg2).trans s1;have s2:=(HL6.out.cell (p:=⟨g,k*3+2,none⟩) hg2).trans s2;have hg6:g<(w6).heap.size:=Nat.lt_of_lt_of_le hg2 HL6.out.size;have HFIN:=HI6.out.drew.put3 (y:=(kd,wd,cl)) (v':=(.slice xa cl.length xc)) HSP.out HEQ.out (HOV.out.imp id (fun h=>h.drew));rw[HAK.out]at HFIN;have hgk:=HGK.out (kd,wd,cl) ((.slice xa cl.length xc)) HYE.out;rw[hgk]at HFIN;have HFIN:=lhd HFIN;have HXT:=lhd ((((HX6.out).other (a:=⟨g,k*3,none⟩) (by show g≠_;omega) (.int .i64 kd)).other (a:=⟨g,k*3+1,none⟩) (by show g≠_;omega) (.int .i64 wd)).other (a:=⟨g,k*3+2,none⟩) (by show g≠_;omega) ((.slice xa cl.length xc)));have HC2:=lhd (show zda (clrL u.P u.en (u.G.take (k+1)))=zda (clrL u.P u.en (u.G.take k))+(cl).length by rw[HCT.out,←HYE.out]);clear hgk;go_wp2_with fail;go_region
     clear c15 s0 s1 s2 e0 e1 e2 z0 z1 z2;have t2:=HXT.out.cell (j:=2) rfl;obtain⟨cc,hcc⟩:∃cc,cc=zda (clrL u.P u.en (u.G.take k)):=⟨_,rfl⟩;rw[←hcc]at HC2 hct⊢;have hcb:cc≤100000000:=by omega
     go_wp2_with fail;go_roundw;case rel=>exact⟨k+1,hlt,by go_num,by rw[HC2.out];go_num,by rw[HC2.out];omega,HG2.out,_,HFIN.out,HEG2.out⟩
     case measure=>simp[intOf];omega
   ·obtain rfl:k=n:=by omega
    have hfin:=HI2.out;have hct2:=hct;rw[List.take_of_length_le (by rw[HN.out];exact Nat.le_refl _),List.drop_of_length_le (by rw[HN.out];exact Nat.le_refl _),List.append_nil]at hfin;rw[List.take_of_length_le (by rw[HN.out];exact Nat.le_refl _)]at hct2⊢;have HI3:=lhd hfin;have HE0:=lhd (show clrE u.P u.en u.G=0 by rw[←HGO.out,List.drop_of_length_le (by rw[HN.out];exact Nat.le_refl _)];rfl);have hcf:=HCF.out;rw[HE0.out,if_neg (by simp)]at hcf;clear hfin;obtain⟨cc,hcc⟩:∃cc,cc=zda (clrL u.P u.en u.G):=⟨_,rfl⟩;rw[←hcc]at hct2 hcf⊢;by_cases hc4:4096<cc
    ·have hb4:(4096:Int)<(cc:Int):=by omega
     rw[if_pos hc4]at hcf;have HR:=lhd hcf;clear hc4 hcf;go_wp2_with fail;go_ret;exact⟨zlF HR.out.symm,HI3.out.b,fun h=>by rw[HR.out]at h;cases h⟩
    ·have hb4:¬(4096:Int)<(cc:Int):=by omega
     rw[if_neg hc4]at hcf;have HR:=lhd hcf;clear hc4 hcf;go_wp2_with fail;go_ret;exact⟨zlF HR.out.symm,HI3.out.b,fun _=>⟨q',HI3.out⟩⟩
end Go.Proofs.YtbiadennhnokhaaGreatDoor
