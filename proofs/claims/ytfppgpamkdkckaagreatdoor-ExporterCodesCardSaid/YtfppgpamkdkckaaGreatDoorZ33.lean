import Derived.Test.YtfppgpamkdkckaaGreatDoorZ00
import Derived.Test.YtfppgpamkdkckaaGreatDoorZ31
import Derived.Test.YtfppgpamkdkckaaGreatDoorZ32
set_option maxRecDepth 100000
set_option maxHeartbeats 16000000
namespace Go.Proofs.YtfppgpamkdkckaaGreatDoor
open Go.RowKit
set_option linter.unusedSimpArgs false
theorem zkr (k n:Int) (l:List Ch):(zjT k n l).1.2.2.length≤4096:=by
 unfold zjT ziK;split
 ·simp
 split
 ·simp
 split
 ·simp
 ·dsimp only;omega
def clr1 (P:List Gp) (en:Int) (s:Sg):Sg:=if s.1=0 then(offF P en s).1 else s
theorem zcr (P:List Gp) (en:Int) (G:List Sg):clrL P en G=G.map (clr1 P en):=rfl
theorem zdq (A:List Sg) (s:Sg):zdp (A++ [s])=zdp A+s.2.2.length:=by simp[zdp]
theorem zox {W:World} {b:Nat} {z0 z1 z2:Value} (h:zan W b [z0,z1,z2]) (u0 u1 u2:Value):zan (((W.setCell ⟨b,0,none⟩ u0).setCell ⟨b,1,none⟩ u1).setCell ⟨b,2,none⟩ u2) b [u0,u1,u2]:=
 ((h.set (j:=0) (by simp) u0).set (j:=1) (by simp) u1).set (j:=2) (by simp) u2
theorem zqo (w W:World) (t u:Tr) (p q:TP) (h:BI w t p u q W) (hgl:Glob w) (hf:∀s∈u.G,Fit s.2.2∧s.2.2.length≤100000∧Fit (offL (vi s.1 s.2.1) (fun t=>(atR s.1 s.2.1 s.2.2 t).1) u.en u.P s.2.2)) (hl2:u.G.length≤1000) (hlp:u.P.length≤1000)
 (hp:∀g∈u.P,g.2≤1099511627777):
 Calls Tryz.prog 100 #[.pointer (some ⟨w.heap.size,0,none⟩)] W fun e W'=>zax w t p (zcm u.P u.en u.G) {u with G:=clrL u.P u.en u.G} e W':=by
 have HI:=lhd h;have HF:=lhd hf;have HP:=lhd hp;have c15:=h.x.cell (j:=15) rfl;have c16:=h.x.cell (j:=16) rfl;obtain⟨ga,gc,eg⟩:=h.vgk;obtain⟨pa,pc,ep,-,-⟩:=(SlR.of_own h.r).shape;have hML:=h.ml;obtain⟨n,hn⟩:∃n,q.M.length=n:=⟨_,rfl⟩;have hn2:n≤1000:=by rw[←hn,hML];exact hl2
 have HN:=lhd (show u.G.length=n by rw[←hML];exact hn);rw[eg,hn]at c15;rw[ep]at c16;rw[hn]at eg;have HEG:=lhd eg;have HMN:=lhd hn;clear h hf hp hML hn eg hl2 ep;by_cases h16:16<u.P.length
 ·have HR:=lhd (show(9:Int)=zcm u.P u.en u.G by unfold zcm;rw[if_pos h16]);have hb:(16:Int)<(u.P.length:Int):=by omega
  clear h16;go_enter Tryz.func100,Tryz.ntmps100;go_wp2_with fail;go_ret;exact⟨znd HR.out,HI.out.b,fun h=>by rw[←HR.out]at h;cases h⟩
 ·have HCF:=lhd (show zcm u.P u.en u.G=if clrE u.P u.en u.G≠0 then clrE u.P u.en u.G else if 4096<zdp (clrL u.P u.en u.G)then 9 else 0 by unfold zcm;rw[if_neg h16]);have hb:¬(16:Int)<(u.P.length:Int):=by omega
  clear h16;go_enter Tryz.func100,Tryz.ntmps100;go_wp2_with fail;clear hb;go_loopw [21,3] (fun i c_ wr=>∃k:Nat,k≤n∧i=.int .i64 k∧c_=.int .i64 (zdp (clrL u.P u.en (u.G.take k)):Int)∧zdp (clrL u.P u.en (u.G.take k))≤k*100000∧clrE u.P u.en (u.G.drop k)=clrE u.P u.en u.G∧∃q',BI w t p {u with G:=clrL u.P u.en (u.G.take k)++u.G.drop k} q' wr∧q'.vg=.slice ga n gc) (fun i _ _=>n-(intOf i).toNat)
  case atStart=>exact⟨0,Nat.zero_le _,rfl,rfl,Nat.zero_le _,rfl,q,HI.out,HEG.out⟩
  case round=>
   obtain⟨k,hk,rfl,rfl,hct,hgo,q',hi,heg⟩:=hrel;have HGO:=lhd hgo;have HI2:=lhd hi;have HEG2:=lhd heg;clear hgo hi heg c15 c16;by_cases hlt:k<n
   ·have hku:k<u.G.length:=by rw[HN.out];exact hlt
    have hml:=HI2.out.ml;have hnl:(clrL u.P u.en (u.G.take k)).length=k:=by rw[zcr,List.length_map,List.length_take,HN.out];omega
    have hul:(clrL u.P u.en (u.G.take k)++u.G.drop k).length=n:=by
     rw[List.length_append,List.length_drop,HN.out,hnl];omega
    have hmn:q'.M.length=n:=by rw[hml];exact hul
    have hkm:k<q'.M.length:=by rw[hmn];exact hlt
    have hMk:q'.M[k].1=u.G[k]:=by
     have h1:(q'.M.map Prod.fst)[k]? =some q'.M[k].1:=by rw[List.getElem?_map,List.getElem?_eq_getElem hkm];rfl
     rw[HI2.out.m]at h1;dsimp only at h1;rw[List.getElem?_append_right (by omega),hnl,Nat.sub_self,List.getElem?_drop,Nat.add_zero,List.getElem?_eq_getElem hku]at h1;exact(Option.some.inj h1).symm
    have hsplit:q'.M=q'.M.take k++(q'.M[k].1,q'.M[k].2)::q'.M.drop (k+1):=by
     rw[←List.drop_eq_getElem_cons hkm,List.take_append_drop]
    obtain⟨g,c,eg2,hg1,hg2,s0,s1,s2,s3⟩:=HI2.out.sg hkm;have hck:(q'.M[k].1,q'.M[k].2)∈p.M∨wr.ownsRow (w.heap.size+2) 57 2 q'.M[k].2 q'.M[k].1.2.2.length (chs q'.M[k].1.2.2):=HI2.out.c _ (List.getElem_mem hkm);have eg3:=HEG2.out;rw[eg2]at eg3;injection eg3 with eg3 _ eg4;subst eg3 eg4;have HEQ:=lhd eg2;have hlow:w.heap.size<wr.heap.size:=HI2.out.lt;have hlow2:=HI2.out.lt2;have hA:(q'.M.take k).length=k:=by rw[List.length_take];omega
    have hAm:(q'.M.take k).map Prod.fst=clrL u.P u.en (u.G.take k):=by
     rw[List.map_take,HI2.out.m];dsimp only;rw[List.take_append_of_le_length (by omega),List.take_of_length_le (by omega)]
    have hDm:(q'.M.drop (k+1)).map Prod.fst=u.G.drop (k+1):=by
     rw[List.map_drop,HI2.out.m];dsimp only;rw[List.drop_append,hnl,List.drop_of_length_le (by omega),List.nil_append,List.drop_drop,show k+(k+1-k)=k+1 by omega]
    have HNR:=lhd (zfr (f:=fun s:Sg=>if s.1=0 then(offF u.P u.en s).2 else 0) hku)
    have htk:clrL u.P u.en (u.G.take (k+1))=clrL u.P u.en (u.G.take k)++ [clr1 u.P u.en u.G[k]]:=by
     rw[List.take_succ_eq_append_getElem hku,zcr,List.map_append];rfl
    have HCT:=lhd (show zdp (clrL u.P u.en (u.G.take (k+1)))=zdp (clrL u.P u.en (u.G.take k))+(clr1 u.P u.en u.G[k]).2.2.length by rw[htk,zdq])
    have HGK:=lhd (fun(y:Sg) (v:Value) (hy:y=clr1 u.P u.en u.G[k])=>show(q'.M.take k++(y,v)::q'.M.drop (k+1)).map Prod.fst=clrL u.P u.en (u.G.take (k+1))++u.G.drop (k+1)by
     rw[List.map_append,List.map_cons,hAm,hDm,htk,hy];simp)
    obtain⟨hfk,hfl,hfT⟩:=HF.out _ (List.getElem_mem hku);rw[hMk]at s0 s1 s3 hsplit hck;have HSP:=lhd hsplit;have HAK:=lhd hA;generalize u.G[k]=x at*;obtain⟨kd,wd,cl⟩:=x;dsimp only at s0 s1 s2 s3 hfk hfl hfT hck;generalize q'.M[k].2=vx at*;obtain⟨xa,xc,rfl,-,-⟩:=s3.shape;have hls:=hfk.1;have HBX:=lhd (show Below wr.heap.size wr (wr.alloc (.cells #[.int .i64 kd,.int .i64 wd,.slice xa cl.length xc] 60))from(Below.refl _ _).alloc (Nat.le_refl _) _);have HXF:=lhd (zan.fresh wr #[.int .i64 kd,.int .i64 wd,.slice xa cl.length xc] 60);have HI5:=lhd (HI2.out.next HBX.out);have HCK:=lhd hck;have hw5:wr.heap.size<(wr.alloc (.cells #[.int .i64 kd,.int .i64 wd,.slice xa cl.length xc] 60)).heap.size:=by simp
    clear hmn hkm hku hul hml hMk hsplit eg2 hAm hDm hnl hck hA htk;by_cases hkd:kd=0
    ·subst hkd;have HOF:=lhd (zqs w _ t _ p q' HI5.out hgl 0 wd (.slice xa cl.length xc) cl (s3.below HBX.out) hfk hlp hfl HP.out hfT);obtain⟨⟨⟨ky,wy,ly⟩,cy⟩,hny⟩:∃r,r=offF u.P u.en (0,wd,cl):=⟨_,rfl⟩
     have hll:ly.length≤4096:=by
      have:=zkr (0:Int) wd (offL (vi 0 wd) (fun t=>(atR 0 wd cl t).1) u.en u.P cl);rw[show zjT 0 wd (offL (vi 0 wd) (fun t=>(atR 0 wd cl t).1) u.en u.P cl)=offF u.P u.en (0,wd,cl)from rfl,←hny]at this;exact this
     dsimp only at HOF;rw[←hny]at HOF;have HYE:=lhd (show(ky,wy,ly)=clr1 u.P u.en (0,wd,cl)by unfold clr1;rw[if_pos rfl,←hny]);have hnr:=HNR.out;rw[←hny]at hnr;simp only[if_pos]at hnr;have HNR2:=lhd hnr;clear hny hfT s3 hnr;go_wp2_with fail;refine HOF.out.mono ?_;rintro e w6 ⟨v6,rfl,ho6,hb6⟩;dsimp only at ho6⊢;obtain⟨va,vc,rfl,-,-⟩:=(SlR.of_own ho6).shape;have HX6a:=lhd (HXF.out.below hb6 hw5);have hO6:=zlI (base':=wr.heap.size+1) ho6 hw5;have HB6:=lhd (HBX.out.trans (hb6.mono HBX.out.size));have hwz6:wr.heap.size<w6.heap.size:=Nat.lt_of_lt_of_le hw5 hb6.size;have HB7:=lhd (HB6.out.alloc HB6.out.size (.cells #[.int .i64 ky,.int .i64 wy,.slice va ly.length vc] 60));have hba:Below w6.heap.size w6 (w6.alloc (.cells #[.int .i64 ky,.int .i64 wy,.slice va ly.length vc] 60)):=(Below.refl _ _).alloc (Nat.le_refl _) _;have HX7:=lhd (HX6a.out.below hba hwz6);have HY7:=lhd (zan.fresh w6 #[.int .i64 ky,.int .i64 wy,.slice va ly.length vc] 60);have HO7:=lhd (za8 hO6 hba);clear ho6 hb6 hO6 hba HOF;by_cases hcy:cy=0
     ·subst hcy
      have HG2:=lhd (show clrE u.P u.en (u.G.drop (k+1))=clrE u.P u.en u.G by
       rw[←HGO.out];have:=HNR2.out;rw[if_neg (by simp)]at this;exact this.symm)
      have x0:=HX7.out.cell (j:=0) rfl;have x1:=HX7.out.cell (j:=1) rfl;have x2:=HX7.out.cell (j:=2) rfl;have f0:=HX7.out.free (j:=0) (by simp);have f1:=HX7.out.free (j:=1) (by simp);have f2:=HX7.out.free (j:=2) (by simp);have y0:=HY7.out.cell (j:=0) rfl;have y1:=HY7.out.cell (j:=1) rfl;have y2:=HY7.out.cell (j:=2) rfl;have HX6:=lhd (zox HX7.out (.int .i64 ky) (.int .i64 wy) (.slice va ly.length vc));have HL6:=lhd (((HB7.out.setCell (p:=⟨wr.heap.size,0,none⟩) (Nat.le_refl _) (.int .i64 ky)).setCell (p:=⟨wr.heap.size,1,none⟩) (Nat.le_refl _) (.int .i64 wy)).setCell (p:=⟨wr.heap.size,2,none⟩) (Nat.le_refl _) (.slice va ly.length vc));have HOV:=lhd (show((ky,wy,ly),Value.slice va ly.length vc)∈p.M∨_ from Or.inr (zlI (base':=w.heap.size+2) (ownsRow_setCell_below (ownsRow_setCell_below (ownsRow_setCell_below HO7.out (a:=⟨wr.heap.size,0,none⟩) (Nat.lt_succ_self _) (.int .i64 ky)) (a:=⟨wr.heap.size,1,none⟩) (Nat.lt_succ_self _) (.int .i64 wy)) (a:=⟨wr.heap.size,2,none⟩) (Nat.lt_succ_self _) (.slice va ly.length vc)) (by omega)));have HI6:=lhd (HI2.out.next HL6.out);go_upto_region 11 with fail;generalize w6.alloc (.cells #[.int .i64 ky,.int .i64 wy,.slice va ly.length vc] 60)=w7 at*;go_upto_region 12 with fail;clear x0 x1 x2 f0 f1 f2 y0 y1 y2;generalize ((w7.setCell ⟨wr.heap.size,0,none⟩ (.int .i64 ky)).setCell ⟨wr.heap.size,1,none⟩ (.int .i64 wy)).setCell ⟨wr.heap.size,2,none⟩ (.slice va ly.length vc)=w8 at*;have HFZ:=lhd (fun o=>zlw (by have:=HI6.out.g;rw[HEQ.out]at this;exact this) o:∀o,(w8).frozen? ⟨g,o,none⟩=false);have c15:=HI6.out.x.cell (j:=15) rfl;rw[HEG2.out]at c15;have e0:=HX6.out.cell (j:=0) rfl;have e1:=HX6.out.cell (j:=1) rfl;have e2:=HX6.out.cell (j:=2) rfl;have z0:=HFZ.out (k*3);have z1:=HFZ.out (k*3+1);have z2:=HFZ.out (k*3+2);have s0:=(HL6.out.cell (p:=⟨g,k*3,none⟩) hg2).trans s0;have s1:=(HL6.out.cell (p:=⟨g,k*3+1,none⟩) hg2).trans s1;have s2:=(HL6.out.cell (p:=⟨g,k*3+2,none⟩) hg2).trans s2;have hg6:g<(w8).heap.size:=Nat.lt_of_lt_of_le hg2 HL6.out.size;have HFIN:=HI6.out.drew.put3 (y:=(ky,wy,ly)) (v':=(.slice va ly.length vc)) HSP.out HEQ.out (HOV.out.imp id (fun h=>h.drew));rw[HAK.out]at HFIN;have hgk:=HGK.out (ky,wy,ly) ((.slice va ly.length vc)) HYE.out;rw[hgk]at HFIN;have HFIN:=lhd HFIN;have HXT:=lhd ((((HX6.out).other (a:=⟨g,k*3,none⟩) (by show g≠_;omega) (.int .i64 ky)).other (a:=⟨g,k*3+1,none⟩) (by show g≠_;omega) (.int .i64 wy)).other (a:=⟨g,k*3+2,none⟩) (by show g≠_;omega) ((.slice va ly.length vc)));have HC2:=lhd (show zdp (clrL u.P u.en (u.G.take (k+1)))=zdp (clrL u.P u.en (u.G.take k))+(ly).length by rw[HCT.out,←HYE.out]);clear hgk;go_wp2_with fail;go_region
      clear c15 s0 s1 s2 e0 e1 e2 z0 z1 z2;have t2:=HXT.out.cell (j:=2) rfl;obtain⟨cc,hcc⟩:∃cc,cc=zdp (clrL u.P u.en (u.G.take k)):=⟨_,rfl⟩;rw[←hcc]at HC2 hct⊢;have hcb:cc≤100000000:=by omega
      go_wp2_with fail;go_roundw;case rel=>exact⟨k+1,hlt,by go_num,by rw[HC2.out];go_num,by rw[HC2.out];omega,HG2.out,_,HFIN.out,HEG2.out⟩
      case measure=>simp[intOf];omega
     ·have bcy:(cy==0)=false:=by simpa using hcy
      have HR:=lhd (show cy=zcm u.P u.en u.G by
       have h1:cy=clrE u.P u.en u.G:=by
        rw[←HGO.out];have:=HNR2.out;rw[if_pos hcy]at this;exact this.symm
       rw[HCF.out,←h1,if_pos hcy])
      have HI7:=lhd (HI2.out.next HB7.out);clear s0 s1 s2;go_wp2_with fail;go_ret;exact⟨znd HR.out,HI7.out.b,fun h=>absurd (HR.out.trans h) hcy⟩
    ·have bkd:(kd==0)=false:=by simpa using hkd
     have HYE:=lhd (show(kd,wd,cl)=clr1 u.P u.en (kd,wd,cl)by unfold clr1;rw[if_neg hkd])
     have HG2:=lhd (show clrE u.P u.en (u.G.drop (k+1))=clrE u.P u.en u.G by
      rw[←HGO.out];have:=HNR.out;simp[hkd]at this;exact this.symm)
     have HI6:=HI5;have HX6:=HXF;have HL6:=HBX;have HOV:=lhd (HCK.out.imp id (fun h=>za8 h HBX.out));clear hfT s3;go_wp2_with fail;generalize wr.alloc (.cells #[.int .i64 kd,.int .i64 wd,.slice xa cl.length xc] 60)=w6 at*;have HFZ:=lhd (fun o=>zlw (by have:=HI6.out.g;rw[HEQ.out]at this;exact this) o:∀o,(w6).frozen? ⟨g,o,none⟩=false);have c15:=HI6.out.x.cell (j:=15) rfl;rw[HEG2.out]at c15;have e0:=HX6.out.cell (j:=0) rfl;have e1:=HX6.out.cell (j:=1) rfl;have e2:=HX6.out.cell (j:=2) rfl;have z0:=HFZ.out (k*3);have z1:=HFZ.out (k*3+1);have z2:=HFZ.out (k*3+2);have s0:=(HL6.out.cell (p:=⟨g,k*3,none⟩) hg2).trans s0;have s1:=(HL6.out.cell (p:=⟨g,k*3+1,none⟩) hg2).trans s1;have s2:=(HL6.out.cell (p:=⟨g,k*3+2,none⟩) hg2).trans s2;have hg6:g<(w6).heap.size:=Nat.lt_of_lt_of_le hg2 HL6.out.size;have HFIN:=HI6.out.drew.put3 (y:=(kd,wd,cl)) (v':=(.slice xa cl.length xc)) HSP.out HEQ.out (HOV.out.imp id (fun h=>h.drew));rw[HAK.out]at HFIN;have hgk:=HGK.out (kd,wd,cl) ((.slice xa cl.length xc)) HYE.out;rw[hgk]at HFIN;have HFIN:=lhd HFIN;have HXT:=lhd ((((HX6.out).other (a:=⟨g,k*3,none⟩) (by show g≠_;omega) (.int .i64 kd)).other (a:=⟨g,k*3+1,none⟩) (by show g≠_;omega) (.int .i64 wd)).other (a:=⟨g,k*3+2,none⟩) (by show g≠_;omega) ((.slice xa cl.length xc)));have HC2:=lhd (show zdp (clrL u.P u.en (u.G.take (k+1)))=zdp (clrL u.P u.en (u.G.take k))+(cl).length by rw[HCT.out,←HYE.out]);clear hgk;go_wp2_with fail;go_region
     clear c15 s0 s1 s2 e0 e1 e2 z0 z1 z2;have t2:=HXT.out.cell (j:=2) rfl;obtain⟨cc,hcc⟩:∃cc,cc=zdp (clrL u.P u.en (u.G.take k)):=⟨_,rfl⟩;rw[←hcc]at HC2 hct⊢;have hcb:cc≤100000000:=by omega
     go_wp2_with fail;go_roundw;case rel=>exact⟨k+1,hlt,by go_num,by rw[HC2.out];go_num,by rw[HC2.out];omega,HG2.out,_,HFIN.out,HEG2.out⟩
     case measure=>simp[intOf];omega
   ·obtain rfl:k=n:=by omega
    have hfin:=HI2.out;have hct2:=hct;rw[List.take_of_length_le (by rw[HN.out];exact Nat.le_refl _),List.drop_of_length_le (by rw[HN.out];exact Nat.le_refl _),List.append_nil]at hfin;rw[List.take_of_length_le (by rw[HN.out];exact Nat.le_refl _)]at hct2⊢;have HI3:=lhd hfin;have HE0:=lhd (show clrE u.P u.en u.G=0 by rw[←HGO.out,List.drop_of_length_le (by rw[HN.out];exact Nat.le_refl _)];rfl);have hcf:=HCF.out;rw[HE0.out,if_neg (by simp)]at hcf;clear hfin;obtain⟨cc,hcc⟩:∃cc,cc=zdp (clrL u.P u.en u.G):=⟨_,rfl⟩;rw[←hcc]at hct2 hcf⊢;by_cases hc4:4096<cc
    ·have hb4:(4096:Int)<(cc:Int):=by omega
     rw[if_pos hc4]at hcf;have HR:=lhd hcf;clear hc4 hcf;go_wp2_with fail;go_ret;exact⟨znd HR.out.symm,HI3.out.b,fun h=>by rw[HR.out]at h;cases h⟩
    ·have hb4:¬(4096:Int)<(cc:Int):=by omega
     rw[if_neg hc4]at hcf;have HR:=lhd hcf;clear hc4 hcf;go_wp2_with fail;go_ret;exact⟨znd HR.out.symm,HI3.out.b,fun _=>⟨q',HI3.out⟩⟩
def StI (w:World) (t:Tr) (p:TP) (k:Nat) (W:World):Prop:=(∀j<k,cod t j=0)∧∃q,BI w t p (stg t k) q W∧(k≤4→q.vp=.slice none 0 0)
def StE (w:World) (t:Tr) (p:TP) (k:Nat) (e:Ending) (W:World):Prop:=e=.returned (.int .i64 (cod t k))∧Below w.heap.size w W∧(cod t k=0→StI w t p (k+1) W)
theorem StI.texts {w W:World} {t:Tr} {p:TP} (h:StI w t p 0 W) (hF:FB t) (hg:Glm w):Calls Tryz.prog 95 #[.pointer (some ⟨w.heap.size,0,none⟩)] W (StE w t p 0):=by
 obtain⟨-,q,hb,hv⟩:=h;refine(zqu w W t tr0 p q hb hg hF.tx).mono ?_;rintro e W' ⟨he,hbb,hc⟩;refine⟨he,hbb,fun h0=>?_⟩;obtain⟨q',hq,hz⟩:=hc h0;exact⟨fun j hj=>by(obtain rfl:j=0:=by omega);exact h0,q',hq,fun _=>hz.trans (hv (by omega))⟩
theorem StI.decl {w W:World} {t:Tr} {p:TP} (h:StI w t p 1 W) (ht:TrM w t p) (hF:FB t) (hw:∀x∈t.V,(Lit.int .i64 x.sg).wf=true):Calls Tryz.prog 96 #[.pointer (some ⟨w.heap.size,0,none⟩)] W (StE w t p 1):=by
 obtain⟨h0,q,hb,hv⟩:=h;refine(zqp w W t _ p q hb ht rfl hF.l hF.n hw).mono ?_;rintro e W' ⟨he,hbb,hc⟩;refine⟨he,hbb,fun h1=>?_⟩;obtain⟨q',hq,hz⟩:=hc h1;refine⟨fun j hj=>?_,q',hq,fun _=>hz.trans (hv (by omega))⟩;rcases Nat.lt_succ_iff_lt_or_eq.1 hj with h2|rfl
 ·exact h0 j h2
 ·exact h1
theorem StI.types {w W:World} {t:Tr} {p:TP} (h:StI w t p 2 W) (hF:FB t):Calls Tryz.prog 97 #[.pointer (some ⟨w.heap.size,0,none⟩)] W (StE w t p 2):=by
 obtain⟨h0,q,hb,hv⟩:=h;obtain⟨d1,d2,d3⟩:=zdZ (h0 1 (by omega));refine(zqv w W t _ p q hb d1 (by show(zll t.S t.V).2.1.length≤1000;rw[d3];exact hF.l.2) (by show(sig1 t).length≤1000;omega)).mono ?_;rintro e W' ⟨he,hbb,hc⟩;refine⟨he,hbb,fun h1=>?_⟩;obtain⟨q',hq,hz⟩:=hc h1;refine⟨fun j hj=>?_,q',hq,fun _=>hz.trans (hv (by omega))⟩;rcases Nat.lt_succ_iff_lt_or_eq.1 hj with h2|rfl
 ·exact h0 j h2
 ·exact h1
theorem StI.normal {w W:World} {t:Tr} {p:TP} (h:StI w t p 3 W) (hF:FB t) (hg:Glob w):Calls Tryz.prog 98 #[.pointer (some ⟨w.heap.size,0,none⟩)] W (StE w t p 3):=by
 obtain⟨h0,q,hb,hv⟩:=h;obtain⟨d1,d2,d3⟩:=zdZ (h0 1 (by omega));refine(zqr w W t _ p q hb hg (fun s hs=>(zoT hF s hs).1) (by show(sig1 t).length≤1000;omega)).mono ?_;rintro e W' ⟨he,hbb,hc⟩;refine⟨he,hbb,fun h1=>?_⟩;obtain⟨q',hq,hz⟩:=hc h1;refine⟨fun j hj=>?_,q',hq,fun _=>hz.trans (hv (by omega))⟩;rcases Nat.lt_succ_iff_lt_or_eq.1 hj with h2|rfl
 ·exact h0 j h2
 ·exact h1
theorem StI.times {w W:World} {t:Tr} {p:TP} (h:StI w t p 4 W) (ht:TrM w t p) (hF:FB t):Calls Tryz.prog 99 #[.pointer (some ⟨w.heap.size,0,none⟩)] W (StE w t p 4):=by
 obtain⟨h0,q,hb,hv⟩:=h;obtain⟨d1,d2,d3⟩:=zdZ (h0 1 (by omega));have hnl:(zjO (sig1 t)).length≤1000:=by unfold zjO;rw[List.length_map];omega
 refine(zqq w W t _ p q hb ht (by rw[hv (by omega)];rfl) hF.p hnl (fun s hs=>by have:=(zjS hF (h0 3 (by omega)) s hs).2.1;omega)).mono ?_;intro e W' hT;have hT:zaA w t p (stg t 4) (zqB t (zjO (sig1 t))) e W':=hT;unfold zaA at hT;cases hr:zqB t (zjO (sig1 t))with
 |none=>
  rw[hr]at hT;obtain⟨he,hbb,-⟩:=hT;have h4:cod t 4=2:=by rw[cod4,hr]
  exact⟨by rw[h4];exact he,hbb,fun h=>by rw[h4]at h;cases h⟩
 |some r=>
  rw[hr]at hT;obtain⟨he,hbb,hc⟩:=hT;have h4:cod t 4=0:=by rw[cod4,hr]
  refine⟨by rw[h4];exact he,hbb,fun _=>?_⟩;obtain⟨q',hq⟩:=hc rfl;refine⟨fun j hj=>?_,q',?_,fun h=>by omega⟩
  ·rcases Nat.lt_succ_iff_lt_or_eq.1 hj with h2|rfl
   ·exact h0 j h2
   ·exact h4
  ·have e5:stg t 5={stg t 4 with P:=r.1,en:=r.2}:=by
    obtain⟨P,en⟩:=r;show(match zqB t (zjO (sig1 t))with|none=>tr0|some (P,en)=>_)=_;rw[hr];rfl
   rw[e5];exact hq
theorem StI.clear {w W:World} {t:Tr} {p:TP} (h:StI w t p 5 W) (hF:FB t) (hg:Glob w):Calls Tryz.prog 100 #[.pointer (some ⟨w.heap.size,0,none⟩)] W (StE w t p 5):=by
 obtain⟨h0,q,hb,hv⟩:=h;obtain⟨d1,d2,d3⟩:=zdZ (h0 1 (by omega));have h4:=h0 4 (by omega);rw[cod4]at h4;cases hr:zqB t (zjO (sig1 t))with
 |none=>rw[hr]at h4;exact absurd h4 (by decide)
 |some r=>
  obtain⟨P,en⟩:=r;obtain⟨f1,f2,f3⟩:=zqL hF (h0 3 (by omega)) hr
  have e5:stg t 5=⟨t.sc,t.dt,t.vn,t.cm,(zll t.S t.V).1,(zll t.S t.V).2.1,zjO (sig1 t),P,en⟩:=by
   show(match zqB t (zjO (sig1 t))with|none=>tr0|some (P,en)=>_)=_;rw[hr]
  rw[e5]at hb;have hnl:(zjO (sig1 t)).length≤1000:=by unfold zjO;rw[List.length_map];omega
  have c5:cod t 5=zcm P en (zjO (sig1 t)):=by rw[cod5,hr]
  refine(zqo w W t _ p q hb hg (fun s hs=>?_) hnl f1 f2).mono ?_
  ·obtain⟨g1,g2,-⟩:=zjS hF (h0 3 (by omega)) s hs;exact⟨g1,by omega,zkz _ _ _ _ f3 _ f1 g1 (by omega)⟩
  rintro e W' ⟨he,hbb,hc⟩;refine⟨by rw[c5];exact he,hbb,fun h1=>?_⟩;obtain⟨q',hq⟩:=hc (by rw[←c5];exact h1)
  have hall:∀j<6,cod t j=0:=fun j hj=>by
   rcases Nat.lt_succ_iff_lt_or_eq.1 hj with h2|rfl
   ·exact h0 j h2
   ·exact h1
  refine⟨hall,q',?_,fun h=>by omega⟩;obtain⟨-,P2,en2,hr2,hb2⟩:=zbz hall;rw[hr]at hr2;injection hr2 with hr2;injection hr2 with e1 e2;subst e1 e2;show BI w t p (zbv t).1 q' W';rw[hb2];exact hq
theorem zqt (w W:World) (t:Tr) (p:TP) (h:StI w t p 0 W) (ht:TrM w t p) (hF:FB t) (hg:Glob w) (hm:Glm w) (hw:∀x∈t.V,(Lit.int .i64 x.sg).wf=true):
 Calls Tryz.prog 94 #[.slice (some ⟨w.heap.size+1,0,none⟩) 6 6] W (zax w t p (zbv t).2 (zbv t).1):=by
 have H0:=lhd h;have HT:=lhd ht;have HF:=lhd hF;have HG:=lhd hg;have HM:=lhd hm;have HW:=lhd hw;clear h ht hF hg hm hw;go_enter Tryz.func94,Tryz.ntmps94;go_wp2_with fail;go_loopw [8] (fun i wr=>∃k:Nat,k≤6∧i=.int .i64 k∧StI w t p k wr) (fun i _=>6-(intOf i).toNat)
 case atStart=>exact⟨0,by omega,rfl,H0.out⟩
 case round=>
  obtain⟨k,hk,rfl,hs⟩:=hrel;have HS:=lhd hs;obtain⟨-,q,hq,-⟩:=hs;have hkk:=hq.k;clear hq;rcases(show k=0∨k=1∨k=2∨k=3∨k=4∨k=5∨k=6 by omega)with rfl|rfl|rfl|rfl|rfl|rfl|rfl
  ·have d0:=hkk.cell (j:=0) rfl;clear hkk;have HK:=lhd (HS.out.texts HF.out HM.out);go_wp2_with fail;refine HK.out.mono ?_;rintro e w1 ⟨rfl,hbb,hnx⟩;by_cases hc:cod t 0=0
   ·have HN:=lhd (hnx hc);rw[hc];clear hbb hnx hc d0 HK HS;go_wp2_with fail;go_roundw;case rel=>exact⟨0+1,by omega,by go_num,HN.out⟩
    case measure=>simp[intOf]
   ·have bc:(cod t 0==0)=false:=by simpa using hc
    have HB:=lhd hbb;have HR:=lhd (zbx (k:=0) (by omega) HS.out.1 hc);have HC:=lhd hc;clear hbb hnx hc d0 HK HS;go_wp2_with fail;go_ret;exact⟨znd HR.out.symm,HB.out,fun h=>absurd (HR.out.symm.trans h) HC.out⟩
  ·have d0:=hkk.cell (j:=1) rfl;clear hkk;have HK:=lhd (HS.out.decl HT.out HF.out HW.out);go_wp2_with fail;refine HK.out.mono ?_;rintro e w1 ⟨rfl,hbb,hnx⟩;by_cases hc:cod t 1=0
   ·have HN:=lhd (hnx hc);rw[hc];clear hbb hnx hc d0 HK HS;go_wp2_with fail;go_roundw;case rel=>exact⟨1+1,by omega,by go_num,HN.out⟩
    case measure=>simp[intOf]
   ·have bc:(cod t 1==0)=false:=by simpa using hc
    have HB:=lhd hbb;have HR:=lhd (zbx (k:=1) (by omega) HS.out.1 hc);have HC:=lhd hc;clear hbb hnx hc d0 HK HS;go_wp2_with fail;go_ret;exact⟨znd HR.out.symm,HB.out,fun h=>absurd (HR.out.symm.trans h) HC.out⟩
  ·have d0:=hkk.cell (j:=2) rfl;clear hkk;have HK:=lhd (HS.out.types HF.out);go_wp2_with fail;refine HK.out.mono ?_;rintro e w1 ⟨rfl,hbb,hnx⟩;by_cases hc:cod t 2=0
   ·have HN:=lhd (hnx hc);rw[hc];clear hbb hnx hc d0 HK HS;go_wp2_with fail;go_roundw;case rel=>exact⟨2+1,by omega,by go_num,HN.out⟩
    case measure=>simp[intOf]
   ·have bc:(cod t 2==0)=false:=by simpa using hc
    have HB:=lhd hbb;have HR:=lhd (zbx (k:=2) (by omega) HS.out.1 hc);have HC:=lhd hc;clear hbb hnx hc d0 HK HS;go_wp2_with fail;go_ret;exact⟨znd HR.out.symm,HB.out,fun h=>absurd (HR.out.symm.trans h) HC.out⟩
  ·have d0:=hkk.cell (j:=3) rfl;clear hkk;have HK:=lhd (HS.out.normal HF.out HG.out);go_wp2_with fail;refine HK.out.mono ?_;rintro e w1 ⟨rfl,hbb,hnx⟩;by_cases hc:cod t 3=0
   ·have HN:=lhd (hnx hc);rw[hc];clear hbb hnx hc d0 HK HS;go_wp2_with fail;go_roundw;case rel=>exact⟨3+1,by omega,by go_num,HN.out⟩
    case measure=>simp[intOf]
   ·have bc:(cod t 3==0)=false:=by simpa using hc
    have HB:=lhd hbb;have HR:=lhd (zbx (k:=3) (by omega) HS.out.1 hc);have HC:=lhd hc;clear hbb hnx hc d0 HK HS;go_wp2_with fail;go_ret;exact⟨znd HR.out.symm,HB.out,fun h=>absurd (HR.out.symm.trans h) HC.out⟩
  ·have d0:=hkk.cell (j:=4) rfl;clear hkk;have HK:=lhd (HS.out.times HT.out HF.out);go_wp2_with fail;refine HK.out.mono ?_;rintro e w1 ⟨rfl,hbb,hnx⟩;by_cases hc:cod t 4=0
   ·have HN:=lhd (hnx hc);rw[hc];clear hbb hnx hc d0 HK HS;go_wp2_with fail;go_roundw;case rel=>exact⟨4+1,by omega,by go_num,HN.out⟩
    case measure=>simp[intOf]
   ·have bc:(cod t 4==0)=false:=by simpa using hc
    have HB:=lhd hbb;have HR:=lhd (zbx (k:=4) (by omega) HS.out.1 hc);have HC:=lhd hc;clear hbb hnx hc d0 HK HS;go_wp2_with fail;go_ret;exact⟨znd HR.out.symm,HB.out,fun h=>absurd (HR.out.symm.trans h) HC.out⟩
  ·have d0:=hkk.cell (j:=5) rfl;clear hkk;have HK:=lhd (HS.out.clear HF.out HG.out);go_wp2_with fail;refine HK.out.mono ?_;rintro e w1 ⟨rfl,hbb,hnx⟩;by_cases hc:cod t 5=0
   ·have HN:=lhd (hnx hc);rw[hc];clear hbb hnx hc d0 HK HS;go_wp2_with fail;go_roundw;case rel=>exact⟨5+1,by omega,by go_num,HN.out⟩
    case measure=>simp[intOf]
   ·have bc:(cod t 5==0)=false:=by simpa using hc
    have HB:=lhd hbb;have HR:=lhd (zbx (k:=5) (by omega) HS.out.1 hc);have HC:=lhd hc;clear hbb hnx hc d0 HK HS;go_wp2_with fail;go_ret;exact⟨znd HR.out.symm,HB.out,fun h=>absurd (HR.out.symm.trans h) HC.out⟩
  ·clear hkk;have HB:=lhd (zbz HS.out.1);have HQ:=lhd (show ∃q,BI w t p (zbv t).1 q wr by obtain⟨-,q,hq,-⟩:=HS.out;exact⟨q,hq⟩);go_wp2_with fail;go_ret;exact⟨znd HB.out.1.symm,by obtain⟨q,hq⟩:=HQ.out;exact hq.b,fun _=>HQ.out⟩
theorem zby {t:Tr} (h:(zbv t).2≠0):(zbv t).1=tr0:=by
 unfold zbv at h⊢;split
 ·rfl
 split
 ·rfl
 split
 ·rfl
 split
 ·rfl
 rename_i h1 h2 h3 h4
 rw[if_neg h1,if_neg h2,if_neg h3,if_neg h4]at h;cases e:zqB t (zjO (sig1 t))with
 |none=>rfl
 |some r=>
  rw[e]at h;obtain⟨P,en⟩:=r;dsimp only at h⊢;split
  ·rfl
  ·rename_i h5
   rw[if_neg h5]at h;exact absurd rfl h
def tp0:TP:=⟨.slice none 0 0,.slice none 0 0,.slice none 0 0,.slice none 0 0,[]⟩
theorem zqS (w:World):TrM w tr0 tp0:=⟨SlR.nil w,SlR.nil w,⟨SlR.nil w,fun x hx=>by cases hx⟩,SlR.nil w,rfl⟩
theorem zqT (t:Tr) (p:TP) (w:World) (ht:TrM w t p) (hF:FB t) (hg:Glob w) (hm:Glm w) (hw:∀x∈t.V,(Lit.int .i64 x.sg).wf=true):
 Calls Tryz.prog 39 #[p.v t] w fun e W'=>∃q,e=.returned (.tuple #[q.v (zbv t).1,.int .i64 (zbv t).2])∧TrM W' (zbv t).1 q∧Below w.heap.size w W':=by
 have HT:=lhd ht;obtain⟨a1,k1,e1,-,-⟩:=ht.s.shape;obtain⟨a2,k2,e2,-,-⟩:=ht.v.shape;obtain⟨a3,k3,e3,-,-⟩:=ht.g.s.shape;obtain⟨a4,k4,e4,-,-⟩:=ht.q.shape;have HBE:=lhd (fun h=>zby (t:=t) h);obtain⟨wa,hwa⟩:∃wa,wa=w.alloc (.cells #[.int .i64 t.sc,.string (bsB t.dt),.string (bsB t.vn),.string (bsB t.cm),p.vs,p.vv,p.vg,p.vp,.int .i64 t.en] 32):=⟨_,rfl⟩;obtain⟨wb,hwb⟩:∃wb,wb=wa.alloc (.cells #[.int .i64 0,.string ⟨#[]⟩,.string ⟨#[]⟩,.string ⟨#[]⟩,.slice none 0 0,.slice none 0 0,.slice none 0 0,.slice none 0 0,.int .i64 0] 32):=⟨_,rfl⟩;have hza:wa.heap.size=w.heap.size+1:=by rw[hwa];simp
 have hzb:wb.heap.size=w.heap.size+1+1:=by rw[hwb,World.size_alloc,hza]
 have hba:Below w.heap.size w wa:=by rw[hwa];exact(Below.refl _ _).alloc (Nat.le_refl _) _
 have hbb:Below w.heap.size w wb:=by rw[hwb];exact hba.alloc (by omega) _
 have HBB:=lhd hbb
 have HR:=lhd (show zan wb (w.heap.size+1) [.int .i64 0,.string ⟨#[]⟩,.string ⟨#[]⟩,.string ⟨#[]⟩,.slice none 0 0,.slice none 0 0,.slice none 0 0,.slice none 0 0,.int .i64 0]by
  have:=zan.fresh wa #[.int .i64 0,.string ⟨#[]⟩,.string ⟨#[]⟩,.string ⟨#[]⟩,.slice none 0 0,.slice none 0 0,.slice none 0 0,.slice none 0 0,.int .i64 0] 32;rw[hza,←hwb]at this;exact this)
 obtain⟨w0,hw0⟩:∃w0,w0=(wb.alloc (.cells #[.int .i64 t.sc,.string (bsB t.dt),.string (bsB t.vn),.string (bsB t.cm),p.vs,p.vv,p.vg,p.vp,.int .i64 t.en,.int .i64 0,.string ⟨#[]⟩,.string ⟨#[]⟩,.string ⟨#[]⟩,.slice none 0 0,.slice none 0 0,.slice none 0 0,.slice none 0 0,.int .i64 0] 146)).alloc (.cells (fnsL wb.heap.size).toArray 148):=⟨_,rfl⟩;have hbw:Below wb.heap.size wb w0:=by rw[hw0];exact((Below.refl _ _).alloc (Nat.le_refl _) _).alloc (by simp) _
 have HST:=lhd (show StI wb t p 0 w0 from⟨fun j hj=>by omega,tp0,
  {x:=by
    have:=(zan.fresh wb #[.int .i64 t.sc,.string (bsB t.dt),.string (bsB t.vn),.string (bsB t.cm),p.vs,p.vv,p.vg,p.vp,.int .i64 t.en,.int .i64 0,.string ⟨#[]⟩,.string ⟨#[]⟩,.string ⟨#[]⟩,.slice none 0 0,.slice none 0 0,.slice none 0 0,.slice none 0 0,.int .i64 0] 146).below ((Below.refl _ _).alloc (Nat.le_refl _) (.cells (fnsL wb.heap.size).toArray 148)) (by simp);rw[←hw0]at this;exact this
   s:=World.ownsRow_nil _ _ _ _
   v:=World.ownsRow_nil _ _ _ _
   g:=World.ownsRow_nil _ _ _ _
   c:=fun x hx=>by cases hx
   r:=World.ownsRow_nil _ _ _ _
   m:=rfl
   b:=hbw
   k:=by
    have:=zan.fresh (wb.alloc (.cells #[.int .i64 t.sc,.string (bsB t.dt),.string (bsB t.vn),.string (bsB t.cm),p.vs,p.vv,p.vg,p.vp,.int .i64 t.en,.int .i64 0,.string ⟨#[]⟩,.string ⟨#[]⟩,.string ⟨#[]⟩,.slice none 0 0,.slice none 0 0,.slice none 0 0,.slice none 0 0,.int .i64 0] 146)) (fnsL wb.heap.size).toArray 148;rw[←hw0,World.size_alloc]at this;exact this
   l:=fun x hx=>(ht.g.m x hx).below hbb},fun _=>rfl⟩)
 have HSS:=lhd (zqt wb w0 t p HST.out (ht.below hbb) hF (hg.below hbb) (hm.below hbb) hw);obtain⟨⟨u,c⟩,hB⟩:∃r,r=zbv t:=⟨_,rfl⟩;rw[←hB]at HSS HBE⊢;dsimp only at HSS HBE⊢;clear hB;obtain⟨Q,hQ⟩:∃Q,Q=zax wb t p c u:=⟨_,rfl⟩;have hss:=HSS.out;rw[←hQ,hw0,hzb,hwb,hwa]at hss;unfold fnsL at hss;have HS2:=lhd hss;have HQ:=lhd hQ;have HZB:=lhd hzb;unfold TP.v;rw[e1,e2,e3,e4]at hss⊢;have HS2:=lhd hss;clear ht hF hg hm hw HST hba hbb hbw hss HSS hw0 hwb hwa hza hQ;go_enter Tryz.func39,Tryz.ntmps39;go_wp2_with fail;refine HS2.out.mono ?_;intro e W' hq;rw[HQ.out]at hq;obtain⟨rfl,hb1,hok⟩:=hq;have HB1:=lhd hb1;have HRW:=lhd (HR.out.below hb1 (by rw[HZB.out];omega));have HOK:=lhd hok;clear hb1 hok HS2 HQ;have r0:=HRW.out.cell (j:=0) rfl;have f0:=HRW.out.free (j:=0) (by simp);have r1:=HRW.out.cell (j:=1) rfl;have f1:=HRW.out.free (j:=1) (by simp);have r2:=HRW.out.cell (j:=2) rfl;have f2:=HRW.out.free (j:=2) (by simp);have r3:=HRW.out.cell (j:=3) rfl;have f3:=HRW.out.free (j:=3) (by simp);have r4:=HRW.out.cell (j:=4) rfl;have f4:=HRW.out.free (j:=4) (by simp);have r5:=HRW.out.cell (j:=5) rfl;have f5:=HRW.out.free (j:=5) (by simp);have r6:=HRW.out.cell (j:=6) rfl;have f6:=HRW.out.free (j:=6) (by simp);have r7:=HRW.out.cell (j:=7) rfl;have f7:=HRW.out.free (j:=7) (by simp);have r8:=HRW.out.cell (j:=8) rfl;have f8:=HRW.out.free (j:=8) (by simp);by_cases hc0:c=0
 ·subst hc0;obtain⟨q,hq⟩:=HOK.out rfl;obtain⟨qa,qk,eqs,-,-⟩:=(SlR.of_own hq.s).shape;obtain⟨qa2,qk2,eqv,-,-⟩:=(SlR.of_own hq.v).shape;obtain⟨qa3,qk3,eqg⟩:=hq.vgk;obtain⟨qa4,qk4,eqp,-,-⟩:=(SlR.of_own hq.r).shape;have HQB:=lhd hq;have b9:=hq.x.cell (j:=9) rfl;have b10:=hq.x.cell (j:=10) rfl;have b11:=hq.x.cell (j:=11) rfl;have b12:=hq.x.cell (j:=12) rfl;have b13:=hq.x.cell (j:=13) rfl;have b14:=hq.x.cell (j:=14) rfl;have b15:=hq.x.cell (j:=15) rfl;have b16:=hq.x.cell (j:=16) rfl;have b17:=hq.x.cell (j:=17) rfl;rw[HZB.out]at b9 b10 b11 b12 b13 b14 b15 b16 b17;rw[eqs]at b13;rw[eqv]at b14;rw[eqg]at b15;rw[eqp]at b16;have HEQS:=lhd eqs;have HEQV:=lhd eqv;have HEQG:=lhd eqg;have HEQP:=lhd eqp;clear hq HBE HOK e1 e2 e3 e4 eqs eqv eqg eqp;go_wp2_with fail;clear b9 b10 b11 b12 b13 b14 b15 b16 b17 r0 f0 r1 f1 r2 f2 r3 f3 r4 f4 r5 f5 r6 f6 r7 f7 r8 f8;have HRF:=lhd (zoA HRW.out (.int .i64 u.sc) (.string (bsB u.dt)) (.string (bsB u.vn)) (.string (bsB u.cm)) (.slice qa u.S.length qk) (.slice qa2 u.V.length qk2) (.slice qa3 q.M.length qk3) (.slice qa4 u.P.length qk4) (.int .i64 u.en));have HPF:=lhd (fun(e size n:Nat) (v:Value) (xs:List Value) (h:W'.ownsRow (wb.heap.size+2) e size v n xs)=>zoz (b:=w.heap.size+1) h (by rw[HZB.out];omega) (.int .i64 u.sc) (.string (bsB u.dt)) (.string (bsB u.vn)) (.string (bsB u.cm)) (.slice qa u.S.length qk) (.slice qa2 u.V.length qk2) (.slice qa3 q.M.length qk3) (.slice qa4 u.P.length qk4) (.int .i64 u.en));have HBF:=lhd (zoy (b:=w.heap.size+1) (HBB.out.trans (HB1.out.mono (by rw[HZB.out];omega))) (Nat.le_succ _) (.int .i64 u.sc) (.string (bsB u.dt)) (.string (bsB u.vn)) (.string (bsB u.cm)) (.slice qa u.S.length qk) (.slice qa2 u.V.length qk2) (.slice qa3 q.M.length qk3) (.slice qa4 u.P.length qk4) (.int .i64 u.en));unfold set9 at HRF HPF HBF;generalize ((((((((W'.setCell _ _).setCell _ _).setCell _ _).setCell _ _).setCell _ _).setCell _ _).setCell _ _).setCell _ _).setCell _ _=Wf at*;have cx0:=HRF.out.cell (j:=0) rfl;have cx1:=HRF.out.cell (j:=1) rfl;have cx2:=HRF.out.cell (j:=2) rfl;have cx3:=HRF.out.cell (j:=3) rfl;have cx4:=HRF.out.cell (j:=4) rfl;have cx5:=HRF.out.cell (j:=5) rfl;have cx6:=HRF.out.cell (j:=6) rfl;have cx7:=HRF.out.cell (j:=7) rfl;have cx8:=HRF.out.cell (j:=8) rfl;refine bodyPost_ret (v:=.tuple #[.agg #[.int .i64 u.sc,.string (bsB u.dt),.string (bsB u.vn),.string (bsB u.cm),.slice qa u.S.length qk,.slice qa2 u.V.length qk2,.slice qa3 q.M.length qk3,.slice qa4 u.P.length qk4,.int .i64 u.en],.int .i64 0]) (by simp[results,Tryz.results39,go_sem, *]) rfl ?_;refine⟨q,by rw[HEQS.out,HEQV.out,HEQG.out,HEQP.out],⟨SlR.of_own (HPF.out _ _ _ _ _ HQB.out.s),SlR.of_own (HPF.out _ _ _ _ _ HQB.out.v),⟨SlR.of_own (HPF.out _ _ _ _ _ HQB.out.g),fun x hx=>?_⟩,SlR.of_own (HPF.out _ _ _ _ _ HQB.out.r),HQB.out.m⟩,HBF.out⟩;rcases HQB.out.c x hx with h|h
  ·exact(HT.out.g.m x h).below HBF.out
  ·exact SlR.of_own (HPF.out _ _ _ _ _ h)
 ·have bc:(c==0)=false:=by simpa using hc0
  have HU:=lhd (HBE.out hc0);clear HBE HOK e1 e2 e3 e4;go_wp2_with fail;clear r0 f0 r1 f1 r2 f2 r3 f3 r4 f4 r5 f5 r6 f6 r7 f7 r8 f8;have HRF:=lhd (zoA HRW.out (.int .i64 0) (.string ⟨#[]⟩) (.string ⟨#[]⟩) (.string ⟨#[]⟩) (.slice none 0 0) (.slice none 0 0) (.slice none 0 0) (.slice none 0 0) (.int .i64 0));have HBF:=lhd (zoy (b:=w.heap.size+1) (HBB.out.trans (HB1.out.mono (by rw[HZB.out];omega))) (Nat.le_succ _) (.int .i64 0) (.string ⟨#[]⟩) (.string ⟨#[]⟩) (.string ⟨#[]⟩) (.slice none 0 0) (.slice none 0 0) (.slice none 0 0) (.slice none 0 0) (.int .i64 0));unfold set9 at HRF HBF;generalize ((((((((W'.setCell _ _).setCell _ _).setCell _ _).setCell _ _).setCell _ _).setCell _ _).setCell _ _).setCell _ _).setCell _ _=Wf at*;have cx0:=HRF.out.cell (j:=0) rfl;have cx1:=HRF.out.cell (j:=1) rfl;have cx2:=HRF.out.cell (j:=2) rfl;have cx3:=HRF.out.cell (j:=3) rfl;have cx4:=HRF.out.cell (j:=4) rfl;have cx5:=HRF.out.cell (j:=5) rfl;have cx6:=HRF.out.cell (j:=6) rfl;have cx7:=HRF.out.cell (j:=7) rfl;have cx8:=HRF.out.cell (j:=8) rfl;refine bodyPost_ret (v:=.tuple #[.agg #[.int .i64 0,.string ⟨#[]⟩,.string ⟨#[]⟩,.string ⟨#[]⟩,.slice none 0 0,.slice none 0 0,.slice none 0 0,.slice none 0 0,.int .i64 0],.int .i64 c]) (by simp[results,Tryz.results39,go_sem, *]) rfl ?_;rw[HU.out];exact⟨tp0,rfl,zqS _,HBF.out⟩
def zsv (t:Tr):Bool:=decide ((zbv t).2=0)&&eqT (zbv t).1 t
theorem zsw {t:Tr}:zsv t=true↔zsx t:=by
 unfold zsv zsx;rw[Bool.and_eq_true,decide_eq_true_iff,zeB];constructor
 ·rintro⟨h1,h2⟩;rw[←Prod.eta (zbv t),h1,h2]
 ·intro h;rw[h];exact⟨rfl,rfl⟩
theorem zqZ (t:Tr) (p:TP) (w:World) (ht:TrM w t p) (hF:FB t) (hg:Glob w) (hm:Glm w) (hw:∀x∈t.V,(Lit.int .i64 x.sg).wf=true):
 Calls Tryz.prog 22 #[p.v t] w fun e W'=>e=.returned (.bool (zsv t))∧Below w.heap.size w W':=by
 have HT:=lhd ht;obtain⟨a1,k1,e1,-,-⟩:=ht.s.shape;obtain⟨a2,k2,e2,-,-⟩:=ht.v.shape;obtain⟨a3,k3,e3,-,-⟩:=ht.g.s.shape;obtain⟨a4,k4,e4,-,-⟩:=ht.q.shape;have hpv:p.v t=.agg #[.int .i64 t.sc,.string (bsB t.dt),.string (bsB t.vn),.string (bsB t.cm),.slice a1 t.S.length k1,.slice a2 t.V.length k2,.slice a3 p.M.length k3,.slice a4 t.P.length k4,.int .i64 t.en]:=by unfold TP.v;rw[e1,e2,e3,e4]
 have hb1:Below w.heap.size w (w.alloc (.cells #[.int .i64 t.sc,.string (bsB t.dt),.string (bsB t.vn),.string (bsB t.cm),.slice a1 t.S.length k1,.slice a2 t.V.length k2,.slice a3 p.M.length k3,.slice a4 t.P.length k4,.int .i64 t.en] 32)):=(Below.refl _ _).alloc (Nat.le_refl _) _;have HX:=lhd (zan.fresh w #[.int .i64 t.sc,.string (bsB t.dt),.string (bsB t.vn),.string (bsB t.cm),.slice a1 t.S.length k1,.slice a2 t.V.length k2,.slice a3 p.M.length k3,.slice a4 t.P.length k4,.int .i64 t.en] 32);have hlt:w.heap.size<(w.alloc (.cells #[.int .i64 t.sc,.string (bsB t.dt),.string (bsB t.vn),.string (bsB t.cm),.slice a1 t.S.length k1,.slice a2 t.V.length k2,.slice a3 p.M.length k3,.slice a4 t.P.length k4,.int .i64 t.en] 32)).heap.size:=by simp
 have HBD:=lhd (zqT t p _ (ht.below hb1) hF (hg.below hb1) (hm.below hb1) hw);have HV:=lhd (show zsv t=(decide ((zbv t).2=0)&&eqT (zbv t).1 t)from rfl);obtain⟨⟨u,c⟩,hB⟩:∃r,r=zbv t:=⟨_,rfl⟩;rw[←hB]at HBD HV;dsimp only at HBD HV;rw[hpv]at HBD⊢;have HB1:=lhd hb1;have HPV:=lhd hpv;clear ht hF hg hm hw hb1 hB hpv e1 e2 e3 e4;go_enter Tryz.func22,Tryz.ntmps22;go_wp2_with fail;generalize w.alloc (.cells #[.int .i64 t.sc,.string (bsB t.dt),.string (bsB t.vn),.string (bsB t.cm),.slice a1 t.S.length k1,.slice a2 t.V.length k2,.slice a3 p.M.length k3,.slice a4 t.P.length k4,.int .i64 t.en] 32)=w1 at*;refine HBD.out.mono ?_;rintro e w2 ⟨q,rfl,hq,hb2⟩;obtain⟨x1,y1,f1,-,-⟩:=hq.s.shape;obtain⟨x2,y2,f2,-,-⟩:=hq.v.shape;obtain⟨x3,y3,f3,-,-⟩:=hq.g.s.shape;obtain⟨x4,y4,f4,-,-⟩:=hq.q.shape;have hqv:q.v u=.agg #[.int .i64 u.sc,.string (bsB u.dt),.string (bsB u.vn),.string (bsB u.cm),.slice x1 u.S.length y1,.slice x2 u.V.length y2,.slice x3 q.M.length y3,.slice x4 u.P.length y4,.int .i64 u.en]:=by unfold TP.v;rw[f1,f2,f3,f4]
 have HQV:=lhd hqv;rw[hqv];have HQ:=lhd hq;have HB2:=lhd (HB1.out.trans (hb2.mono HB1.out.size));have HX2:=lhd (HX.out.below hb2 hlt);have hlt2:w.heap.size<w2.heap.size:=Nat.lt_of_lt_of_le hlt hb2.size;clear hq hb2 f1 f2 f3 f4 hqv HBD HX;have hba:Below w2.heap.size w2 (w2.alloc (.cells #[.int .i64 u.sc,.string (bsB u.dt),.string (bsB u.vn),.string (bsB u.cm),.slice x1 u.S.length y1,.slice x2 u.V.length y2,.slice x3 q.M.length y3,.slice x4 u.P.length y4,.int .i64 u.en] 32)):=(Below.refl _ _).alloc (Nat.le_refl _) _;have HBA:=lhd (HB2.out.trans (hba.mono HB2.out.size));by_cases hc:c=0
 ·subst hc;have HXA:=lhd (HX2.out.below hba hlt2);have HY:=lhd (zan.fresh w2 #[.int .i64 u.sc,.string (bsB u.dt),.string (bsB u.vn),.string (bsB u.cm),.slice x1 u.S.length y1,.slice x2 u.V.length y2,.slice x3 q.M.length y3,.slice x4 u.P.length y4,.int .i64 u.en] 32);have HEQ:=zqU u t q p (w2.alloc (.cells #[.int .i64 u.sc,.string (bsB u.dt),.string (bsB u.vn),.string (bsB u.cm),.slice x1 u.S.length y1,.slice x2 u.V.length y2,.slice x3 q.M.length y3,.slice x4 u.P.length y4,.int .i64 u.en] 32)) (HQ.out.below hba) (HT.out.below HBA.out);rw[HPV.out,HQV.out]at HEQ;have HEQ:=lhd HEQ;have HV2:=lhd (show zsv t=eqT u t by rw[HV.out];rfl);have p0:=HX2.out.cell (j:=0) rfl;have p1:=HX2.out.cell (j:=1) rfl;have p2:=HX2.out.cell (j:=2) rfl;have p3:=HX2.out.cell (j:=3) rfl;have p4:=HX2.out.cell (j:=4) rfl;have p5:=HX2.out.cell (j:=5) rfl;have p6:=HX2.out.cell (j:=6) rfl;have p7:=HX2.out.cell (j:=7) rfl;have p8:=HX2.out.cell (j:=8) rfl;go_wp2_with fail;refine HEQ.out.mono ?_;rintro e w3 ⟨rfl,hb3⟩;have HB3:=lhd (HBA.out.trans (hb3.mono HBA.out.size));clear hb3 p0 p1 p2 p3 p4 p5 p6 p7 p8;go_wp2_with fail;go_ret;exact⟨znc HV2.out.symm,HB3.out⟩
 ·have bc:(c==0)=false:=by simpa using hc
  have HV2:=lhd (show zsv t=false by rw[HV.out,decide_eq_false hc];rfl);go_wp2_with fail;go_ret;exact⟨znc HV2.out.symm,HBA.out⟩
end Go.Proofs.YtfppgpamkdkckaaGreatDoor
