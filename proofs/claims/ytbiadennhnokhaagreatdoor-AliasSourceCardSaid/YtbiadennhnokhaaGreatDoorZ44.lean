import Derived.Test.YtbiadennhnokhaaGreatDoorZ00
import Derived.Test.YtbiadennhnokhaaGreatDoorZ43
set_option maxRecDepth 100000
set_option maxHeartbeats 16000000
namespace Go.Proofs.YtbiadennhnokhaaGreatDoor
open Go.RowKit
set_option linter.unusedSimpArgs false
theorem ziH {k n tm:Int} (h:sv k n []=true) (h0: -1≤tm) (h1:tm≤1099511627776):ziG k n [] tm=((0,⟨#[]⟩),6):=by
 unfold ziG;rw[if_neg (by rw[h];simp),if_neg (by omega)];rfl
theorem znP {t:Tr} {jj:Nat} {y:Sg} (hy:t.G[jj]? =some y) {tm:Int} (h0: -1≤tm) (h1:tm≤t.en):znC t (jj:Int) tm=ziG y.1 y.2.1 y.2.2 tm:=by
 have hlt:jj<t.G.length:=(List.getElem?_eq_some_iff.1 hy).1;unfold znC;rw[if_pos (zfJ.2 ⟨by omega,by omega,h0,h1⟩),show sgI t.G (jj:Int)=y by unfold sgI;rw[Int.toNat_natCast,List.getD,hy];rfl]
theorem zcp {w:World} {b b' o:Nat} {x:Value} (hb:b'≠b) (h:w.cell? ⟨b',o,none⟩=some x) (p q:Value):((w.setCell ⟨b,0,none⟩ p).setCell ⟨b,1,none⟩ q).cell? ⟨b',o,none⟩=some x:=by
 rw[World.cell?_setCell_other (h:=by intro e;injection e with e1;exact hb e1.symm),World.cell?_setCell_other (h:=by intro e;injection e with e1;exact hb e1.symm)];exact h
theorem zhl {v:ByteArray} {c:Ch} {l:List Ch}:(kp v (c::l)).head? =if c.2=v then(kp v l).head? else some c:=by
 rw[zhk];split<;>rfl
theorem zbb {w:World} {b:Nat} {T t:Tr} {q:TP} {L:List (Sg×Value)} {D:List Dv} {vl vd:Value} (h:AsM w b t q L D vl vd) (R:AsR T t L D) (hg:Glob w) (n tm:Int):
 Calls Tryz.prog 371 #[pB b,.int .i64 n,.int .i64 tm] w fun e W'=>e=.returned (.tuple #[.agg #[.int .i64 (znC T n tm).1.1,.string (znC T n tm).1.2],.int .i64 (znC T n tm).2])∧Below w.heap.size w W':=by
 have hb1:=zbD w #[.int .i64 0,.string ⟨#[]⟩] 53;have hY:=Bx.new w #[.int .i64 0,.string ⟨#[]⟩] 53;have h1:=h.below hb1;have hg1:=hg.below hb1;obtain⟨Q,hQ⟩:∃Q,Q=znC T n tm:=⟨_,rfl⟩;rw[←hQ];obtain⟨al,cl,rfl,-,-⟩:=h.l.s.shape;obtain⟨ad,cd,rfl,-,-⟩:=h.d.shape;obtain⟨a1,k1,a2,k2,a3,k3,a4,k4,e,-⟩:=h.t.open;obtain⟨w1,hw1⟩:∃w1,w1=w.alloc (.cells #[.int .i64 0,.string ⟨#[]⟩] 53):=⟨_,rfl⟩;rw[←hw1]at hb1 hY h1 hg1;have HEN:=lhd (znG t q _ h1.t);have HHS:=lhd (fun W (hW:Below w1.heap.size w1 W)=>zbi (T:=T) (h1.below hW) R.len n tm (-1) T.en);have x0:=h1.x.cell (j:=0) rfl;have x2:=h1.x.cell (j:=2) rfl;rw[e]at x0 HEN;rw[R.en]at HEN;have HB1:=lhd hb1;have HY:=lhd hY;have hsw:=hb1.size;have hblt:=h.lt;by_cases hh:hasS T n tm (-1) T.en=true
 rotate_left
 ·have hf:hasS T n tm (-1) T.en=false:=by simpa using hh
  have HR:=lhd (show Q=((0,⟨#[]⟩),2)by rw[hQ];unfold znC;rw[if_neg hh]);rw[hf]at HHS;rw[HR.out];clear h R hg e hh HR hf h1 hg1 hQ x2 hb1 hY;go_enter Tryz.func371,Tryz.ntmps371;go_upto_region 1 with fail;rw[←hw1];clear hw1;go_wp2_with fail;refine HEN.out.mono ?_;rintro e w2 ⟨rfl,hb2⟩;have HB2:=lhd hb2;clear hb2;go_wp2_with fail;refine(HHS.out w2 HB2.out).mono ?_;rintro e w3 ⟨rfl,hb3⟩;have HB3:=lhd (zeG HB1.out (zeG HB2.out hb3));have HY3:=lhd (HY.out.step (zeG HB2.out hb3));clear hb3;have y0:=HY3.out.1.cell (j:=0) rfl;have y1:=HY3.out.1.cell (j:=1) rfl;have z0:=HY3.out.1.free (j:=0) (by simp);have z1:=HY3.out.1.free (j:=1) (by simp);go_wp2_with fail;refine bodyPost_ret (v:=.tuple #[.agg #[.int .i64 0,.string ⟨#[]⟩],.int .i64 2]) (by simp[results,Tryz.results371,go_sem,y0,y1]) rfl ⟨rfl,?_⟩;exact(HB3.out.setCell (Nat.le_refl _) _).setCell (Nat.le_refl _) _
 obtain⟨g0,g1,g2,g3⟩:=zfJ.1 hh;obtain⟨j,rfl⟩:∃j:Nat,n=(j:Int):=⟨n.toNat,by omega⟩;have hj:j<L.length:=by rw[R.len];omega
 have hd:j<D.length:=by rw[R.dl];exact hj
 have hnb:b≠w.heap.size:=Nat.ne_of_lt hblt;have hl8:L.length≤64:=by have:=R.len;have:=R.n;omega
 have hdl8:D.length≤64:=by rw[R.dl];exact hl8
 have hm64:=R.m;have he1:=R.e1;have HDS:=lhd (R.d j hj hd);have HSV:=lhd (R.svj hj);have HQ:=lhd (show Q=ziG L[j].1.1 L[j].1.2.1 L[j].1.2.2 tm by rw[hQ];unfold znC;rw[if_pos hh,R.at hj]);obtain⟨b3,o3,rfl,z0,-,-⟩:=zdZ h1.d hd
 have hnb3:b3≠w.heap.size:=by
  obtain⟨b4,o4,e4,z4,-,-⟩:=zdZ h.d hd;injection e4 with e4;injection e4 with e4 _ _;subst e4;exact Nat.ne_of_lt (zcn z4)
 have HXC:=lhd (show ∀W,Below w1.heap.size w1 W→W.cell? ⟨b,0,none⟩=some (.iface 148 (.agg (boxT t a1 a2 a3 a4 k1 k2 k3 k4)))∧W.cell? ⟨b,2,none⟩=some (.slice (some ⟨b3,o3,none⟩) D.length cd)∧W.cell? ⟨b3,o3+j*3,none⟩=some (.int .i64 D[j].1)from
  fun W hW=>⟨(hW.cell (zcn x0)).trans x0,(hW.cell (zcn x2)).trans x2,(hW.cell (zcn z0)).trans z0⟩)
 have HLT:=lhd (show b3<w1.heap.size from zcn z0);have HTH:=lhd (fun W (hW:Below w1.heap.size w1 W)=>zbj (h1.below hW) hj hl8);have HBF:=lhd (fun W (hW:Below w1.heap.size w1 W)=>zbg (h1.below hW) R (hg1.below hW) hj (show 0≤tm+1 by omega) (by omega));have HDR:=lhd (fun W (hW:Below w1.heap.size w1 W) s hs=>zbh (h1.below hW) (hg1.below hW) hj hd hl8 hdl8 s hs);have HNX:=lhd (fun(n' tm':Int) W (hW:Below w1.heap.size w1 W)=>znJ t q n' tm' W (h1.t.below hW) R.s (hg1.below hW));have hten:=R.en;have R2:=lhd R.le;rw[e]at HNX;rw[hh]at HHS;generalize L[j]=x at*;generalize D[j]=d at*;obtain⟨⟨xk,xn,xl⟩,xv⟩:=x;dsimp only at*;have hwt:IntKind.i64.wrap (tm+1)=tm+1:=IntWalk.i64_in _ (by omega);clear h R hg e hh h1 hg1 hQ hb1 hY;go_enter Tryz.func371,Tryz.ntmps371;go_upto_region 1 with fail;rw[←hw1];clear hw1;go_wp2_with fail;refine HEN.out.mono ?_;rintro e w2 ⟨rfl,hb2⟩;have HB2:=lhd hb2;clear hb2;go_wp2_with fail;refine(HHS.out w2 HB2.out).mono ?_;rintro e w3 ⟨rfl,hb3⟩;have HB13:=lhd (zeG HB2.out hb3);have HB3:=lhd (zeG HB1.out (zeG HB2.out hb3));have HY3:=lhd (HY.out.step (zeG HB2.out hb3));clear hb3 x0 x2 z0;obtain⟨x0,x2,z0⟩:=HXC.out w3 HB13.out;rcases HDS.out with⟨hm,hl0⟩|⟨jj,y,hjj,hy,hysv,hcase⟩
 ·have HR:=lhd (show Q=((0,⟨#[]⟩),6)by
   have hs:sv xk xn xl=true:=HSV.out;rw[show xl=[]from hl0]at hs;rw[HQ.out,show xl=[]from hl0];exact ziH hs (by omega) (by omega))
  rw[hm]at z0;have y0:=HY3.out.1.cell (j:=0) rfl;have y1:=HY3.out.1.cell (j:=1) rfl;have zz0:=HY3.out.1.free (j:=0) (by simp);have zz1:=HY3.out.1.free (j:=1) (by simp);go_wp2_with fail;refine bodyPost_ret (v:=.tuple #[.agg #[.int .i64 0,.string ⟨#[]⟩],.int .i64 6]) (by simp[results,Tryz.results371,go_sem,y0,y1]) rfl ⟨by rw[HR.out],?_⟩;exact(HB3.out.setCell (Nat.le_refl _) _).setCell (Nat.le_refl _) _
 rw[hjj]at z0;have hlt:jj<t.G.length:=(List.getElem?_eq_some_iff.1 hy).1;have hjl:jj≤64:=by omega
 have bm:((jj:Int)== -1)=false:=by rw[beq_eq_false_iff_ne];omega
 rcases hcase with⟨h0,rfl⟩|⟨h0,hy0,hsl,hder⟩
 ·have HR:=lhd (show znC t (jj:Int) tm=Q by rw[HQ.out,znP hy (by omega) (by omega)]);have HC:=lhd (fun W hW=>HNX.out (jj:Int) tm W hW);rw[HR.out]at HC;have bk:(xk !=0)=true:=by rw[bne_iff_ne];exact h0
  have HTH3:=lhd (HTH.out w3 HB13.out);rw[bk]at HTH3;clear HR HQ HSV HDS hy hysv HBF HDR HNX HTH;go_wp2_with fail;refine HTH3.out.mono ?_;rintro e w4 ⟨rfl,hb4⟩;have HB14:=lhd (zeG HB13.out hb4);have HB4:=lhd (zeG HB3.out hb4);have HY4:=lhd (HY3.out.step hb4);clear hb4 x0 x2 z0;obtain⟨x0,x2,z0⟩:=HXC.out w4 HB14.out;rw[hjj]at z0;go_upto_region 6 with fail
  go_region_held3 (fun w'=>w'.cell? ⟨b,0,none⟩=some (.iface 148 (.agg (boxT t a1 a2 a3 a4 k1 k2 k3 k4)))∧w'.cell? ⟨b,2,none⟩=some (.slice (some ⟨b3,o3,none⟩) D.length cd)∧w'.cell? ⟨b3,o3+j*3,none⟩=some (.int .i64 (jj:Int)))
   (first|exact⟨x0,x2,z0⟩|exact⟨v0,v1,v2⟩|exact⟨zcp hnb v0 _ _,zcp hnb v1 _ _,zcp hnb3 v2 _ _⟩|go_keep)
   (first
     |(go_at_call 364;(with_reducible refine(HC.out _ ?_).mono ?_);(exact zbz HB14.out _);rintro e w5 ⟨rfl,hb5⟩;have b5:Below w4.heap.size w4 w5:=zbL hb5;have v0:=(b5.cell (zcn x0)).trans x0;have v1:=(b5.cell (zcn x2)).trans x2;have v2:=(b5.cell (zcn z0)).trans z0;have hy5:=HY4.out.step b5;have y0:=hy5.1.cell (j:=0) rfl;have y1:=hy5.1.cell (j:=1) rfl;have zz0:=hy5.1.free (j:=0) (by simp);have zz1:=hy5.1.free (j:=1) (by simp);clear hb5)
     |fail "no arm")
  go_wp2_with fail;refine bodyPost_ret (v:=.tuple #[.agg #[.int .i64 Q.1.1,.string Q.1.2],.int .i64 Q.2]) (by simp[results,Tryz.results371,go_sem,y0,y1]) rfl ⟨rfl,?_⟩;exact((zeG HB4.out b5).setCell (Nat.le_refl _) _).setCell (Nat.le_refl _) _
 ·obtain⟨yk,yn,yl⟩:=y;obtain rfl:yk=0:=hy0;obtain rfl:xk=0:=h0;dsimp only at hder hsl;have HN:=lhd (hder.next (t:=tm) (by omega) (by omega));have HQ2:=lhd (HQ.out.trans HN.out);have HV:=lhd (hder.val tm);have HI:=lhd hder.inc;have hsy:sv 0 yn yl=true:=hysv;have HSY:=lhd hsy
  have HNV:=lhd (show ∀tc:Int,-1≤tc→tc≤T.en→znC t (jj:Int) tc=chO (yl.drop (lo yl (tc+1))).head? from fun tc hc1 hc2=>by
   rw[znP hy hc1 (by omega)];unfold ziG;rw[if_neg (by rw[hsy];simp),if_neg (by omega),zcr])
  have bk:((0:Int) !=0)=false:=rfl;have HTH3:=lhd (HTH.out w3 HB13.out);rw[bk]at HTH3;have HLE:=lhd (show ∀c∈yl,c.1≤T.en from fun c hc=>by have:=R2.out (0,yn,yl) (List.mem_of_getElem? hy) c hc;exact this);have HSZ:=lhd (show ∀c∈yl,c.2.size≤maxLen from fun c hc=>by have:=zqZ (zoJ hsy c hc).2.2;unfold maxLen;omega);rw[show tm+1-1=tm by omega,HV.out]at HBF;generalize zll d 0 xn=f at HN HQ2 HV HBF HDR hder;generalize f (val (vi 0 yn) yl tm)=now at HQ2 HBF;clear HQ HSV HDS hy hysv HTH hder hsy HN HV bk;go_wp2_with fail;refine HTH3.out.mono ?_;rintro e w4 ⟨rfl,hb4⟩;have HB14:=lhd (zeG HB13.out hb4);have HB4:=lhd (zeG HB3.out hb4);have HY4:=lhd (HY3.out.step hb4);clear hb4 x0 x2 z0 HTH3;go_wp2_with fail;refine(HBF.out w4 HB14.out).mono ?_;rintro e w5 ⟨rfl,hb5⟩;have HB15:=lhd (zeG HB14.out hb5);have HB5:=lhd (zeG HB4.out hb5);have HY5:=lhd (HY4.out.step hb5);clear hb5 HBF hwt;go_wp2_with fail;go_loopw [2,9] (fun t_ e_ wr=>∃(tc:Int),t_=.int .i64 tc∧e_=.int .i64 0∧ -1≤tc∧tc≤T.en∧Q=chO (kp now ((yl.drop (lo yl (tc+1))).map (mvC f))).head? ∧Bx wr w.heap.size #[.int .i64 0,.string ⟨#[]⟩]∧Below w1.heap.size w1 wr∧Below w.heap.size w wr) (fun t_ _ _=>yl.length-lo yl (intOf t_+1))
  case atStart=>exact⟨tm,rfl,rfl,by omega,by omega,HQ2.out,HY5.out,HB15.out,HB5.out⟩
  case round=>
   obtain⟨tc,rfl,rfl,hc1,hc2,hq,hyr,hb1r,hbr⟩:=hrel;have HQ:=lhd hq;have hal:=zbD wr #[.int .i64 0,.string ⟨#[]⟩] 53;have HC0:=lhd (Bx.new wr #[.int .i64 0,.string ⟨#[]⟩] 53);have HYR:=lhd (hyr.step hal);have HB1R:=lhd (zeG hb1r hal);have HBR:=lhd (zeG hbr hal);have hszr:w.heap.size<wr.heap.size:=hyr.2;have hszr1:=hb1r.size;have hnr:b≠wr.heap.size:=by omega
   have hnr3:b3≠wr.heap.size:=by have h3:b3<w1.heap.size:=HLT.out;omega
   clear hq hal hyr hb1r hbr HY5 HB15 HB5 HQ2 HB14 HB4 HY4;go_upto_region 10 with fail;generalize hwa:wr.alloc (.cells #[.int .i64 0,.string ⟨#[]⟩] 53)=wa at*;clear hwa;obtain⟨x0,x2,z0⟩:=HXC.out wa HB1R.out;rw[hjj]at z0;have HC:=lhd (fun W hW=>HNX.out (jj:Int) tc W hW);rw[HNV.out tc hc1 hc2]at HC;by_cases hlk:lo yl (tc+1)<yl.length
   rotate_left
   ·have HR:=lhd (show Q=((0,⟨#[]⟩),6)by rw[HQ.out,List.drop_of_length_le (by omega)];rfl);rw[List.drop_of_length_le (by omega)]at HC;rw[show chO ([]:List Ch).head? =((0,⟨#[]⟩),6)from rfl]at HC;clear HQ HNV hc1 hc2
    go_region_held3 (fun w'=>w'.cell? ⟨b,0,none⟩=some (.iface 148 (.agg (boxT t a1 a2 a3 a4 k1 k2 k3 k4)))∧w'.cell? ⟨b,2,none⟩=some (.slice (some ⟨b3,o3,none⟩) D.length cd)∧w'.cell? ⟨b3,o3+j*3,none⟩=some (.int .i64 (jj:Int)))
     (first|exact⟨x0,x2,z0⟩|exact⟨v0,v1,v2⟩|exact⟨zcp hnr v0 _ _,zcp hnr v1 _ _,zcp hnr3 v2 _ _⟩|go_keep)
     (first
       |(go_at_call 364;(with_reducible refine(HC.out _ ?_).mono ?_);(exact zbz HB1R.out _);rintro e w5 ⟨rfl,hb5⟩;have b5:Below wa.heap.size wa w5:=zbL hb5;have v0:=(b5.cell (zcn x0)).trans x0;have v1:=(b5.cell (zcn x2)).trans x2;have v2:=(b5.cell (zcn z0)).trans z0;have hy5:=HC0.out.step b5;have y0:=hy5.1.cell (j:=0) rfl;have y1:=hy5.1.cell (j:=1) rfl;have zz0:=hy5.1.free (j:=0) (by simp);have zz1:=hy5.1.free (j:=1) (by simp);clear hb5)
       |fail "no arm")
    have hc7:=(hy5.1.set (j:=0) (by simp) (.int .i64 (0:Int))).set (j:=1) (by simp) (.string ⟨#[]⟩);have hc7l:wr.heap.size<((w5.setCell ⟨wr.heap.size,0,none⟩ (.int .i64 (0:Int))).setCell ⟨wr.heap.size,1,none⟩ (.string ⟨#[]⟩)).heap.size:=by rw[World.size_setCell,World.size_setCell];exact hy5.2
    have hb7:Below w1.heap.size w1 ((w5.setCell ⟨wr.heap.size,0,none⟩ (.int .i64 (0:Int))).setCell ⟨wr.heap.size,1,none⟩ (.string ⟨#[]⟩)):=((zeG HB1R.out b5).setCell hszr1 _).setCell hszr1 _;have hbr7:Below w.heap.size w ((w5.setCell ⟨wr.heap.size,0,none⟩ (.int .i64 (0:Int))).setCell ⟨wr.heap.size,1,none⟩ (.string ⟨#[]⟩)):=((zeG HBR.out b5).setCell (Nat.le_of_lt hszr) _).setCell (Nat.le_of_lt hszr) _;have hy7:=((HYR.out.step b5).1.setOther (b':=wr.heap.size) (by omega) 0 (.int .i64 (0:Int))).setOther (b':=wr.heap.size) (by omega) 1 (.string ⟨#[]⟩);clear v0 v1 v2 hy5 y0 y1 zz0 zz1 b5 x0 x2 z0;rename_i hh
    clear hh;generalize (w5.setCell ⟨wr.heap.size,0,none⟩ (.int .i64 (0:Int))).setCell ⟨wr.heap.size,1,none⟩ (.string ⟨#[]⟩)=w7 at hc7 hc7l hb7 hbr7 hy7⊢;have HC7:=lhd (show Bx w7 wr.heap.size #[.int .i64 (0:Int),.string ⟨#[]⟩]from⟨hc7,hc7l⟩);have HY7:=lhd (show Bx w7 w.heap.size #[.int .i64 0,.string ⟨#[]⟩]from⟨hy7,by omega⟩);have HB7:=lhd hb7;have HBR7:=lhd hbr7;clear hc7 hc7l hb7 hbr7 hy7;have y0:=HY7.out.1.cell (j:=0) rfl;have y1:=HY7.out.1.cell (j:=1) rfl;have zz0:=HY7.out.1.free (j:=0) (by simp);have zz1:=HY7.out.1.free (j:=1) (by simp);go_wp2_with fail;refine bodyPost_ret (v:=.tuple #[.agg #[.int .i64 (0:Int),.string ⟨#[]⟩],.int .i64 6]) (by simp[results,Tryz.results371,go_sem,y0,y1]) rfl ⟨by rw[HR.out],?_⟩;exact(HBR7.out.setCell (Nat.le_refl _) _).setCell (Nat.le_refl _) _
   ·have HHD:=lhd (show(yl.drop (lo yl (tc+1))).head? =some yl[lo yl (tc+1)]by rw[List.head?_drop,List.getElem?_eq_getElem hlk])
    have HST:=lhd (show Q=chO (if f yl[lo yl (tc+1)].2=now then(kp now ((yl.drop (lo yl (tc+1)+1)).map (mvC f))).head? else some (mvC f yl[lo yl (tc+1)]))by
     rw[HQ.out,List.drop_eq_getElem_cons hlk,List.map_cons,zhl];rfl)
    have HLO:=lhd (zhJ HI.out hlk).2;have HMM:=lhd (zoJ HSY.out yl[lo yl (tc+1)] (List.getElem_mem hlk));have HS1:=lhd (HSZ.out yl[lo yl (tc+1)] (List.getElem_mem hlk));have htm:yl[lo yl (tc+1)].1≤T.en:=HLE.out _ (List.getElem_mem hlk);rw[HHD.out]at HC;generalize hko:lo yl (tc+1)=ko at*;generalize yl[ko]=c at*;obtain⟨ct,cv⟩:=c;rw[show chO (some (ct,cv))=((ct,cv),0)from rfl]at HC;dsimp only at HST HLO HMM HS1 htm HC;have ht0:=HMM.out.1;clear HQ HNV hc1 hc2 HHD HMM
    go_region_held3 (fun w'=>w'.cell? ⟨b,0,none⟩=some (.iface 148 (.agg (boxT t a1 a2 a3 a4 k1 k2 k3 k4)))∧w'.cell? ⟨b,2,none⟩=some (.slice (some ⟨b3,o3,none⟩) D.length cd)∧w'.cell? ⟨b3,o3+j*3,none⟩=some (.int .i64 (jj:Int)))
     (first|exact⟨x0,x2,z0⟩|exact⟨v0,v1,v2⟩|exact⟨zcp hnr v0 _ _,zcp hnr v1 _ _,zcp hnr3 v2 _ _⟩|go_keep)
     (first
       |(go_at_call 364;(with_reducible refine(HC.out _ ?_).mono ?_);(exact zbz HB1R.out _);rintro e w5 ⟨rfl,hb5⟩;have b5:Below wa.heap.size wa w5:=zbL hb5;have v0:=(b5.cell (zcn x0)).trans x0;have v1:=(b5.cell (zcn x2)).trans x2;have v2:=(b5.cell (zcn z0)).trans z0;have hy5:=HC0.out.step b5;have y0:=hy5.1.cell (j:=0) rfl;have y1:=hy5.1.cell (j:=1) rfl;have zz0:=hy5.1.free (j:=0) (by simp);have zz1:=hy5.1.free (j:=1) (by simp);clear hb5)
       |fail "no arm")
    have hc7:=(hy5.1.set (j:=0) (by simp) (.int .i64 ct)).set (j:=1) (by simp) (.string cv);have hc7l:wr.heap.size<((w5.setCell ⟨wr.heap.size,0,none⟩ (.int .i64 ct)).setCell ⟨wr.heap.size,1,none⟩ (.string cv)).heap.size:=by rw[World.size_setCell,World.size_setCell];exact hy5.2
    have hb7:Below w1.heap.size w1 ((w5.setCell ⟨wr.heap.size,0,none⟩ (.int .i64 ct)).setCell ⟨wr.heap.size,1,none⟩ (.string cv)):=((zeG HB1R.out b5).setCell hszr1 _).setCell hszr1 _;have hbr7:Below w.heap.size w ((w5.setCell ⟨wr.heap.size,0,none⟩ (.int .i64 ct)).setCell ⟨wr.heap.size,1,none⟩ (.string cv)):=((zeG HBR.out b5).setCell (Nat.le_of_lt hszr) _).setCell (Nat.le_of_lt hszr) _;have hy7:=((HYR.out.step b5).1.setOther (b':=wr.heap.size) (by omega) 0 (.int .i64 ct)).setOther (b':=wr.heap.size) (by omega) 1 (.string cv);clear v0 v1 v2 hy5 y0 y1 zz0 zz1 b5 x0 x2 z0;rename_i hh
    clear hh;generalize (w5.setCell ⟨wr.heap.size,0,none⟩ (.int .i64 ct)).setCell ⟨wr.heap.size,1,none⟩ (.string cv)=w7 at hc7 hc7l hb7 hbr7 hy7⊢;have HC7:=lhd (show Bx w7 wr.heap.size #[.int .i64 ct,.string cv]from⟨hc7,hc7l⟩);have HY7:=lhd (show Bx w7 w.heap.size #[.int .i64 0,.string ⟨#[]⟩]from⟨hy7,by omega⟩);have HB7:=lhd hb7;have HBR7:=lhd hbr7;clear hc7 hc7l hb7 hbr7 hy7;have c0:=HC7.out.1.cell (j:=0) rfl;have c1:=HC7.out.1.cell (j:=1) rfl;have HD7:=lhd (HDR.out w7 HB7.out cv HS1.out);go_wp2_with fail;refine HD7.out.mono ?_;rintro e w8 ⟨rfl,hb8⟩;have HB8:=lhd (zeG HB7.out hb8);have HBR8:=lhd (zeG HBR7.out hb8);have HY8:=lhd (HY7.out.step hb8);have HC8:=lhd (HC7.out.step hb8);clear hb8 c0 c1 HD7;have c0:=HC8.out.1.cell (j:=0) rfl;have c1:=HC8.out.1.cell (j:=1) rfl;by_cases hfn:f cv=now
    ·rw[if_pos hfn]at HST;have hbn:((f cv).toList==now.toList)=true:=by rw[hfn];exact beq_self_eq_true _
     go_wp2_with fail;go_roundw;case rel=>exact⟨ct,rfl,rfl,by omega,htm,by rw[HLO.out];exact HST.out,HY8.out,HB8.out,HBR8.out⟩
     case measure=>
      show yl.length-lo yl (ct+1)<yl.length-lo yl (tc+1);rw[HLO.out,hko];omega
    ·rw[if_neg hfn]at HST;have HR:=lhd (show Q=((ct,f cv),0)from HST.out);have hbn:((f cv).toList==now.toList)=false:=zbo hfn;have y0:=HY8.out.1.cell (j:=0) rfl;have y1:=HY8.out.1.cell (j:=1) rfl;have zz0:=HY8.out.1.free (j:=0) (by simp);have zz1:=HY8.out.1.free (j:=1) (by simp);go_wp2_with fail;refine bodyPost_ret (v:=.tuple #[.agg #[.int .i64 ct,.string (f cv)],.int .i64 0]) (by simp[results,Tryz.results371,go_sem,y0,y1]) rfl ⟨by rw[HR.out],?_⟩;exact(HBR8.out.setCell (Nat.le_refl _) _).setCell (Nat.le_refl _) _
theorem znR {t:Tr} {jj:Nat} {y:Sg} (hy:t.G[jj]? =some y) {a b:Int} (h0:0≤a) (h1:a≤b) (h2:b≤t.en):znF t (jj:Int) a b=(winR y.1 y.2.1 y.2.2 a b,0):=by
 have hlt:jj<t.G.length:=(List.getElem?_eq_some_iff.1 hy).1;unfold znF;rw[if_pos ⟨zfJ.2 ⟨by omega,by omega,h0,h1⟩,h2⟩,show sgI t.G (jj:Int)=y by unfold sgI;rw[Int.toNat_natCast,List.getD,hy];rfl]
theorem zrc {k n a b:Int}:winR k n [] a b=[]:=by
 unfold winR;split
 ·rfl
 ·split
  ·rfl
  ·simp
theorem zra (k n:Int) (l:List Ch) (a b:Int):(winR k n l a b).length≤l.length:=by
 unfold winR;split
 ·simp
 ·split
  ·simp
  ·rw[List.length_drop,List.length_take];omega
theorem zrb {k n:Int} {l:List Ch} {a b:Int}:∀c∈winR k n l a b,c∈l:=by
 intro c hc;unfold winR at hc;split at hc
 ·cases hc
 ·split at hc
  ·cases hc
  ·exact List.mem_of_mem_take (List.mem_of_mem_drop hc)
def zaa (R:List Ch×Int) (w:World) (e:Ending) (W':World):Prop:=∃v,e=.returned (.tuple #[v,.int .i64 R.2])∧SlR W' v R.1.length (chs R.1)∧Below w.heap.size w W'
theorem zbf {w:World} {b:Nat} {T t:Tr} {q:TP} {L:List (Sg×Value)} {D:List Dv} {vl vd:Value} (h:AsM w b t q L D vl vd) (R:AsR T t L D) (hg:Glob w) (n fr tz:Int):
 Calls Tryz.prog 375 #[pB b,.int .i64 n,.int .i64 fr,.int .i64 tz] w (zaa (znF T n fr tz) w):=by
 obtain⟨Q,hQ⟩:∃Q,Q=znF T n fr tz:=⟨_,rfl⟩;rw[←hQ];obtain⟨al,cl,rfl,-,-⟩:=h.l.s.shape;obtain⟨ad,cd,rfl,-,-⟩:=h.d.shape;obtain⟨a1,k1,a2,k2,a3,k3,a4,k4,e,-⟩:=h.t.open;have HEN:=lhd (fun W (hW:Below w.heap.size w W)=>znG t q W (h.t.below hW));have HHS:=lhd (zbi (T:=T) h R.len n fr 0 tz);have x0:=h.x.cell (j:=0) rfl;have x2:=h.x.cell (j:=2) rfl;rw[e]at x0 HEN;rw[R.en]at HEN;have HX0:=lhd (fun W (hW:Below w.heap.size w W)=>(hW.cell (zcn x0)).trans x0);by_cases hh:hasS T n fr 0 tz=true
 rotate_left
 ·have hf:hasS T n fr 0 tz=false:=by simpa using hh
  have HR:=lhd (show Q=([],2)by rw[hQ];unfold znF;rw[if_neg (fun h=>hh h.1)]);rw[hf]at HHS;rw[HR.out];clear h R hg e hh HR hf hQ x2;go_enter Tryz.func375,Tryz.ntmps375;go_wp2_with fail;refine HHS.out.mono ?_;rintro e w2 ⟨rfl,hb2⟩;have HB2:=lhd hb2;clear hb2;go_wp2_with fail;go_ret2
  exact⟨_,rfl,SlR.nil _,HB2.out⟩
 rw[hh]at HHS;by_cases hbe:tz≤T.en
 rotate_left
 ·have HR:=lhd (show Q=([],2)by rw[hQ];unfold znF;rw[if_neg (fun h=>hbe h.2)]);rw[HR.out];have hbt:T.en<tz:=by omega
  clear h R hg e hh HR hQ x2 x0;go_enter Tryz.func375,Tryz.ntmps375;go_wp2_with fail;refine HHS.out.mono ?_;rintro e w2 ⟨rfl,hb2⟩;have HB2:=lhd hb2;have x0:=HX0.out w2 hb2;clear hb2;go_wp2_with fail;refine(HEN.out w2 HB2.out).mono ?_;rintro e w3 ⟨rfl,hb3⟩;have HB3:=lhd (zeG HB2.out hb3);clear hb3;go_wp2_with fail;go_ret2
  exact⟨_,rfl,SlR.nil _,HB3.out⟩
 have hbn:¬T.en<tz:=by omega
 obtain⟨g0,g1,g2,g3⟩:=zfJ.1 hh;obtain⟨j,rfl⟩:∃j:Nat,n=(j:Int):=⟨n.toNat,by omega⟩;have hj:j<L.length:=by rw[R.len];omega
 have hd:j<D.length:=by rw[R.dl];exact hj
 have hl8:L.length≤64:=by have:=R.len;have:=R.n;omega
 have hdl8:D.length≤64:=by rw[R.dl];exact hl8
 have hm64:=R.m;have he1:=R.e1;have HDS:=lhd (R.d j hj hd);have HSV:=lhd (R.svj hj);have HQ:=lhd (show Q=(winR L[j].1.1 L[j].1.2.1 L[j].1.2.2 fr tz,0)by rw[hQ];unfold znF;rw[if_pos ⟨hh,hbe⟩,R.at hj]);obtain⟨b3,o3,rfl,z0,-,-⟩:=zdZ h.d hd
 have HXC:=lhd (show ∀W,Below w.heap.size w W→W.cell? ⟨b,0,none⟩=some (.iface 148 (.agg (boxT t a1 a2 a3 a4 k1 k2 k3 k4)))∧W.cell? ⟨b,2,none⟩=some (.slice (some ⟨b3,o3,none⟩) D.length cd)∧W.cell? ⟨b3,o3+j*3,none⟩=some (.int .i64 D[j].1)from
  fun W hW=>⟨(hW.cell (zcn x0)).trans x0,(hW.cell (zcn x2)).trans x2,(hW.cell (zcn z0)).trans z0⟩)
 have HTH:=lhd (fun W (hW:Below w.heap.size w W)=>zbj (h.below hW) hj hl8);have HBF:=lhd (fun W (hW:Below w.heap.size w W)=>zbg (h.below hW) R (hg.below hW) hj (show 0≤fr by omega) (by omega));have HDR:=lhd (fun W (hW:Below w.heap.size w W) s hs=>zbh (h.below hW) (hg.below hW) hj hd hl8 hdl8 s hs);have HWN:=lhd (fun(n':Int) W (hW:Below w.heap.size w W)=>znN t q n' fr tz W (h.t.below hW) R.s (hg.below hW));have hten:=R.en;rw[e]at HWN;generalize L[j]=x at*;generalize D[j]=d at*;obtain⟨⟨xk,xn,xl⟩,xv⟩:=x;dsimp only at*;clear h R hg e hh hQ x0 x2 z0;go_enter Tryz.func375,Tryz.ntmps375;go_wp2_with fail;refine HHS.out.mono ?_;rintro e w2 ⟨rfl,hb2⟩;have HB2:=lhd hb2;have x0:=HX0.out w2 hb2;clear hb2;go_wp2_with fail;refine(HEN.out w2 HB2.out).mono ?_;rintro e w3 ⟨rfl,hb3⟩;have HB3:=lhd (zeG HB2.out hb3);clear hb3 x0;obtain⟨x0,x2,z0⟩:=HXC.out w3 HB3.out;rcases HDS.out with⟨hm,hl0⟩|⟨jj,y,hjj,hy,hysv,hcase⟩
 ·have HR:=lhd (show Q=([],0)by
   rw[HQ.out,show xl=[]from hl0,zrc])
  rw[hm]at z0;go_wp2_with fail;go_ret2
  rw[HR.out];exact⟨_,rfl,SlR.nil _,HB3.out⟩
 rw[hjj]at z0;have hlt:jj<t.G.length:=(List.getElem?_eq_some_iff.1 hy).1;have hjl:jj≤64:=by omega
 have bm:((jj:Int)== -1)=false:=by rw[beq_eq_false_iff_ne];omega
 rcases hcase with⟨h0,rfl⟩|⟨h0,hy0,hsl,hder⟩
 ·have HR:=lhd (show Q=znF t (jj:Int) fr tz by rw[HQ.out,znR hy (by omega) (by omega) (by omega)]);have HC:=lhd (fun W hW=>HWN.out (jj:Int) W hW);have bk:(xk !=0)=true:=by rw[bne_iff_ne];exact h0
  have HTH3:=lhd (HTH.out w3 HB3.out);rw[bk]at HTH3;clear HQ HSV HDS hy hysv HBF HDR HWN HTH;go_wp2_with fail;refine HTH3.out.mono ?_;rintro e w4 ⟨rfl,hb4⟩;have HB4:=lhd (zeG HB3.out hb4);clear hb4 x0 x2 z0;obtain⟨x0,x2,z0⟩:=HXC.out w4 HB4.out;rw[hjj]at z0;go_upto_region 6 with fail
  go_region_held3 (fun w'=>w'.cell? ⟨b,0,none⟩=some (.iface 148 (.agg (boxT t a1 a2 a3 a4 k1 k2 k3 k4)))∧w'.cell? ⟨b,2,none⟩=some (.slice (some ⟨b3,o3,none⟩) D.length cd)∧w'.cell? ⟨b3,o3+j*3,none⟩=some (.int .i64 (jj:Int)))
   (first|exact⟨x0,x2,z0⟩|exact⟨v0,v1,v2⟩|go_keep)
   (first
     |(go_at_call 368;(with_reducible refine(HC.out _ ?_).mono ?_);(exact zbz HB4.out _);rintro e w5 ⟨vr,RR,hrr,rfl,hvr,hb5⟩;have b5:Below w4.heap.size w4 w5:=zbL hb5;have v0:=(b5.cell (zcn x0)).trans x0;have v1:=(b5.cell (zcn x2)).trans x2;have v2:=(b5.cell (zcn z0)).trans z0;have HVR:=lhd hvr;have HRR:=lhd hrr;clear hb5 hvr hrr)
     |fail "no arm")
  go_wp2_with fail;go_ret2
  refine⟨vr,by rw[HR.out,HRR.out];rfl,by rw[HR.out,←HRR.out];exact HVR.out,zeG HB4.out b5⟩
 ·obtain⟨yk,yn,yl⟩:=y;obtain rfl:yk=0:=hy0;obtain rfl:xk=0:=h0;dsimp only at hder hsl;have HN:=lhd (hder.win (a:=fr) (b:=tz) (by omega) (by omega));have HV:=lhd (hder.val (fr-1));have hsy:sv 0 yn yl=true:=hysv;have HNV:=lhd (show znF t (jj:Int) fr tz=(winR 0 yn yl fr tz,0)from znR hy (by omega) (by omega) (by omega));have bk:((0:Int) !=0)=false:=rfl;have HTH3:=lhd (HTH.out w3 HB3.out);rw[bk]at HTH3;have hwl:(winR 0 yn yl fr tz).length≤4096:=Nat.le_trans (zra ..) (zoI.1 hsy).2.1;have HSZ:=lhd (show ∀c∈winR 0 yn yl fr tz,c.2.size≤maxLen from fun c hc=>by have:=zqZ (zoJ hsy c (zrb c hc)).2.2;unfold maxLen;omega);have HC:=lhd (fun W hW=>HWN.out (jj:Int) W hW);rw[HNV.out]at HC;rw[HV.out]at HBF;rw[HN.out]at HQ;generalize zll d 0 xn=f at HN HV HBF HDR hder HQ;generalize winR 0 yn yl fr tz=WL at HC HSZ hwl HQ;generalize f (val (vi 0 yn) yl (fr-1))=now at HQ HBF;clear HSV HDS hy hysv HTH hder hsy HN HV bk HNV HWN;go_wp2_with fail;refine HTH3.out.mono ?_;rintro e w4 ⟨rfl,hb4⟩;have HB4:=lhd (zeG HB3.out hb4);clear hb4 x0 x2 z0 HTH3;go_wp2_with fail;refine(HBF.out w4 HB4.out).mono ?_;rintro e w5 ⟨rfl,hb5⟩;have HB5:=lhd (zeG HB4.out hb5);clear hb5 HBF;obtain⟨x0,x2,z0⟩:=HXC.out w5 HB5.out;rw[hjj]at z0;go_upto_region 10 with fail
  go_region_held3 (fun w'=>w'.cell? ⟨b,0,none⟩=some (.iface 148 (.agg (boxT t a1 a2 a3 a4 k1 k2 k3 k4)))∧w'.cell? ⟨b,2,none⟩=some (.slice (some ⟨b3,o3,none⟩) D.length cd)∧w'.cell? ⟨b3,o3+j*3,none⟩=some (.int .i64 (jj:Int)))
   (first|exact⟨x0,x2,z0⟩|exact⟨v0,v1,v2⟩|go_keep)
   (first
     |(go_at_call 368;(with_reducible refine(HC.out _ ?_).mono ?_);(exact zbz HB5.out _);rintro e w6 ⟨vr,RR,rfl,rfl,hvr,hb6⟩;have b6:Below w5.heap.size w5 w6:=zbL hb6;have v0:=(b6.cell (zcn x0)).trans x0;have v1:=(b6.cell (zcn x2)).trans x2;have v2:=(b6.cell (zcn z0)).trans z0;have HVR:=lhd hvr;clear hb6 hvr)
     |fail "no arm")
  have HB6:=lhd (zeG HB5.out b6);obtain⟨va,vc,rfl,hvc,-⟩:=HVR.out.shape;clear v0 v1 v2 x0 x2 z0 b6;obtain⟨i0,hi,iz0,iz1,iz2⟩:=info_parts (P:=Tryz.prog) zcv;go_wp2_with fail;go_loopw [10,13,101] (fun n_ o_ i wr=>∃(k:Nat) (nw:ByteArray) (M:List Ch),k≤WL.length∧n_=.string nw∧i=.int .i64 k∧M.length≤k∧Q=(M++kp nw ((WL.drop k).map (mvC f)),0)∧wr.ownsRow w6.heap.size 53 2 o_ M.length (chs M)∧Below w6.heap.size w6 wr) (fun _ _ i _=>WL.length-(intOf i).toNat)
  case atStart=>exact⟨0,now,[],Nat.zero_le _,rfl,rfl,Nat.le_refl _,HQ.out,World.ownsRow_nil _ _ _ _,Below.refl _ _⟩
  case round=>
   obtain⟨k,nw,M,hk,rfl,rfl,hml,hq,ho,hb⟩:=hrel;obtain⟨ao,co,rfl,hco,hmo⟩:=(SlR.of_own ho).shape;have HO:=lhd ho;have HB:=lhd hb;have HQ:=lhd hq;have hszr:=hb.size;clear ho hb hq;by_cases hlk:k<WL.length
   ·obtain⟨bw,ow,rfl,d0,d1⟩:=(HVR.out.below HB.out).ch hlk
    have HST:=lhd (show Q=(M++(if f WL[k].2=nw then kp nw ((WL.drop (k+1)).map (mvC f))else mvC f WL[k]::kp (f WL[k].2) ((WL.drop (k+1)).map (mvC f))),0)by
     rw[HQ.out,List.drop_eq_getElem_cons hlk,List.map_cons,zhk];rfl)
    have HS1:=lhd (HSZ.out WL[k] (List.getElem_mem hlk));generalize WL[k]=c at d0 d1 HST HS1;obtain⟨ct,cv⟩:=c;dsimp only at d0 d1 HST HS1;have hal:=zbD wr #[.int .i64 ct,.string cv] 53;have HX:=lhd (Bx.new wr #[.int .i64 ct,.string cv] 53);have HBA:=lhd (HB.out.alloc HB.out.size (.cells #[.int .i64 ct,.string cv] 53));have HDJ:=lhd (HDR.out (wr.alloc (.cells #[.int .i64 ct,.string cv] 53)) (zeG HB6.out HBA.out) cv HS1.out);have hwk:=zix k (by omega);clear hal HQ;go_wp2_with fail;refine HDJ.out.mono ?_;rintro e w7 ⟨rfl,hb7⟩;have HB7:=lhd (zeG HBA.out hb7);have hc7:=(HX.out.step hb7).1;have c0:=hc7.cell (j:=0) rfl;have c1:=hc7.cell (j:=1) rfl;have hg7:wr.grownBy w7 none:=⟨(zeF hb7).os,(zeF hb7).tape,(zeF hb7).output,(zeF hb7).size,fun i hi _=>(zeF hb7).block i hi⟩
    have HO7:=lhd (HO.out.kept hg7 (by
     cases ao with
     |none=>exact .inl rfl
     |some b=>exact .inr (by simp[Value.ownBlock])))
    have hs7:=HB7.out.size;clear hb7 hg7 d0 d1 hc7 HDJ HX HBA;by_cases hfn:f cv=nw
    ·rw[if_pos hfn]at HST;have hbn:((f cv).toList==nw.toList)=true:=by rw[hfn];exact beq_self_eq_true _
     go_wp2_with fail;go_roundw;case rel=>exact⟨k+1,nw,M,hlk,rfl,by go_num,by omega,HST.out,HO7.out,HB7.out⟩
     case measure=>simp[intOf];omega
    ·rw[if_neg hfn]at HST;have hbn:((f cv).toList==nw.toList)=false:=zbo hfn;have HST2:=lhd (show Q=((M++ [(ct,f cv)])++kp (f cv) ((WL.drop (k+1)).map (mvC f)),0)by rw[HST.out,List.append_assoc];rfl);have HC8:=lhd (World.news_of_block (w:=w7.alloc (.cells #[.int .i64 ct,.string (f cv)] 53)) (cs:=#[.int .i64 ct,.string (f cv)]) (t:=53) (fr:=(0,0)) (by exact heap_alloc_new _ _));go_wp2_with (at_builtin;refine wpList_append_own _ rfl _ _ 43 rfl w6.heap.size 53 i0 (.agg #[.int .i64 0,.string ⟨#[]⟩]) 2 24 Tryz.underlying43 hi iz0 iz1 iz2 rfl (by decide) _ _ _ rfl (HO7.out.alloc _) ⟨w7.heap.size,0,none⟩ 1 1 [.int .i64 ct,.string (f cv)] rfl rfl HC8.out (by simp[Value.oneCell']) (by unfold maxLen;omega) (by omega) (by simp;omega) ?_)
     intro v8 w8 ho8 hg8 _;have HO8:=lhd ho8;have HB8:=lhd (Below.grown (HB7.out.alloc HB7.out.size (.cells #[.int .i64 ct,.string (f cv)] 53)) hg8 (by have:=HB7.out.size;simp;omega) (fun q hq=>(HO7.out.lt q hq).1));clear ho8 hg8;go_wp2_with fail;go_roundw;case rel=>exact⟨k+1,f cv,M++ [(ct,f cv)],hlk,rfl,by go_num,by simp;omega,HST2.out,by rw[zcG];simpa[chs,encC] using HO8.out,HB8.out⟩
     case measure=>simp[intOf];omega
   ·obtain rfl:k=WL.length:=by omega
    have HR:=lhd (show Q=(M,0)by rw[HQ.out,List.drop_length];simp[kp]);go_wp2_with fail;go_ret2
    rw[HR.out];exact⟨_,rfl,SlR.of_own HO.out,zeG HB6.out HB.out⟩
end Go.Proofs.YtbiadennhnokhaaGreatDoor
