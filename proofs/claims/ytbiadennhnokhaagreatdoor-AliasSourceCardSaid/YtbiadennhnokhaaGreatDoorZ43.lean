import Derived.Test.YtbiadennhnokhaaGreatDoorZ00
import Derived.Test.YtbiadennhnokhaaGreatDoorZ42
set_option maxRecDepth 100000
set_option maxHeartbeats 16000000
namespace Go.Proofs.YtbiadennhnokhaaGreatDoor
open Go.RowKit
set_option linter.unusedSimpArgs false
theorem zbg {w:World} {b:Nat} {T t:Tr} {q:TP} {L:List (Sg×Value)} {D:List Dv} {vl vd:Value} (h:AsM w b t q L D vl vd) (R:AsR T t L D) (hg:Glob w) {j:Nat} (hj:j<L.length) {tm:Int} (h0:0≤tm) (h1:tm≤T.en+1):
 Calls Tryz.prog 378 #[pB b,.int .i64 (j:Int),.int .i64 tm] w fun e W'=>e=.returned (.tuple #[.string (val (vi L[j].1.1 L[j].1.2.1) L[j].1.2.2 (tm-1)),.int .i64 0])∧Below w.heap.size w W':=by
 have hd:j<D.length:=by rw[R.dl];exact hj
 have hl8:L.length≤64:=by have:=R.len;have:=R.n;omega
 have hdl8:D.length≤64:=by rw[R.dl];exact hl8
 have hsv:=R.svj hj;have hdsp:=R.d j hj hd;have hen:=R.e1;have hte:=R.en;have hm64:=R.m;obtain⟨al,cl,rfl,-,-⟩:=h.l.s.shape;obtain⟨ad,cd,rfl,-,-⟩:=h.d.shape;obtain⟨a1,k1,a2,k2,a3,k3,a4,k4,e,-⟩:=h.t.open;have x0:=h.x.cell (j:=0) rfl;have x1:=h.x.cell (j:=1) rfl;have x2:=h.x.cell (j:=2) rfl;obtain⟨bb,o,rfl,d0,d1,-,-⟩:=h.l.at hj;obtain⟨b3,o3,rfl,z0,-,-⟩:=zdZ h.d hd;have HDR:=lhd (fun W (hW:Below w.heap.size w W) s hs=>zbh (h.below hW) (hg.below hW) hj hd hl8 hdl8 s hs);have HVL:=lhd (fun(n tm:Int) W (hW:Below w.heap.size w W)=>znM t q n tm W (h.t.below hW) R.s (hg.below hW));rw[e]at x0 HVL;generalize L[j]=x at*;generalize D[j]=d at*;obtain⟨⟨xk,xn,xl⟩,xv⟩:=x;dsimp only at*;have hss:sv xk xn xl=true:=hsv;obtain⟨r,hr⟩:∃r,r=val (vi xk xn) xl (tm-1):=⟨_,rfl⟩;rw[←hr];have HR:=lhd hr;have HDS:=lhd hdsp;have HSV:=lhd hss;have HE:=lhd (And.intro hen hte);clear h R hg hr hdsp hss hsv hen hte e;by_cases ht0:tm=0
 ·subst ht0;have HRV:=lhd (show r=vi xk xn by rw[HR.out,zp6 (zoK HSV.out) (by omega)]);rw[HRV.out];clear HR HDR HVL z0 x0;go_enter Tryz.func378,Tryz.ntmps378;go_upto_region 2 with fail
  go_region_held3 (fun w'=>w'.cell? ⟨b,1,none⟩=some (.slice (some ⟨bb,o,none⟩) L.length cl)∧w'.cell? ⟨bb,o+j*3,none⟩=some (.int .i64 xk)∧w'.cell? ⟨bb,o+j*3+1,none⟩=some (.int .i64 xn))
   (first|exact⟨x1,d0,d1⟩|exact⟨(b5.cell (zcn x1)).trans x1,(b5.cell (zcn d0)).trans d0,(b5.cell (zcn d1)).trans d1⟩|go_keep)
   (first
     |(go_at_call 109;(with_reducible refine(zpT _ _ _).mono ?_);rintro e w5 ⟨rfl,hb5⟩;have b5:Below w.heap.size w w5:=zbL hb5;clear hb5)
     |fail "no arm")
  go_wp2_with fail;go_ret2
  exact⟨rfl,b5⟩
 have bt0:(tm==0)=false:=by simpa using ht0
 rcases HDS.out with⟨hm,hl0⟩|⟨jj,y,hjj,hy,hysv,hcase⟩
 ·have HRV:=lhd (show r=vi xk xn by rw[HR.out,show xl=[]from hl0];rfl);rw[HRV.out];rw[hm]at z0;clear HR HDR HVL x0 hm hl0;go_enter Tryz.func378,Tryz.ntmps378;go_upto_region 2 with fail
  go_region_held3 (fun w'=>w'.cell? ⟨b,1,none⟩=some (.slice (some ⟨bb,o,none⟩) L.length cl)∧w'.cell? ⟨bb,o+j*3,none⟩=some (.int .i64 xk)∧w'.cell? ⟨bb,o+j*3+1,none⟩=some (.int .i64 xn))
   (first|exact⟨x1,d0,d1⟩|exact⟨(b5.cell (zcn x1)).trans x1,(b5.cell (zcn d0)).trans d0,(b5.cell (zcn d1)).trans d1⟩|go_keep)
   (first
     |(go_at_call 109;(with_reducible refine(zpT _ _ _).mono ?_);rintro e w5 ⟨rfl,hb5⟩;have b5:Below w.heap.size w w5:=zbL hb5;clear hb5)
     |fail "no arm")
  go_wp2_with fail;go_ret2
  exact⟨rfl,b5⟩
 ·have hlt:jj<t.G.length:=(List.getElem?_eq_some_iff.1 hy).1;have hjl:jj≤64:=by omega
  have hwt:IntKind.i64.wrap (tm-1)=tm-1:=IntWalk.i64_in _ (by have:=HE.out.1;omega)
  have hva:znE t (jj:Int) (tm-1)=(val (vi y.1 y.2.1) y.2.2 (tm-1),0):=by
   unfold znE;rw[if_pos (zfJ.2 ⟨by omega,by omega,by omega,by have:=HE.out.2;omega⟩),show sgI t.G (jj:Int)=y by unfold sgI;rw[Int.toNat_natCast,List.getD,hy];rfl,zbk (zoE hysv) (by omega) (by have:=HE.out.1;omega)]
  have HC:=lhd (HVL.out (jj:Int) (tm-1));rw[hva]at HC;have HRV:=lhd ((zdY hjj (show svS (xk,xn,xl)=true from HSV.out) hcase (tm-1)).trans HR.out.symm);have hsz:(val (vi y.1 y.2.1) y.2.2 (tm-1)).size≤maxLen:=by have:=zqZ (zqr (zoE hysv) (tm-1));unfold maxLen;omega
  have HSZ:=lhd hsz;dsimp only at HRV;rw[hjj]at z0;have bm:((jj:Int)== -1)=false:=by rw[beq_eq_false_iff_ne];omega
  generalize val (vi y.1 y.2.1) y.2.2 (tm-1)=yv at HC HRV HSZ;clear HR HVL hva hcase hjj hy hysv hsz HDS;go_enter Tryz.func378,Tryz.ntmps378;go_upto_region 3 with fail
  go_region_held3 (fun w'=>w'.cell? ⟨b,0,none⟩=some (.iface 148 (.agg (boxT t a1 a2 a3 a4 k1 k2 k3 k4)))∧w'.cell? ⟨b,2,none⟩=some (.slice (some ⟨b3,o3,none⟩) D.length cd)∧w'.cell? ⟨b3,o3+j*3,none⟩=some (.int .i64 (jj:Int)))
   (first|exact⟨x0,x2,z0⟩|exact⟨(b5.cell (zcn x0)).trans x0,(b5.cell (zcn x2)).trans x2,(b5.cell (zcn z0)).trans z0⟩|go_keep)
   (first
     |(go_at_call 367;(with_reducible refine(HC.out _ ?_).mono ?_);(exact zbz (Below.refl _ _) _);rintro e w5 ⟨rfl,hb5⟩;have b5:Below w.heap.size w w5:=zbL hb5;clear hb5)
     |fail "no arm")
  have HB1:=lhd b5;have HDW:=lhd (HDR.out w5 b5 yv HSZ.out);rw[HRV.out]at HDW;clear b5;go_wp2_with fail;refine HDW.out.mono ?_;rintro e w2 ⟨rfl,hb2⟩;have HB2:=lhd (zeG HB1.out hb2);clear hb2;go_wp2_with fail;go_ret2
  exact⟨rfl,HB2.out⟩
theorem zbe {w:World} {b:Nat} {T t:Tr} {q:TP} {L:List (Sg×Value)} {D:List Dv} {vl vd:Value} (h:AsM w b t q L D vl vd) (R:AsR T t L D) (hg:Glob w) (n tm:Int):
 Calls Tryz.prog 374 #[pB b,.int .i64 n,.int .i64 tm] w fun e W'=>e=.returned (.tuple #[.string (znE T n tm).1,.int .i64 (znE T n tm).2])∧Below w.heap.size w W':=by
 have HEN:=lhd (znG t q w h.t);have HHS:=lhd (fun W (hW:Below w.heap.size w W)=>zbi (T:=T) (h.below hW) R.len n tm 0 T.en);obtain⟨a1,k1,a2,k2,a3,k3,a4,k4,e,-⟩:=h.t.open;have x0:=h.x.cell (j:=0) rfl;rw[e]at x0 HEN;rw[R.en]at HEN;by_cases hh:hasS T n tm 0 T.en=true
 ·obtain⟨h0,h1,h2,h3⟩:=zfJ.1 hh;obtain⟨j,rfl⟩:∃j:Nat,n=(j:Int):=⟨n.toNat,by omega⟩;have hj:j<L.length:=by rw[R.len];omega
  have he1:=R.e1;have HBF:=lhd (fun W (hW:Below w.heap.size w W)=>zbg (h.below hW) R (hg.below hW) hj (show 0≤tm+1 by omega) (by omega))
  have HR:=lhd (show znE T (j:Int) tm=(val (vi L[j].1.1 L[j].1.2.1) L[j].1.2.2 (tm+1-1),0)by
   unfold znE;rw[if_pos hh,R.at hj,zbk (zoE (R.svj hj)) h2 (by omega),show tm+1-1=tm by omega])
  rw[HR.out];rw[hh]at HHS;have hwt:IntKind.i64.wrap (tm+1)=tm+1:=IntWalk.i64_in _ (by omega);generalize val (vi L[j].1.1 L[j].1.2.1) L[j].1.2.2 (tm+1-1)=r at HBF⊢;clear h R hg e hh HR h0 h1;go_enter Tryz.func374,Tryz.ntmps374;go_wp2_with fail;refine HEN.out.mono ?_;rintro e w1 ⟨rfl,hb1⟩;have HB1:=lhd hb1;clear hb1;go_wp2_with fail;refine(HHS.out w1 HB1.out).mono ?_;rintro e w2 ⟨rfl,hb2⟩;have HB2:=lhd (zeG HB1.out hb2);clear hb2;go_wp2_with fail;refine(HBF.out w2 HB2.out).mono ?_;rintro e w3 ⟨rfl,hb3⟩;have HB3:=lhd (zeG HB2.out hb3);clear hb3;go_wp2_with fail;go_ret2
  exact⟨rfl,HB3.out⟩
 ·have hf:hasS T n tm 0 T.en=false:=by simpa using hh
  have HR:=lhd (show znE T n tm=(⟨#[]⟩,2)by unfold znE;rw[if_neg hh]);rw[HR.out];rw[hf]at HHS;clear h R hg e hh HR hf;go_enter Tryz.func374,Tryz.ntmps374;go_wp2_with fail;refine HEN.out.mono ?_;rintro e w1 ⟨rfl,hb1⟩;have HB1:=lhd hb1;clear hb1;go_wp2_with fail;refine(HHS.out w1 HB1.out).mono ?_;rintro e w2 ⟨rfl,hb2⟩;have HB2:=lhd (zeG HB1.out hb2);clear hb2;go_wp2_with fail;go_ret2
  exact⟨rfl,HB2.out⟩
end Go.Proofs.YtbiadennhnokhaaGreatDoor
