import Derived.Test.YtbiadennhnokhaaGreatDoorZ00
import Derived.Test.YtbiadennhnokhaaGreatDoorZ20
import Derived.Test.YtbiadennhnokhaaGreatDoorZ24
import Derived.Test.YtbiadennhnokhaaGreatDoorZ39
set_option maxRecDepth 100000
set_option maxHeartbeats 16000000
namespace Go.Proofs.YtbiadennhnokhaaGreatDoor
open Go.RowKit
set_option linter.unusedSimpArgs false
theorem zgc (l m:List Int):ints (l++m)=ints l++ints m:=by simp[ints]
theorem zlo (t u:Tr) (p q:TP) (w:World) (ht:TrM w t p) (hu:TrM w u q) (hl:t.G.length≤1000∧t.P.length≤1000):
 Calls Tryz.prog 20 #[p.v t,q.v u] w fun e w'=>e=.returned (.bool (eqT t u))∧Below w.heap.size w w':=by
 obtain⟨R,hR⟩:∃R,R=eqT t u:=⟨_,rfl⟩;rw[←hR];have HN:=lhd (fun(h:¬t=u)=>show R=false by rw[hR,←Bool.not_eq_true,zdY];exact h);have HY:=lhd (fun(h:t=u)=>show R=true by rw[hR,zdY];exact h);clear hR;obtain⟨a1,k1,a2,k2,a3,k3,a4,k4,e,r1,r2,r3,r4,-⟩:=ht.open;obtain⟨b1,l1,b2,l2,b3,l3,b4,l4,e',s1,s2,s3,s4,-⟩:=hu.open;have HML:=lhd ht.len;have HMG:=lhd ht.m;have HNL:=lhd hu.len;have HNG:=lhd hu.m;have HSC:=lhd (fun W (hW:Below w.heap.size w W)=>zlx _ _ _ _ t.S u.S t.V u.V W (show SlR W (.slice a1 t.S.length k1) t.S.length (scs t.S)by rw[←r1];exact ht.s.below hW) (show SlR W (.slice b1 u.S.length l1) u.S.length (scs u.S)by rw[←s1];exact hu.s.below hW) (show SlR W (.slice a2 t.V.length k2) t.V.length (vrs t.V)by rw[←r2];exact ht.v.below hW) (show SlR W (.slice b2 u.V.length l2) u.V.length (vrs u.V)by rw[←s2];exact hu.v.below hW));have HSG:=lhd (fun W (hW:Below w.heap.size w W)=>(show Sigs W (.slice a3 p.M.length k3) p.M by rw[←r3];exact ht.g.below hW));have HSH:=lhd (fun W (hW:Below w.heap.size w W)=>(show Sigs W (.slice b3 q.M.length l3) q.M by rw[←s3];exact hu.g.below hW));have HGP:=lhd (fun W (hW:Below w.heap.size w W)=>(show SlR W (.slice a4 t.P.length k4) t.P.length (gps t.P)by rw[←r4];exact ht.q.below hW));have HGQ:=lhd (fun W (hW:Below w.heap.size w W)=>(show SlR W (.slice b4 u.P.length l4) u.P.length (gps u.P)by rw[←s4];exact hu.q.below hW));have hx1:=Bx.new w (boxT t a1 a2 a3 a4 k1 k2 k3 k4) 27;have hb1:=za9 w (boxT t a1 a2 a3 a4 k1 k2 k3 k4) 27;have hsz:(w.alloc (.cells (boxT t a1 a2 a3 a4 k1 k2 k3 k4) 27)).heap.size=w.heap.size+1:=by simp
 rw[e,e'];clear ht hu e e' r1 r2 r3 r4 s1 s2 s3 s4;have HX1:=lhd hx1;have HB1:=lhd hb1;have HSZ:=lhd hsz;clear hx1 hb1 hsz;go_enter Tryz.func20,Tryz.ntmps20;go_upto_region 1 with fail;generalize w.alloc (.cells (boxT t a1 a2 a3 a4 k1 k2 k3 k4) 27)=w1 at*;have hx2:=Bx.new w1 (boxT u b1 b2 b3 b4 l1 l2 l3 l4) 27;have hb2:=za9 w1 (boxT u b1 b2 b3 b4 l1 l2 l3 l4) 27;rw[HSZ.out]at hx2;generalize w1.alloc (.cells (boxT u b1 b2 b3 b4 l1 l2 l3 l4) 27)=w2 at*;have HB2:=lhd (zem HB1.out hb2);have hxa:=HX1.out.step hb2;have HXA:=lhd (fun W (hW:Below w2.heap.size w2 W)=>hxa.step hW);have HXB:=lhd (fun W (hW:Below w2.heap.size w2 W)=>hx2.step hW);clear hx2 hb2 hxa HX1 HB1 HSZ;obtain⟨p0,p1,p2,p3,p4,p5,p6,p7,p8⟩:=(HXA.out _ (Below.refl _ _)).nine;obtain⟨q0,q1,q2,q3,q4,q5,q6,q7,q8⟩:=(HXB.out _ (Below.refl _ _)).nine;by_cases e0:t.sc=u.sc
 rotate_left
 ·have HR:=lhd (HN.out fun h=>e0 (by rw[h]));have hb:(t.sc==u.sc)=false:=by rw[beq_eq_false_iff_ne];exact e0
  have hb9:(t.sc !=u.sc)=true:=by rw[bne_iff_ne];exact e0
  clear e0;go_wp2_with fail;go_ret;exact⟨zli HR.out.symm,(HB2).out⟩
 rw[←e0]at q0;by_cases e1:t.dt=u.dt
 rotate_left
 ·have HR:=lhd (HN.out fun h=>e1 (by rw[h]));have hss:=za1 (zbv e1);clear e0 e1;go_wp2_with fail;go_ret;exact⟨zli HR.out.symm,(HB2).out⟩
 rw[←e1]at q1;by_cases e2:t.vn=u.vn
 rotate_left
 ·have HR:=lhd (HN.out fun h=>e2 (by rw[h]));have hss:=za1 (zbv e2);clear e0 e1 e2;go_wp2_with fail;go_ret;exact⟨zli HR.out.symm,(HB2).out⟩
 rw[←e2]at q2;by_cases e3:t.cm=u.cm
 rotate_left
 ·have HR:=lhd (HN.out fun h=>e3 (by rw[h]));have hss:=za1 (zbv e3);clear e0 e1 e2 e3;go_wp2_with fail;go_ret;exact⟨zli HR.out.symm,(HB2).out⟩
 rw[←e3]at q3;by_cases e8:t.en=u.en
 rotate_left
 ·have HR:=lhd (HN.out fun h=>e8 (by rw[h]));have hb:(t.en==u.en)=false:=by rw[beq_eq_false_iff_ne];exact e8
  have hb9:(t.en !=u.en)=true:=by rw[bne_iff_ne];exact e8
  clear e0 e1 e2 e3 e8;go_wp2_with fail;go_ret;exact⟨zli HR.out.symm,(HB2).out⟩
 rw[←e8]at q8;have hsm:=HSC.out w2 HB2.out;cases hsv:(decide (t.S=u.S)&&decide (t.V=u.V))
 ·have HR:=lhd (HN.out fun h=>by rw[h]at hsv;simp at hsv);rw[hsv]at hsm;have HSM:=lhd hsm;clear e0 e1 e2 e3 e8 hsm hsv;go_wp2_with fail;refine HSM.out.mono ?_;rintro e w3 ⟨rfl,hb⟩;have HB3:=lhd (zem HB2.out hb);clear hb;clear p0 p1 p2 p3 p4 p5 p6 p7 p8 q0 q1 q2 q3 q4 q5 q6 q7 q8;go_wp2_with fail;go_ret;exact⟨zli HR.out.symm,(HB3).out⟩
 rw[Bool.and_eq_true,decide_eq_true_iff,decide_eq_true_iff]at hsv;rw[show(decide (t.S=u.S)&&decide (t.V=u.V))=true by rw[decide_eq_true hsv.1,decide_eq_true hsv.2];rfl]at hsm;have HSM:=lhd hsm;have HEQ:=lhd (And.intro e0 (And.intro e1 (And.intro e2 (And.intro e3 (And.intro e8 hsv)))));clear e0 e1 e2 e3 e8 hsm hsv HSC;by_cases e6:t.G.length=u.G.length
 rotate_left
 ·have HR:=lhd (HN.out fun h=>e6 (by rw[h]));have hb9:((t.G.length:Int) !=(u.G.length:Int))=true:=by rw[bne_iff_ne];omega
  have hb8:((t.G.length:Int)==(u.G.length:Int))=false:=by rw[beq_eq_false_iff_ne];omega
  clear e6;go_wp2_with fail;refine HSM.out.mono ?_;rintro e w3 ⟨rfl,hb⟩;have HB3:=lhd (zem HB2.out hb);clear p0 p1 p2 p3 p4 p5 p6 p7 p8 q0 q1 q2 q3 q4 q5 q6 q7 q8;obtain⟨p0,p1,p2,p3,p4,p5,p6,p7,p8⟩:=(HXA.out _ hb).nine;obtain⟨q0,q1,q2,q3,q4,q5,q6,q7,q8⟩:=(HXB.out _ hb).nine;clear hb;go_wp2_with fail;go_ret;exact⟨zli HR.out.symm,(HB3).out⟩
 by_cases e7:t.P.length=u.P.length
 rotate_left
 ·have HR:=lhd (HN.out fun h=>e7 (by rw[h]));have hb9:((t.P.length:Int) !=(u.P.length:Int))=true:=by rw[bne_iff_ne];omega
  have hb8:((t.P.length:Int)==(u.P.length:Int))=false:=by rw[beq_eq_false_iff_ne];omega
  go_wp2_with fail;refine HSM.out.mono ?_;rintro e w3 ⟨rfl,hb⟩;have HB3:=lhd (zem HB2.out hb);clear p0 p1 p2 p3 p4 p5 p6 p7 p8 q0 q1 q2 q3 q4 q5 q6 q7 q8;obtain⟨p0,p1,p2,p3,p4,p5,p6,p7,p8⟩:=(HXA.out _ hb).nine;obtain⟨q0,q1,q2,q3,q4,q5,q6,q7,q8⟩:=(HXB.out _ hb).nine;clear hb e7;rw[←e6]at q6;clear e6;go_wp2_with fail;go_ret;exact⟨zli HR.out.symm,(HB3).out⟩
 go_wp2_with fail;refine HSM.out.mono ?_;rintro e w3 ⟨rfl,hb⟩;have HB3:=lhd hb;clear p0 p1 p2 p3 p4 p5 p6 p7 p8 q0 q1 q2 q3 q4 q5 q6 q7 q8;obtain⟨p0,p1,p2,p3,p4,p5,p6,p7,p8⟩:=(HXA.out _ hb).nine;obtain⟨q0,q1,q2,q3,q4,q5,q6,q7,q8⟩:=(HXB.out _ hb).nine;clear hb HSM;have HE6:=lhd e6;have HE7:=lhd e7;rw[←e6]at q6;rw[←e7]at q7;clear e6 e7;go_wp2_with fail;clear p0 p1 p2 p3 p4 p5 p6 p7 p8 q0 q1 q2 q3 q4 q5 q6 q7 q8;go_loopw [5] (fun i wr=>∃k:Nat,k≤t.G.length∧i=.int .i64 k∧t.G.take k=u.G.take k∧Below w2.heap.size w2 wr) (fun i _=>t.G.length-(intOf i).toNat)
 case atStart=>exact⟨0,Nat.zero_le _,rfl,rfl,HB3.out⟩
 case round=>
  clear HB3;obtain⟨k,hk,rfl,hgo,hb⟩:=hrel;have HGO:=lhd hgo;have HBr:=lhd hb;have HBw:=lhd (zem HB2.out hb);obtain⟨p0,p1,p2,p3,p4,p5,p6,p7,p8⟩:=(HXA.out _ hb).nine;obtain⟨q0,q1,q2,q3,q4,q5,q6,q7,q8⟩:=(HXB.out _ hb).nine;rw[←HE6.out]at q6;clear hgo hb;by_cases hlt:k<t.G.length
  ·have hlt2:k<u.G.length:=by rw[←HE6.out];exact hlt
   have hwk:=zhO k (by omega);have hki:(k:Int)<(t.G.length:Int):=by omega
   have hmm:k<p.M.length:=by rw[HML.out];exact hlt
   have hnn:k<q.M.length:=by rw[HNL.out];exact hlt2
   obtain⟨b,o,rfl,x0,x1,x2,hsx⟩:=(HSG.out wr HBw.out).at hmm;obtain⟨b',o',rfl,y0,y1,y2,hsy⟩:=(HSH.out wr HBw.out).at hnn;obtain⟨xa,xc,hxa,-,-⟩:=hsx.shape;obtain⟨ya,yc,hya,-,-⟩:=hsy.shape;rw[hxa]at x2 hsx;rw[hya]at y2 hsy
   have hg1:t.G[k]=p.M[k].1:=by
    have h1:(p.M.map Prod.fst)[k]? =t.G[k]? :=by rw[HMG.out]
    rw[List.getElem?_map,List.getElem?_eq_getElem hmm,List.getElem?_eq_getElem hlt]at h1;exact(Option.some.inj h1).symm
   have hg2:u.G[k]=q.M[k].1:=by
    have h1:(q.M.map Prod.fst)[k]? =u.G[k]? :=by rw[HNG.out]
    rw[List.getElem?_map,List.getElem?_eq_getElem hnn,List.getElem?_eq_getElem hlt2]at h1;exact(Option.some.inj h1).symm
   have HQT:=lhd (fun W (hW:Below wr.heap.size wr W)=>(by
    have h:=zkR p.M[k].1.1 p.M[k].1.2.1 q.M[k].1.1 q.M[k].1.2.1 _ _ p.M[k].1.2.2 q.M[k].1.2.2 W (hsx.below hW) (hsy.below hW);rw[zl7]at h;exact h))
   have HBAD:=lhd (fun(h:¬t.G[k]=u.G[k])=>HN.out fun h9=>h (by subst h9;rfl));have HGOO:=lhd (fun(h:t.G[k]=u.G[k])=>(show t.G.take (k+1)=u.G.take (k+1)by rw[List.take_succ_eq_append_getElem hlt,List.take_succ_eq_append_getElem hlt2,HGO.out,h]));rw[hg1,hg2]at HBAD HGOO;clear hsx hsy hxa hya hg1 hg2 HGO;generalize p.M[k].1=sx at*;generalize q.M[k].1=sy at*;cases hd:decide (sx=sy)
   ·have HR:=lhd (HBAD.out (of_decide_eq_false hd));rw[hd]at HQT;obtain⟨xk,xn,xl⟩:=sx;obtain⟨yk,yn,yl⟩:=sy;dsimp only at x0 x1 x2 y0 y1 y2 HQT;have SF:=lhd (fun W (hW:Below wr.heap.size wr W)=>And.intro ((hW.cell (zbT p6)).trans p6) (And.intro ((hW.cell (zbT q6)).trans q6) (And.intro ((hW.cell (zbT x0)).trans x0) (And.intro ((hW.cell (zbT x1)).trans x1) (And.intro ((hW.cell (zbT x2)).trans x2) (And.intro ((hW.cell (zbT y0)).trans y0) (And.intro ((hW.cell (zbT y1)).trans y1) ((hW.cell (zbT y2)).trans y2))))))));clear HBAD HGOO hd;go_wp2_with fail;have hbq:Below wr.heap.size wr wr.drew:=(Below.refl _ _).drew;refine wp_region_held_drew (S:=(fun w'=>w'.cell? ⟨w.heap.size,6,none⟩=some (.slice (some ⟨b,o,none⟩) t.G.length k3)∧w'.cell? ⟨w.heap.size+1,6,none⟩=some (.slice (some ⟨b',o',none⟩) t.G.length l3)∧w'.cell? ⟨b,o+k*3,none⟩=some (.int .i64 xk)∧w'.cell? ⟨b,o+k*3+1,none⟩=some (.int .i64 xn)∧w'.cell? ⟨b,o+k*3+2,none⟩=some (.slice xa xl.length xc)∧w'.cell? ⟨b',o'+k*3,none⟩=some (.int .i64 yk)∧w'.cell? ⟨b',o'+k*3+1,none⟩=some (.int .i64 yn)∧w'.cell? ⟨b',o'+k*3+2,none⟩=some (.slice ya yl.length yc))) (by kernel_rfl) (SF.out _ hbq) (fun hHeld=>?_);clear x0 x1 x2 y0 y1 y2;clear p0 p1 p2 p3 p4 p5 p6 p7 p8 q0 q1 q2 q3 q4 q5 q6 q7 q8;generalize wr.drew=w6 at*;refine tkH 0 hHeld (v:=?_) ?_ ?_;rotate_left
    ·intro w h;(try dsimp only at h);go_simp;all_goals with_reducible rfl
    simp only[tkS];refine tkH 1 hHeld (v:=?_) ?_ ?_;rotate_left
    ·intro w h;(try dsimp only at h);go_simp;all_goals with_reducible rfl
    simp only[tkS];refine tkH 2 hHeld (v:=?_) ?_ ?_;rotate_left
    ·intro w h;(try dsimp only at h);go_simp;all_goals with_reducible rfl
    simp only[tkS];refine tkH 3 hHeld (v:=?_) ?_ ?_;rotate_left
    ·intro w h;(try dsimp only at h);go_simp;all_goals with_reducible rfl
    simp only[tkS];refine tkH 4 hHeld (v:=?_) ?_ ?_;rotate_left
    ·intro w h;(try dsimp only at h);go_simp;all_goals with_reducible rfl
    simp only[tkS];refine tkH 5 hHeld (v:=?_) ?_ ?_;rotate_left
    ·intro w h;(try dsimp only at h);go_simp;all_goals with_reducible rfl
    simp only[tkS];refine tkH 6 hHeld (v:=?_) ?_ ?_;rotate_left
    ·intro w h;(try dsimp only at h);go_simp;all_goals with_reducible rfl
    simp only[tkS];refine tkH 7 hHeld (v:=?_) ?_ ?_;rotate_left
    ·intro w h;(try dsimp only at h);go_simp;all_goals with_reducible rfl
    simp only[tkS];refine tkH 8 hHeld (v:=?_) ?_ ?_;rotate_left
    ·intro w h;(try dsimp only at h);go_simp;all_goals with_reducible rfl
    simp only[tkS];refine tkH 9 hHeld (v:=?_) ?_ ?_;rotate_left
    ·intro w h;(try dsimp only at h);go_simp;all_goals with_reducible rfl
    simp only[tkS];refine oneH 10 (fun K hK=>?_);go_simp;refine(HQT.out _ hbq).mono ?_;rintro e w7 ⟨rfl,hb9⟩;have hbq:=zem hbq hb9;clear hHeld hb9;go_wp2_with fail;refine hK.out _ _ (SF.out _ hbq) (fun hHeld=>?_);clear hK;try simp only[tkS]
    refine tkH 11 hHeld (v:=?_) ?_ ?_;rotate_left
    ·intro w h;(try dsimp only at h);go_simp;all_goals with_reducible rfl
    simp only[tkS];refine wpAnyH_done (by kernel_rfl) ?_ _;clear hHeld;have HB9:=lhd (zem HBw.out hbq);go_wp2_with fail;go_ret;exact⟨zli HR.out.symm,(HB9).out⟩
   ·have HNX:=lhd (HGOO.out (of_decide_eq_true hd));rw[hd]at HQT;obtain⟨xk,xn,xl⟩:=sx;obtain⟨yk,yn,yl⟩:=sy;dsimp only at x0 x1 x2 y0 y1 y2 HQT;have SF:=lhd (fun W (hW:Below wr.heap.size wr W)=>And.intro ((hW.cell (zbT p6)).trans p6) (And.intro ((hW.cell (zbT q6)).trans q6) (And.intro ((hW.cell (zbT x0)).trans x0) (And.intro ((hW.cell (zbT x1)).trans x1) (And.intro ((hW.cell (zbT x2)).trans x2) (And.intro ((hW.cell (zbT y0)).trans y0) (And.intro ((hW.cell (zbT y1)).trans y1) ((hW.cell (zbT y2)).trans y2))))))));clear HBAD HGOO hd;go_wp2_with fail;have hbq:Below wr.heap.size wr wr.drew:=(Below.refl _ _).drew;refine wp_region_held_drew (S:=(fun w'=>w'.cell? ⟨w.heap.size,6,none⟩=some (.slice (some ⟨b,o,none⟩) t.G.length k3)∧w'.cell? ⟨w.heap.size+1,6,none⟩=some (.slice (some ⟨b',o',none⟩) t.G.length l3)∧w'.cell? ⟨b,o+k*3,none⟩=some (.int .i64 xk)∧w'.cell? ⟨b,o+k*3+1,none⟩=some (.int .i64 xn)∧w'.cell? ⟨b,o+k*3+2,none⟩=some (.slice xa xl.length xc)∧w'.cell? ⟨b',o'+k*3,none⟩=some (.int .i64 yk)∧w'.cell? ⟨b',o'+k*3+1,none⟩=some (.int .i64 yn)∧w'.cell? ⟨b',o'+k*3+2,none⟩=some (.slice ya yl.length yc))) (by kernel_rfl) (SF.out _ hbq) (fun hHeld=>?_);clear x0 x1 x2 y0 y1 y2;clear p0 p1 p2 p3 p4 p5 p6 p7 p8 q0 q1 q2 q3 q4 q5 q6 q7 q8;generalize wr.drew=w6 at*;refine tkH 0 hHeld (v:=?_) ?_ ?_;rotate_left
    ·intro w h;(try dsimp only at h);go_simp;all_goals with_reducible rfl
    simp only[tkS];refine tkH 1 hHeld (v:=?_) ?_ ?_;rotate_left
    ·intro w h;(try dsimp only at h);go_simp;all_goals with_reducible rfl
    simp only[tkS];refine tkH 2 hHeld (v:=?_) ?_ ?_;rotate_left
    ·intro w h;(try dsimp only at h);go_simp;all_goals with_reducible rfl
    simp only[tkS];refine tkH 3 hHeld (v:=?_) ?_ ?_;rotate_left
    ·intro w h;(try dsimp only at h);go_simp;all_goals with_reducible rfl
    simp only[tkS];refine tkH 4 hHeld (v:=?_) ?_ ?_;rotate_left
    ·intro w h;(try dsimp only at h);go_simp;all_goals with_reducible rfl
    simp only[tkS];refine tkH 5 hHeld (v:=?_) ?_ ?_;rotate_left
    ·intro w h;(try dsimp only at h);go_simp;all_goals with_reducible rfl
    simp only[tkS];refine tkH 6 hHeld (v:=?_) ?_ ?_;rotate_left
    ·intro w h;(try dsimp only at h);go_simp;all_goals with_reducible rfl
    simp only[tkS];refine tkH 7 hHeld (v:=?_) ?_ ?_;rotate_left
    ·intro w h;(try dsimp only at h);go_simp;all_goals with_reducible rfl
    simp only[tkS];refine tkH 8 hHeld (v:=?_) ?_ ?_;rotate_left
    ·intro w h;(try dsimp only at h);go_simp;all_goals with_reducible rfl
    simp only[tkS];refine tkH 9 hHeld (v:=?_) ?_ ?_;rotate_left
    ·intro w h;(try dsimp only at h);go_simp;all_goals with_reducible rfl
    simp only[tkS];refine oneH 10 (fun K hK=>?_);go_simp;refine(HQT.out _ hbq).mono ?_;rintro e w7 ⟨rfl,hb9⟩;have hbq:=zem hbq hb9;clear hHeld hb9;go_wp2_with fail;refine hK.out _ _ (SF.out _ hbq) (fun hHeld=>?_);clear hK;try simp only[tkS]
    refine tkH 11 hHeld (v:=?_) ?_ ?_;rotate_left
    ·intro w h;(try dsimp only at h);go_simp;all_goals with_reducible rfl
    simp only[tkS];refine wpAnyH_done (by kernel_rfl) ?_ _;clear hHeld;have HB9:=lhd (zem HBr.out hbq);go_wp2_with fail;go_roundw;case rel=>exact⟨k+1,hlt,by go_num,HNX.out,HB9.out⟩
    case measure=>simp[intOf];omega
  ·obtain rfl:k=t.G.length:=by omega
   have HEG:=lhd (show t.G=u.G by have:=HGO.out;rwa [List.take_length,HE6.out,List.take_length]at this);rw[←HE7.out]at q7;have HB3:=HBr;clear HGO HBr HBw hlt hk;go_wp2_with fail;clear p0 p1 p2 p3 p4 p5 p6 p7 p8 q0 q1 q2 q3 q4 q5 q6 q7 q8;go_loopw [6] (fun i wr=>∃k:Nat,k≤t.P.length∧i=.int .i64 k∧t.P.take k=u.P.take k∧Below w2.heap.size w2 wr) (fun i _=>t.P.length-(intOf i).toNat)
   case atStart=>exact⟨0,Nat.zero_le _,rfl,rfl,HB3.out⟩
   case round=>
    clear HB3;obtain⟨k,hk,rfl,hgo,hb⟩:=hrel;have HGO:=lhd hgo;have HBr:=lhd hb;have HBw:=lhd (zem HB2.out hb);obtain⟨p0,p1,p2,p3,p4,p5,p6,p7,p8⟩:=(HXA.out _ hb).nine;obtain⟨q0,q1,q2,q3,q4,q5,q6,q7,q8⟩:=(HXB.out _ hb).nine;rw[←HE7.out]at q7;clear hgo hb;by_cases hlt:k<t.P.length
    ·have hlt2:k<u.P.length:=by rw[←HE7.out];exact hlt
     have hwk:=zhO k (by omega);obtain⟨b,o,rfl,hc⟩:=(HGP.out wr HBw.out).gps hlt;obtain⟨b',o',rfl,hd⟩:=(HGQ.out wr HBw.out).gps hlt2;have x0:wr.cell? ⟨b,o+k*2,none⟩=some (.int .i64 t.P[k].1):=hc 0 _ rfl;have x1:wr.cell? ⟨b,o+k*2+1,none⟩=some (.int .i64 t.P[k].2):=hc 1 _ rfl;have y0:wr.cell? ⟨b',o'+k*2,none⟩=some (.int .i64 u.P[k].1):=hd 0 _ rfl;have y1:wr.cell? ⟨b',o'+k*2+1,none⟩=some (.int .i64 u.P[k].2):=hd 1 _ rfl;have HBAD:=lhd (fun(h:¬t.P[k]=u.P[k])=>HN.out fun h9=>h (by subst h9;rfl));have HGOO:=lhd (fun(h:t.P[k]=u.P[k])=>(show t.P.take (k+1)=u.P.take (k+1)by rw[List.take_succ_eq_append_getElem hlt,List.take_succ_eq_append_getElem hlt2,HGO.out,h]));clear hc hd HGO;generalize t.P[k]=gx at*;generalize u.P[k]=gy at*;obtain⟨xa,xb⟩:=gx;obtain⟨ya,yb⟩:=gy;dsimp only at x0 x1 y0 y1;by_cases h1:xa=ya
     ·subst h1;by_cases h2:xb=yb
      ·subst h2;have HNX:=lhd (HGOO.out rfl);clear HBAD HGOO;go_wp2_with fail;go_quiet (fail);have HB9:=lhd (za5 HBr.out nq);clear p0 p1 p2 p3 p4 p5 p6 p7 p8 q0 q1 q2 q3 q4 q5 q6 q7 q8;clear x0 x1 y0 y1;go_wp2_with fail;go_roundw;case rel=>exact⟨k+1,hlt,by go_num,HNX.out,HB9.out⟩
       case measure=>simp[intOf];omega
      ·have HR:=lhd (HBAD.out fun h=>h2 (congrArg Prod.snd h));have hbb:(xb==yb)=false:=by rw[beq_eq_false_iff_ne];exact h2
       clear HBAD HGOO h2;go_wp2_with fail;go_quiet (fail);have HB9:=lhd (za5 HBw.out nq);clear p0 p1 p2 p3 p4 p5 p6 p7 p8 q0 q1 q2 q3 q4 q5 q6 q7 q8;go_wp2_with fail;go_ret;exact⟨zli HR.out.symm,(HB9).out⟩
     ·have HR:=lhd (HBAD.out fun h=>h1 (congrArg Prod.fst h));have hbb:(xa==ya)=false:=by rw[beq_eq_false_iff_ne];exact h1
      clear HBAD HGOO h1;go_wp2_with fail;go_quiet (fail);have HB9:=lhd (za5 HBw.out nq);clear p0 p1 p2 p3 p4 p5 p6 p7 p8 q0 q1 q2 q3 q4 q5 q6 q7 q8;go_wp2_with fail;go_ret;exact⟨zli HR.out.symm,(HB9).out⟩
    ·obtain rfl:k=t.P.length:=by omega
     have HEP:t.P=u.P:=by have:=HGO.out;rwa [List.take_length,HE7.out,List.take_length]at this
     have HR:=lhd (HY.out (by
      obtain⟨e0,e1,e2,e3,e8,e4,e5⟩:=HEQ.out;have e6:=HEG.out;obtain⟨c1,c2,c3,c4,c5,c6,c7,c8,c9⟩:=t;obtain⟨d1,d2,d3,d4,d5,d6,d7,d8,d9⟩:=u;dsimp only at*;subst e0 e1 e2 e3 e8 e4 e5 e6 HEP;rfl))
     clear HEP;go_wp2_with fail;go_ret;exact⟨zli HR.out.symm,(HBw).out⟩
abbrev z9:Array Value:=#[.int .i64 0,.string ⟨#[]⟩,.string ⟨#[]⟩,.string ⟨#[]⟩,.slice none 0 0,.slice none 0 0,.slice none 0 0,.slice none 0 0,.int .i64 0]
theorem Bx.alloc {W:World} {b:Nat} {C:Array Value} (h:Bx W b C) (o:Obj):Bx (W.alloc o) b C:=h.step ((Below.refl _ _).alloc (Nat.le_refl _) o)
structure BdS (w W:World) (C:Array Value):Prop where
 t:Bx W w.heap.size C
 r:Bx W (w.heap.size+1) z9
 n:Bx W (w.heap.size+1+1) z9
 b:Below w.heap.size w W
section
variable {w W W' : World} {C : Array Value}
theorem BdS.step (h:BdS w W C) (hb:Below W.heap.size W W'):BdS w W' C:=⟨h.t.step hb,h.r.step hb,h.n.step hb,h.b.trans (hb.mono h.b.size)⟩
theorem BdS.start (w:World) (C:Array Value) (T:TypeId):BdS w (((w.alloc (.cells C T)).alloc (.cells z9 T)).alloc (.cells z9 T)) C:=by
 have h1:=Bx.new (w.alloc (.cells C T)) z9 T;have h2:=Bx.new ((w.alloc (.cells C T)).alloc (.cells z9 T)) z9 T;simp only[World.size_alloc]at h1 h2;have h0:=((Bx.new w C T).alloc (.cells z9 T)).alloc (.cells z9 T);have h1:=h1.alloc (.cells z9 T);exact⟨h0,h1,h2,(((Below.refl _ _).alloc (Nat.le_refl _) _).alloc (by simp) _).alloc (by simp;omega) _⟩
theorem BdS.outs (h:BdS w W C):(W.cell? ⟨w.heap.size+1,0,none⟩=some (.int .i64 0)∧W.cell? ⟨w.heap.size+1,1,none⟩=some (.string ⟨#[]⟩)∧W.cell? ⟨w.heap.size+1,2,none⟩=some (.string ⟨#[]⟩)∧W.cell? ⟨w.heap.size+1,3,none⟩=some (.string ⟨#[]⟩)∧W.cell? ⟨w.heap.size+1,4,none⟩=some (.slice none 0 0)∧W.cell? ⟨w.heap.size+1,5,none⟩=some (.slice none 0 0)∧W.cell? ⟨w.heap.size+1,6,none⟩=some (.slice none 0 0)∧W.cell? ⟨w.heap.size+1,7,none⟩=some (.slice none 0 0)∧W.cell? ⟨w.heap.size+1,8,none⟩=some (.int .i64 0))∧
 (W.frozen? ⟨w.heap.size+1,0,none⟩=false∧W.frozen? ⟨w.heap.size+1,1,none⟩=false∧W.frozen? ⟨w.heap.size+1,2,none⟩=false∧W.frozen? ⟨w.heap.size+1,3,none⟩=false∧W.frozen? ⟨w.heap.size+1,4,none⟩=false∧W.frozen? ⟨w.heap.size+1,5,none⟩=false∧W.frozen? ⟨w.heap.size+1,6,none⟩=false∧W.frozen? ⟨w.heap.size+1,7,none⟩=false∧W.frozen? ⟨w.heap.size+1,8,none⟩=false)∧
 W.cell? ⟨w.heap.size+1+1,0,none⟩=some (.int .i64 0)∧W.cell? ⟨w.heap.size+1+1,1,none⟩=some (.string ⟨#[]⟩)∧W.cell? ⟨w.heap.size+1+1,2,none⟩=some (.string ⟨#[]⟩)∧W.cell? ⟨w.heap.size+1+1,3,none⟩=some (.string ⟨#[]⟩)∧W.cell? ⟨w.heap.size+1+1,4,none⟩=some (.slice none 0 0)∧W.cell? ⟨w.heap.size+1+1,5,none⟩=some (.slice none 0 0)∧W.cell? ⟨w.heap.size+1+1,6,none⟩=some (.slice none 0 0)∧W.cell? ⟨w.heap.size+1+1,7,none⟩=some (.slice none 0 0)∧W.cell? ⟨w.heap.size+1+1,8,none⟩=some (.int .i64 0):=
 ⟨h.r.nine,⟨h.r.1.free (j:=0) (by simp),h.r.1.free (j:=1) (by simp),h.r.1.free (j:=2) (by simp),h.r.1.free (j:=3) (by simp),h.r.1.free (j:=4) (by simp),h.r.1.free (j:=5) (by simp),h.r.1.free (j:=6) (by simp),h.r.1.free (j:=7) (by simp),h.r.1.free (j:=8) (by simp)⟩,h.n.nine⟩
theorem BdS.fin (h:BdS w W C) (u0 u1 u2 u3 u4 u5 u6 u7 u8:Value):((set9 W (w.heap.size+1) u0 u1 u2 u3 u4 u5 u6 u7 u8).cell? ⟨w.heap.size+1,0,none⟩=some u0∧(set9 W (w.heap.size+1) u0 u1 u2 u3 u4 u5 u6 u7 u8).cell? ⟨w.heap.size+1,1,none⟩=some u1∧(set9 W (w.heap.size+1) u0 u1 u2 u3 u4 u5 u6 u7 u8).cell? ⟨w.heap.size+1,2,none⟩=some u2∧(set9 W (w.heap.size+1) u0 u1 u2 u3 u4 u5 u6 u7 u8).cell? ⟨w.heap.size+1,3,none⟩=some u3∧(set9 W (w.heap.size+1) u0 u1 u2 u3 u4 u5 u6 u7 u8).cell? ⟨w.heap.size+1,4,none⟩=some u4∧(set9 W (w.heap.size+1) u0 u1 u2 u3 u4 u5 u6 u7 u8).cell? ⟨w.heap.size+1,5,none⟩=some u5∧(set9 W (w.heap.size+1) u0 u1 u2 u3 u4 u5 u6 u7 u8).cell? ⟨w.heap.size+1,6,none⟩=some u6∧(set9 W (w.heap.size+1) u0 u1 u2 u3 u4 u5 u6 u7 u8).cell? ⟨w.heap.size+1,7,none⟩=some u7∧(set9 W (w.heap.size+1) u0 u1 u2 u3 u4 u5 u6 u7 u8).cell? ⟨w.heap.size+1,8,none⟩=some u8)∧
 Below w.heap.size w (set9 W (w.heap.size+1) u0 u1 u2 u3 u4 u5 u6 u7 u8)∧(∀(e size n:Nat) (v:Value) (xs:List Value),W.ownsRow (w.heap.size+1+1) e size v n xs→(set9 W (w.heap.size+1) u0 u1 u2 u3 u4 u5 u6 u7 u8).ownsRow (w.heap.size+1+1) e size v n xs):=
 ⟨Bx.nine (show Bx (set9 W (w.heap.size+1) u0 u1 u2 u3 u4 u5 u6 u7 u8) (w.heap.size+1) #[u0,u1,u2,u3,u4,u5,u6,u7,u8]from⟨zmS h.r.1 u0 u1 u2 u3 u4 u5 u6 u7 u8,by simpa[set9] using h.r.2⟩),zmQ h.b (by omega) _ _ _ _ _ _ _ _ _,fun _ _ _ _ _ ho=>zmR ho (by omega) _ _ _ _ _ _ _ _ _⟩
end
def BdP (t:Tr) (w:World) (e:Ending) (w':World):Prop:=(∃q:TP,e=.returned (.tuple #[q.v (zbx t).1,.int .i64 (zbx t).2])∧TrM w' (zbx t).1 q)∧Below w.heap.size w w'
theorem BdP.no {t:Tr} {w W:World} {c:Int} (h:zbx t=(tr0,c)) (hb:Below w.heap.size w W):BdP t w (.returned (.tuple #[.agg z9,.int .i64 c])) W:=by
 unfold BdP;rw[h];exact⟨⟨tp0,rfl,zo0 _⟩,hb⟩
theorem zbJ {t:Tr} {c:Int} (h:zoJ t=c) (hc:c≠0):zbx t=(tr0,c):=by
 unfold zbx;rw[if_pos (by rw[h];exact hc),h]
theorem zbC {t:Tr} {c:Int} (h0:zoJ t=0) (h:zdr t=c) (hc:c≠0):zbx t=(tr0,c):=by
 unfold zbx;rw[if_neg (by simp[h0]),if_pos (by rw[h];exact hc),h]
theorem zbE {t:Tr} {c:Int} (h0:zoJ t=0) (h1:zdr t=0) (h:zeu (fitE (sig1 t)) (zju t.S t.V).2.1=c) (hc:c≠0):zbx t=(tr0,c):=by
 unfold zbx;rw[if_neg (by simp[h0]),if_neg (by simp[h1]),if_pos (by rw[h];exact hc),h]
theorem zbG {t:Tr} {c:Int} (h0:zoJ t=0) (h1:zdr t=0) (h2:zeu (fitE (sig1 t)) (zju t.S t.V).2.1=0) (h:zh6 (sig1 t)=c) (hc:c≠0):zbx t=(tr0,c):=by
 unfold zbx;rw[if_neg (by simp[h0]),if_neg (by simp[h1]),if_neg (by simp[h2]),if_pos (by rw[h];exact hc),h]
theorem zev {α:Type} {f:α→Int} {l:List α} {k:Nat} (hk:k<l.length) (h:∀x∈l.take k,f x=0) (hx:f l[k]≠0):zeu f l=f l[k]:=by
 induction l generalizing k with
 |nil=>simp at hk
 |cons y l ih=>
  cases k with
  |zero=>rw[zeu,if_pos (by simpa using hx)];rfl
  |succ k=>
   have hy:f y=0:=h y (by simp);rw[zeu,if_neg (by simp[hy])];exact ih (k:=k) (by simpa using hk) (fun x hx=>h x (by simp[hx])) (by simpa using hx)
theorem zqh {S:List Sc} {V:List Vr} {v:Vr} (h:v∈(zju S V).2.1):0≤v.sg∧v.sg.toNat<(zju S V).2.2.1.length:=by
 unfold zju at h⊢;split at h
 ·cases h
 ·rename_i h0
  rw[if_neg h0];unfold vrF at h⊢;obtain⟨x,-,-,h1,h2⟩:=ziy _ _ v h;exact⟨h1,(List.getElem?_eq_some_iff.1 h2).1⟩
theorem zjt (S:List Sc) (V:List Vr):(zju S V).2.1.length≤V.length:=by
 unfold zju;split
 ·exact Nat.zero_le _
 ·have:=congrArg List.length (ziz (fun _:Vr=>(0:Int)) (fun _ _=>rfl) (vr2 S V) []);unfold vr2 at this;simp only[List.length_map,zgi]at this;show(vrF S V).1.length≤_;unfold vrF vr2;rw[this];simp[vr1]
theorem zm4 (X Z:List (Sg×Value)) (y x:Sg×Value):(((sgs (X++y::Z)).set (X.length*3) (.int .i64 x.1.1)).set (X.length*3+1) (.int .i64 x.1.2.1)).set (X.length*3+2) x.2=sgs (X++x::Z):=by
 induction X with
 |nil=>rfl
 |cons a X ih=>
  have e:∀L,sgs (a::L)=.int .i64 a.1.1::.int .i64 a.1.2.1::a.2::sgs L:=fun _=>rfl;simp only[List.cons_append,e,List.length_cons];rw[show(X.length+1)*3=X.length*3+1+1+1 by omega,show X.length*3+1+1+1+1=X.length*3+1+1+1+1 from rfl,show X.length*3+1+1+1+2=X.length*3+2+1+1+1 by omega];simp only[List.set_cons_succ];rw[ih]
structure SgO (w W:World) (v:Value) (M:List (Sg×Value)):Prop where
 o:W.ownsRow w.heap.size 45 3 v M.length (sgs M)
 c:∀x∈M,W.ownsRow w.heap.size 53 2 x.2 x.1.2.2.length (chs x.1.2.2)
 b:Below w.heap.size w W
section
variable {w W W' : World} {v v' : Value} {M : List (Sg × Value)}
theorem SgO.step (h:SgO w W v M) (hb:Below W.heap.size W W'):SgO w W' v M:=⟨zba h.o hb,fun x hx=>zba (h.c x hx) hb,h.b.trans (hb.mono h.b.size)⟩
theorem SgO.sigs (h:SgO w W v M):Sigs W v M:=⟨SlR.of_own h.o,fun x hx=>SlR.of_own (h.c x hx)⟩
theorem SgO.add (h:SgO w W v M) {o:Obj} (hg:(W.alloc o).grownBy W' v.ownBlock) {x:Sg×Value} (hx:W.ownsRow w.heap.size 53 2 x.2 x.1.2.2.length (chs x.1.2.2)) (ho:W'.ownsRow w.heap.size 45 3 v' (M.length+1) (sgs M++ [.int .i64 x.1.1,.int .i64 x.1.2.1,x.2])):SgO w W' v' (M++ [x]):=by
 have hk:=h.b.size;refine⟨?_,fun z hz=>?_,(h.b.alloc hk o).grown hg (by simp;omega) (fun q hq=>(h.o.lt q hq).1)⟩
 ·rw[List.length_append,zmX];exact ho
 ·rcases List.mem_append.1 hz with hz|hz
  ·exact((h.c z hz).alloc o).kept hg (zjw (h.c z hz) h.o (by decide))
  ·obtain rfl:=List.mem_singleton.1 hz;exact(hx.alloc o).kept hg (zjw hx h.o (by decide))
theorem SgO.put {X Z:List (Sg×Value)} {y:Sg×Value} {g c:Nat} (h:SgO w W (.slice (some ⟨g,0,none⟩) (X++y::Z).length c) (X++y::Z)) (x:Sg×Value) (hx:W.ownsRow w.heap.size 53 2 x.2 x.1.2.2.length (chs x.1.2.2)):
 SgO w (((W.setCell ⟨g,X.length*3,none⟩ (.int .i64 x.1.1)).setCell ⟨g,X.length*3+1,none⟩ (.int .i64 x.1.2.1)).setCell ⟨g,X.length*3+2,none⟩ x.2) (.slice (some ⟨g,0,none⟩) (X++x::Z).length c) (X++x::Z):=by
 have hl:(X++x::Z).length=(X++y::Z).length:=by simp
 have hlo:=(zjA h.o (g:=g) rfl).1
 have far:∀{z:Sg×Value},W.ownsRow w.heap.size 53 2 z.2 z.1.2.2.length (chs z.1.2.2)→(((W.setCell ⟨g,X.length*3,none⟩ (.int .i64 x.1.1)).setCell ⟨g,X.length*3+1,none⟩ (.int .i64 x.1.2.1)).setCell ⟨g,X.length*3+2,none⟩ x.2).ownsRow w.heap.size 53 2 z.2 z.1.2.2.length (chs z.1.2.2):=fun{z} hz=>by
  have hne:z.2.ownBlock≠some g:=by
   rcases zjw hz h.o (by decide)with h1|h1
   ·rw[h1];intro e;cases e
   ·exact h1
  exact ownsRow_setCell_other (a:=⟨g,X.length*3+2,none⟩) (ownsRow_setCell_other (a:=⟨g,X.length*3+1,none⟩) (ownsRow_setCell_other (a:=⟨g,X.length*3,none⟩) hz hne _) hne _) hne _
 refine⟨?_,fun z hz=>?_,((h.b.setCell hlo _).setCell hlo _).setCell hlo _⟩
 ·rw[hl,←zm4 X Z y x];exact zjG (zjG (zjG h.o _ _) _ _) _ _
 ·rcases List.mem_append.1 hz with hz|hz
  ·exact far (h.c z (List.mem_append_left _ hz))
  ·rcases List.mem_cons.1 hz with rfl|hz
   ·exact far hx
   ·exact far (h.c z (List.mem_append_right _ (List.mem_cons_of_mem _ hz)))
end
theorem ziR {en:Int} {g:Gp} {s:Sg} (hg:g.1<g.2):(offK en g s).2.2.length≤s.2.2.length+2:=by
 unfold offK;split
 ·unfold offR;have h1:=zjX (x:=g.1-1) (y:=1099511627776) (z:=g.2+1) (cs:=s.2.2) (by omega);refine Nat.le_trans (zh9 _ _ _) ?_;simp only[List.length_append];split<;>simp<;>omega
 ·omega
theorem zeK {en:Int}:∀(P:List Gp) (s:Sg),(∀g∈P,g.1<g.2)→(P.foldl (fun s g=>offK en g s) s).2.2.length≤s.2.2.length+2*P.length
 | [],s,_=>by simp
 |g::P,s,h=>by
  have h1:=zeK (en:=en) P (offK en g s) fun k hk=>h k (List.mem_cons_of_mem _ hk);have h2:=ziR (en:=en) (s:=s) (h g List.mem_cons_self);rw[List.foldl_cons,List.length_cons];omega
theorem zcz {en:Int} {P:List Gp} {G:List Sg} {c:Nat} (hP:∀g∈P,g.1<g.2) (h:∀s∈G,s.2.2.length≤c):∀s∈clrR P en G,s.2.2.length≤c+2*P.length:=fun s hs=>by
 obtain⟨x,hx,rfl⟩:=List.mem_map.1 hs;have:=zeK (en:=en) P x hP;have:=h x hx;omega
theorem zc0 {G:List Sg} {c:Nat} (h:∀s∈G,s.2.2.length≤c):zcZ G≤G.length*c:=by
 unfold zcZ;induction G with
 |nil=>simp
 |cons s G ih=>
  have h1:=ih fun x hx=>h x (List.mem_cons_of_mem _ hx);have h2:=h s List.mem_cons_self;rw[List.map_cons,List.sum_cons,List.length_cons,Nat.add_mul];omega
theorem BdP.yes {t u:Tr} {q:TP} {w W:World} (h:zbx t=(u,0)) (hq:TrM W u q) (hb:Below w.heap.size w W):BdP t w (.returned (.tuple #[q.v u,.int .i64 0])) W:=by
 unfold BdP;rw[h];exact⟨⟨q,rfl,hq⟩,hb⟩
end Go.Proofs.YtbiadennhnokhaaGreatDoor
