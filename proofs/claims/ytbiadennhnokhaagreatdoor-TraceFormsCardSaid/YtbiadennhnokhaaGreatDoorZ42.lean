import Derived.Test.YtbiadennhnokhaaGreatDoorZ00
import Derived.Test.YtbiadennhnokhaaGreatDoorZ24
import Derived.Test.YtbiadennhnokhaaGreatDoorZ39
set_option maxRecDepth 100000
set_option maxHeartbeats 16000000
namespace Go.Proofs.YtbiadennhnokhaaGreatDoor
open Go.RowKit
set_option linter.unusedSimpArgs false
def exB:Tr:=⟨0,[],[],[],[],[⟨[97],17,-1,0,false,0,0⟩],[(0,1,[(1,⟨#[48]⟩),(3,⟨#[120]⟩),(5,⟨#[49]⟩)])],[(3,5)],5⟩
theorem zd4:zbx exT=(exB,0):=Prod.ext (zdY.1 (by decide+kernel)) (by decide+kernel)
theorem zea:zp9 exB:=zbz zd4
theorem zd9:zp7 exB=true:=zp8.2 zea
theorem zd8:znz exB 0 4=(⟨#[120]⟩,0):=by decide+kernel
theorem zd7:zoN exB.G=[1,3,5]:=by decide+kernel
theorem zd6:inP exB.P 4=true:=by decide+kernel
theorem zd5:FB exT∧∀x∈exT.V,(Lit.int .i64 x.sg).wf=true:=by
 refine⟨⟨by decide,by decide,⟨by decide,by decide⟩,?_,by decide⟩,by decide⟩;intro s hs;rcases List.mem_cons.1 hs with rfl|hs
 ·exact⟨⟨by decide,by decide⟩,by decide⟩
 ·obtain rfl:=List.mem_singleton.1 hs;exact⟨⟨by decide,by decide⟩,by decide⟩
theorem law_awake23 (w:World) (hg:Glob w) (hm:Glm w):
 Calls Tryz.prog 12 #[] w fun e w'=>e=.returned (.bool true)∧Below w.heap.size w w':=by
 have HG:=lhd hg;have HM:=lhd hm;have HVF:=lhd (zqc zea);clear hg hm;go_enter Tryz.func12,Tryz.ntmps12;go_wp2_with fail;refine(law_example w).mono ?_;rintro e w1 ⟨p,rfl,ht,hb1⟩;obtain⟨a1,k1,a2,k2,a3,k3,a4,k4,e,-⟩:=ht.open;have hbd:=zo1 exT p w1 ht zd5.1 (HG.out.below hb1) (HM.out.below hb1) zd5.2;rw[zd4]at hbd;dsimp only at hbd;rw[e]at hbd⊢;have HBD:=lhd hbd;have HB1:=lhd hb1;clear hb1 hbd ht e;go_wp2_with fail;refine HBD.out.mono ?_;rintro e w2 ⟨q,rfl,hq,hb2⟩;obtain⟨x1,y1,x2,y2,x3,y3,x4,y4,e,-,-,e3,e4,-⟩:=hq.open;rw[e];have HQE:=lhd e;have HB2:=lhd (zem HB1.out hb2);have hal:=za9 w2 (boxT exB x1 x2 x3 x4 y1 y2 y3 y4) 27;have HB3:=lhd (zem HB2.out hal);have hq3:=hq.below hal;have HY3:=lhd (Bx.new w2 (boxT exB x1 x2 x3 x4 y1 y2 y3 y4) 27);have hsg:=hq3.g;have hlen:q.M.length=1:=hq3.len;have hmap:=hq3.m;rw[e3]at hsg;obtain⟨b,o,rfl,d0,d1,d2,hd⟩:=hsg.at (j:=0) (by omega)
 have hM0:q.M[0].1=(0,1,[(1,⟨#[48]⟩),(3,⟨#[120]⟩),(5,⟨#[49]⟩)]):=by
  have:(q.M.map Prod.fst)[0]? =exB.G[0]? :=by rw[hmap]
  rw[List.getElem?_map,List.getElem?_eq_getElem (by omega)]at this;exact Option.some.inj this
 rw[hM0]at d0 d1 hd;obtain⟨xa,xc,exv,-,-⟩:=hd.shape;rw[exv]at d2 hd;obtain⟨b2,o2,rfl,f0,f1⟩:=hd.ch (l:=[(1,⟨#[48]⟩),(3,⟨#[120]⟩),(5,⟨#[49]⟩)]) (j:=1) (by decide);have HQ3:=lhd hq3;clear hb2 hq hal hq3 hsg hlen hmap e HBD hM0 exv hd d0 d1;go_wp2_with fail;generalize w2.alloc (.cells (boxT exB x1 x2 (some ⟨b,o,none⟩) x4 y1 y2 y3 y4) 27)=w3 at*;obtain⟨q0,q1,q2,q3,q4,q5,q6,q7,q8⟩:=HY3.out.nine;have hso:=zo6 exB q w3 HQ3.out HVF.out.fb (by decide) (HG.out.below HB3.out) (HM.out.below HB3.out) HVF.out.sg;rw[show srcT exB=exB by unfold srcT;rw[if_pos zd9],HQE.out]at hso;have HSO:=lhd hso;clear hso;refine HSO.out.mono ?_;rintro e w4 ⟨r,rfl,hr,hb4⟩;obtain⟨u1,v1,u2,v2,u3,v3,u4,v4,e,-⟩:=hr.open;have hva:=znA exB r 0 4 w4 hr (SrcB.of zea) (HG.out.below (zem HB3.out hb4));rw[zd8]at hva;dsimp only at hva;rw[e]at hva⊢;have HVA:=lhd hva;have HB4:=lhd (zem HB3.out hb4);have HY4:=lhd (HY3.out.step hb4);have HQ4:=lhd (HQ3.out.below hb4);clear hva hb4 hr e HSO q0 q1 q2 q3 q4 q5 q6 q7 q8 d2 f0 f1 HQ3;go_wp2_with fail;refine HVA.out.mono ?_;rintro e w5 ⟨rfl,hb5⟩;have HB5:=lhd (zem HB4.out hb5);have HY5:=lhd (HY4.out.step hb5);have HQ5:=lhd (HQ4.out.below hb5);clear hb5 HVA;obtain⟨q0,q1,q2,q3,q4,q5,q6,q7,q8⟩:=HY5.out.nine;have hCV:=fun W (hW:Below w5.heap.size w5 W)=>zo8 exB q W (HQ5.out.below hW) HVF.out.fb (HG.out.below (zem HB5.out hW)) (HM.out.below (zem HB5.out hW)) HVF.out.sg;have hCC:=fun W (hW:Below w5.heap.size w5 W)=>zo2 exB q W (HQ5.out.below hW) HVF.out.ft;have hCT:=fun W (hW:Below w5.heap.size w5 W)=>zo7 exB q W (HQ5.out.below hW) HVF.out;have hCE:=fun(r:TP) W (hW:Below w5.heap.size w5 W) (hr:TrM W exB r)=>zo3 exB exB q r W (HQ5.out.below hW) hr;have hCO:=fun W (hW:Below w5.heap.size w5 W)=>zo5 _ exB.P 4 W (HQ5.out.q.below hW);rw[zd9,HQE.out]at hCV;rw[HQE.out]at hCC hCT hCE;rw[zdY.2 rfl]at hCE;rw[zd7]at hCT;rw[zd6,e4]at hCO;have HCV:=lhd hCV;have HCC:=lhd hCC;have HCT:=lhd hCT;have HCE:=lhd hCE;have HCO:=lhd hCO;clear hCV hCC hCT hCE hCO;have hCK:=fun W=>zo4 3 W;rw[show zgL 3=1 from by decide]at hCK;have HCK:=lhd hCK;have HD5:=lhd (show Below w5.heap.size w5 w5.drew from(Below.refl _ _).drew);clear hCK;go_upto_region 8 with fail
 go_region_held3 (fun w'=>w'.cell? ⟨w2.heap.size,0,none⟩=some (.int .i64 exB.sc)∧w'.cell? ⟨w2.heap.size,1,none⟩=some (.string (bsB exB.dt))∧w'.cell? ⟨w2.heap.size,2,none⟩=some (.string (bsB exB.vn))∧w'.cell? ⟨w2.heap.size,3,none⟩=some (.string (bsB exB.cm))∧w'.cell? ⟨w2.heap.size,4,none⟩=some (.slice x1 exB.S.length y1)∧w'.cell? ⟨w2.heap.size,5,none⟩=some (.slice x2 exB.V.length y2)∧w'.cell? ⟨w2.heap.size,6,none⟩=some (.slice (some ⟨b,o,none⟩) exB.G.length y3)∧w'.cell? ⟨w2.heap.size,7,none⟩=some (.slice x4 exB.P.length y4)∧w'.cell? ⟨w2.heap.size,8,none⟩=some (.int .i64 exB.en))
  (first|exact HY10.out.nine|exact HY9.out.nine|exact HY8.out.nine|exact HY7.out.nine|exact HY6.out.nine|exact HY5.out.nine|go_keep)
  (first
    |(go_at_call 18;(with_reducible refine(HCV.out w5.drew HD5.out).mono ?_);rintro e w6 ⟨rfl,hb6⟩;have HD6:=lhd (zem HD5.out hb6);have HY6:=lhd (HY5.out.step HD6.out);clear hb6)
    |(go_at_call 30;(with_reducible refine(HCC.out w6 HD6.out).mono ?_);rintro e w7 ⟨pc,rfl,hpc,hb7⟩;have HPC:=lhd hpc.m0;have HD7:=lhd (zem HD6.out hb7);have HY7:=lhd (HY5.out.step HD7.out);clear hb7 hpc)
    |(go_at_call 21;(with_reducible refine(HCE.out pc w7 HD7.out HPC.out).mono ?_);rintro e w8 ⟨rfl,hb8⟩;have HD8:=lhd (zem HD7.out hb8);have HY8:=lhd (HY5.out.step HD8.out);clear hb8)
    |(go_at_call 23;(with_reducible refine(HCT.out w8 HD8.out).mono ?_);rintro e w9 ⟨v9,rfl,ho9,hb9⟩;obtain⟨a9,c9,rfl,-,-⟩:=(SlR.of_own (show w9.ownsRow w8.heap.size 3 1 v9 3 (ints [1,3,5])from ho9)).shape;have HD9:=lhd (zem HD8.out hb9);have HY9:=lhd (HY5.out.step HD9.out);clear hb9 ho9)
    |(go_at_call 25;(with_reducible refine(HCO.out w9 HD9.out).mono ?_);rintro e w10 ⟨rfl,hb10⟩;have HD10:=lhd (zem HD9.out hb10);have HY10:=lhd (HY5.out.step HD10.out);clear hb10)
    |(go_at_call 16;(with_reducible refine(HCK.out w10).mono ?_);rintro e w11 ⟨rfl,rfl⟩)
    |fail "no arm")
 clear HCV HCC HCT HCE HCO HCK;go_wp2_with fail;go_ret;exact⟨rfl,zem HB5.out HD10.out⟩
end Go.Proofs.YtbiadennhnokhaaGreatDoor
