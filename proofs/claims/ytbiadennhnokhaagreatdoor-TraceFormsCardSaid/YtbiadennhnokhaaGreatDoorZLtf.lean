import Derived.Test.YtbiadennhnokhaaGreatDoorZ00
import Derived.Test.YtbiadennhnokhaaGreatDoorZ42
import Derived.Test.YtbiadennhnokhaaGreatDoorZRwM
set_option maxRecDepth 100000
set_option maxHeartbeats 16000000
namespace Go.Proofs.YtbiadennhnokhaaGreatDoor
open Go.RowKit
set_option linter.unusedSimpArgs false
theorem zeq {lim:Int} (hl:lim≤1000):∀(G:List Sg) (n:Int),0≤n→fewG lim n G=true→∀s∈G,s.2.2.length≤1000
 | [],_,_,_=>fun s hs=>by cases hs
 |x::G,n,hn,h=>fun s hs=>by
  unfold fewG at h;simp only[Bool.and_eq_true,Bool.not_eq_true',decide_eq_false_iff_not]at h;rcases List.mem_cons.1 hs with rfl|hs
  ·have:=h.1.1;omega
  ·exact zeq hl G _ (by omega) h.2 s hs
theorem zet {t:Tr} (h:fewT t 60=true):SmallT t:=by
 unfold fewT at h;simp only[Bool.and_eq_true,decide_eq_true_iff]at h;exact⟨zeq (by decide) _ _ (Int.le_refl _) h.2,by omega⟩
theorem zqd {t:Tr} {b:Bool} (h:b=true↔ValidR t):b=zp7 t:=by
 rw[Bool.eq_iff_iff,h,zp8];exact zqb
theorem zbA (t:Tr):(zbx t).1.G.length≤1000∧(zbx t).1.P.length≤1000:=by
 by_cases h:(zbx t).2=0
 ·have hv:zp9 (zbx t).1:=zbz (t:=t) (by rw[←h]);have:=zqc hv;exact⟨this.ft.2.2.1,this.fb.p⟩
 ·rw[zbD h];exact⟨by decide,by decide⟩
theorem law_TraceForms (t u:Tr) (p q:TP) (n:Int) (w:World) (ht:TrM w t p) (hi:InT t) (hu:TrM w u q) (hj:InT u) (hg:Glob w) (hm:Glm w):
 Calls Tryz.prog 3 #[p.v t,q.v u,.int .i64 n] w fun e w'=>e=.returned (.bool true)∧Below w.heap.size w w':=by
 obtain⟨a1,k1,a2,k2,a3,k3,a4,k4,e,-⟩:=ht.open;obtain⟨b1,l1,b2,l2,b3,l3,b4,l4,e',-⟩:=hu.open;have HT:=lhd ht;have HU:=lhd hu;have HI:=lhd hi;have HJ:=lhd hj;have HG:=lhd hg;have HM:=lhd hm;have HE:=lhd e;have HE2:=lhd e';have hx1:=Bx.new w (boxT t a1 a2 a3 a4 k1 k2 k3 k4) 27;have hb1:=za9 w (boxT t a1 a2 a3 a4 k1 k2 k3 k4) 27;have hsz:(w.alloc (.cells (boxT t a1 a2 a3 a4 k1 k2 k3 k4) 27)).heap.size=w.heap.size+1:=by simp
 rw[e,e'];clear ht hu hi hj hg hm e e';have HX1:=lhd hx1;have HB1:=lhd hb1;have HSZ:=lhd hsz;clear hx1 hb1 hsz;go_enter Tryz.func3,Tryz.ntmps3;go_upto_region 1 with fail;generalize w.alloc (.cells (boxT t a1 a2 a3 a4 k1 k2 k3 k4) 27)=w1 at*;have hx2:=Bx.new w1 (boxT u b1 b2 b3 b4 l1 l2 l3 l4) 27;have hb2:=za9 w1 (boxT u b1 b2 b3 b4 l1 l2 l3 l4) 27;rw[HSZ.out]at hx2;generalize w1.alloc (.cells (boxT u b1 b2 b3 b4 l1 l2 l3 l4) 27)=w2 at*;have HB2:=lhd (zem HB1.out hb2);have HX2:=lhd (HX1.out.step hb2);have HY2:=lhd hx2;clear hx2 hb2 HX1 HB1 HSZ;go_wp2_with fail;refine(law_awake23 w2 (HG.out.below HB2.out) (HM.out.below HB2.out)).mono ?_;rintro e w3 ⟨rfl,hb⟩;have HB3:=lhd (zem HB2.out hb);have HX3:=lhd (HX2.out.step hb);have HY3:=lhd (HY2.out.step hb);clear hb HX2 HY2 HB2;obtain⟨p0,p1,p2,p3,p4,p5,p6,p7,p8⟩:=HX3.out.nine;have hfw:=zlr t p 60 w3 (HT.out.below HB3.out) (by decide) ⟨by have:=HI.out.tx;omega,by have:=HI.out.tx;omega,by have:=HI.out.tx;omega⟩;rw[HE.out]at hfw;have HFW:=lhd hfw;clear hfw;rcases Bool.eq_false_or_eq_true (fewT t 60)with hfew|hfew
 rotate_left
 ·rw[hfew]at HFW;clear hfew;go_wp2_with fail;refine HFW.out.mono ?_;rintro e w4 ⟨rfl,hb⟩;have HB4:=lhd (zem HB3.out hb);clear hb;go_wp2_with fail;go_ret;exact⟨rfl,HB4.out⟩
 have HV:=lhd (zer (by decide) (by decide) hfew (fun x hx=>(HI.out.v x hx).2.2.2.1) (fun s hs c hc=>((HI.out.g s hs).2.2 c hc).1));have HSM:=lhd (zet hfew);have HFG:=lhd (zen (by decide) hfew).2;rw[hfew]at HFW;clear hfew;go_wp2_with fail;refine HFW.out.mono ?_;rintro e w4 ⟨rfl,hb⟩;have HB4:=lhd (zem HB3.out hb);have HX4:=lhd (HX3.out.step hb);have HY4:=lhd (HY3.out.step hb);clear hb HX3 HY3 HB3 HFW p0 p1 p2 p3 p4 p5 p6 p7 p8;obtain⟨q0,q1,q2,q3,q4,q5,q6,q7,q8⟩:=HY4.out.nine;have hfw:=zlr u q 60 w4 (HU.out.below HB4.out) (by decide) ⟨by have:=HJ.out.tx;omega,by have:=HJ.out.tx;omega,by have:=HJ.out.tx;omega⟩;rw[HE2.out]at hfw;have HFW:=lhd hfw;clear hfw;rcases Bool.eq_false_or_eq_true (fewT u 60)with hfew|hfew
 rotate_left
 ·rw[hfew]at HFW;clear hfew;go_wp2_with fail;refine HFW.out.mono ?_;rintro e w5 ⟨rfl,hb⟩;have HB5:=lhd (zem HB4.out hb);clear hb;go_wp2_with fail;go_ret;exact⟨rfl,HB5.out⟩
 rw[hfew]at HFW;clear hfew;go_wp2_with fail;refine HFW.out.mono ?_;rintro e w5 ⟨rfl,hb⟩;have HB5:=lhd (zem HB4.out hb);have HX5:=lhd (HX4.out.step hb);have HY5:=lhd (HY4.out.step hb);clear hb HX4 HY4 HB4 HFW q0 q1 q2 q3 q4 q5 q6 q7 q8;obtain⟨p0,p1,p2,p3,p4,p5,p6,p7,p8⟩:=HX5.out.nine;obtain⟨⟨a,c⟩,hB⟩:∃r,r=zbx t:=⟨_,rfl⟩;have hbd:=zo1 t p w5 (HT.out.below HB5.out) HV.out.fb (HG.out.below HB5.out) (HM.out.below HB5.out) HV.out.sg;have hrb:=fun W (hW:Below w5.heap.size w5 W)=>zln t p W (HT.out.below (zem HB5.out hW)) HV.out.fb HSM.out;have hbb:=zbA t;unfold BdP at hrb;rw[HE.out,←hB]at hbd hrb;rw[←hB]at hbb;have HBB:=lhd hbb;clear hbb;dsimp only at hbd hrb;have HBD:=lhd hbd;have HRB:=lhd hrb;clear hbd hrb hB;go_wp2_with fail;refine HBD.out.mono ?_;rintro e w6 ⟨s,rfl,hs,hb⟩;obtain⟨x1,y1,x2,y2,x3,y3,x4,y4,e,-⟩:=hs.open;rw[e];have HSE:=lhd e;have hal:=za9 w6 (boxT a x1 x2 x3 x4 y1 y2 y3 y4) 27;have HW7:=lhd (zem hb hal);have HS7:=lhd (hs.below hal);have HZ7:=lhd (Bx.new w6 (boxT a x1 x2 x3 x4 y1 y2 y3 y4) 27);clear e hs hb hal HBD p0 p1 p2 p3 p4 p5 p6 p7 p8;go_upto_region 6 with fail;generalize hg6:w6.heap.size=g6 at*;generalize w6.alloc (.cells (boxT a x1 x2 x3 x4 y1 y2 y3 y4) 27)=w7 at*;clear hg6;have HX7:=lhd (HX5.out.step HW7.out);obtain⟨p0,p1,p2,p3,p4,p5,p6,p7,p8⟩:=HX7.out.nine;go_wp2_with fail;refine(HRB.out w7 HW7.out).mono ?_;rintro e w8 ⟨⟨r,rfl,hr⟩,hb⟩;obtain⟨u1,v1,u2,v2,u3,v3,u4,v4,e,-⟩:=hr.open;rw[e];have HRE:=lhd e;have hal:=za9 w8 (boxT a u1 u2 u3 u4 v1 v2 v3 v4) 27;have hb9:=zem hb hal;have HW9:=lhd (zem HW7.out hb9);have HS9:=lhd (HS7.out.below hb9);have HZ9:=lhd (HZ7.out.step hb9);have HR9:=lhd (hr.below hal);have HQ9:=lhd (Bx.new w8 (boxT a u1 u2 u3 u4 v1 v2 v3 v4) 27);clear e hr hb hal hb9 HRB HX7 HZ7 HS7 HW7 p0 p1 p2 p3 p4 p5 p6 p7 p8;go_upto_region 7 with fail;generalize hg8:w8.heap.size=g8 at*;generalize w8.alloc (.cells (boxT a u1 u2 u3 u4 v1 v2 v3 v4) 27)=w9 at*;clear hg8;have HX9:=lhd (HX5.out.step HW9.out);have HY9:=lhd (HY5.out.step HW9.out);have HB9:=lhd (zem HB5.out HW9.out);clear HX5 HY5 HB5 HW9;have hkd:=fun W=>zo4 n W;have hkr:=fun W=>zlt n W;have hva:=fun W (hW:Below w9.heap.size w9 W)=>zo8 t p W (HT.out.below (zem HB9.out hW)) HV.out.fb (HG.out.below (zem HB9.out hW)) (HM.out.below (zem HB9.out hW)) HV.out.sg;have hvr:=fun W (hW:Below w9.heap.size w9 W)=>zlA t p W (HT.out.below (zem HB9.out hW)) HV.out;have hab:=fun W (hW:Below w9.heap.size w9 W)=>zlo a a s r W (HS9.out.below hW) (HR9.out.below hW) HBB.out;have htu:=fun W (hW:Below w9.heap.size w9 W)=>zo3 t u p q W (HT.out.below (zem HB9.out hW)) (HU.out.below (zem HB9.out hW));have hur:=fun W (hW:Below w9.heap.size w9 W)=>zlo t u p q W (HT.out.below (zem HB9.out hW)) (HU.out.below (zem HB9.out hW)) ⟨by have:=HFG.out;omega,by have:=HV.out.fb.p;omega⟩;rw[HE.out]at hva hvr;rw[HE.out,HE2.out]at htu hur;rw[HSE.out,HRE.out]at hab;rw[show eqT a a=true from zdY.2 rfl]at hab;have HVS:=lhd (fun(b:Bool) (h:b=true↔ValidR t)=>zqd h);generalize zp7 t=vb at*;generalize eqT t u=eb at*;generalize zgL n=kf at*;have HKD:=lhd hkd;have HKR:=lhd hkr;have HVA:=lhd hva;have HVR:=lhd hvr;have HAB:=lhd hab;have HTU:=lhd htu;have HUR:=lhd hur;clear hkd hkr hva hvr hab htu hur HS9 HR9 HT HU;have SF:=lhd (fun W (hW:Below w9.heap.size w9 W)=>And.intro (HX9.out.step hW).nine (And.intro (HY9.out.step hW).nine (And.intro (HZ9.out.step hW).nine (HQ9.out.step hW).nine)));refine wp_region_held_drew (S:=fun w'=>(w'.cell? ⟨w.heap.size,0,none⟩=some (.int .i64 t.sc)∧w'.cell? ⟨w.heap.size,1,none⟩=some (.string (bsB t.dt))∧w'.cell? ⟨w.heap.size,2,none⟩=some (.string (bsB t.vn))∧w'.cell? ⟨w.heap.size,3,none⟩=some (.string (bsB t.cm))∧w'.cell? ⟨w.heap.size,4,none⟩=some (.slice a1 t.S.length k1)∧w'.cell? ⟨w.heap.size,5,none⟩=some (.slice a2 t.V.length k2)∧w'.cell? ⟨w.heap.size,6,none⟩=some (.slice a3 t.G.length k3)∧w'.cell? ⟨w.heap.size,7,none⟩=some (.slice a4 t.P.length k4)∧w'.cell? ⟨w.heap.size,8,none⟩=some (.int .i64 t.en))∧(w'.cell? ⟨w.heap.size+1,0,none⟩=some (.int .i64 u.sc)∧w'.cell? ⟨w.heap.size+1,1,none⟩=some (.string (bsB u.dt))∧w'.cell? ⟨w.heap.size+1,2,none⟩=some (.string (bsB u.vn))∧w'.cell? ⟨w.heap.size+1,3,none⟩=some (.string (bsB u.cm))∧w'.cell? ⟨w.heap.size+1,4,none⟩=some (.slice b1 u.S.length l1)∧w'.cell? ⟨w.heap.size+1,5,none⟩=some (.slice b2 u.V.length l2)∧w'.cell? ⟨w.heap.size+1,6,none⟩=some (.slice b3 u.G.length l3)∧w'.cell? ⟨w.heap.size+1,7,none⟩=some (.slice b4 u.P.length l4)∧w'.cell? ⟨w.heap.size+1,8,none⟩=some (.int .i64 u.en))∧(w'.cell? ⟨g6,0,none⟩=some (.int .i64 a.sc)∧w'.cell? ⟨g6,1,none⟩=some (.string (bsB a.dt))∧w'.cell? ⟨g6,2,none⟩=some (.string (bsB a.vn))∧w'.cell? ⟨g6,3,none⟩=some (.string (bsB a.cm))∧w'.cell? ⟨g6,4,none⟩=some (.slice x1 a.S.length y1)∧w'.cell? ⟨g6,5,none⟩=some (.slice x2 a.V.length y2)∧w'.cell? ⟨g6,6,none⟩=some (.slice x3 a.G.length y3)∧w'.cell? ⟨g6,7,none⟩=some (.slice x4 a.P.length y4)∧w'.cell? ⟨g6,8,none⟩=some (.int .i64 a.en))∧(w'.cell? ⟨g8,0,none⟩=some (.int .i64 a.sc)∧w'.cell? ⟨g8,1,none⟩=some (.string (bsB a.dt))∧w'.cell? ⟨g8,2,none⟩=some (.string (bsB a.vn))∧w'.cell? ⟨g8,3,none⟩=some (.string (bsB a.cm))∧w'.cell? ⟨g8,4,none⟩=some (.slice u1 a.S.length v1)∧w'.cell? ⟨g8,5,none⟩=some (.slice u2 a.V.length v2)∧w'.cell? ⟨g8,6,none⟩=some (.slice u3 a.G.length v3)∧w'.cell? ⟨g8,7,none⟩=some (.slice u4 a.P.length v4)∧w'.cell? ⟨g8,8,none⟩=some (.int .i64 a.en))) (by kernel_rfl) (SF.out _ (Below.refl _ _).drew) (fun hHeld=>?_);have hbq:Below w9.heap.size w9 w9.drew:=(Below.refl _ _).drew;generalize w9.drew=w10 at*;refine tkH 0 hHeld (v:=?_) ?_ ?_;rotate_left
 ·intro w h;(try dsimp only at h);go_simp;all_goals with_reducible rfl
 simp only[tkS];refine tkH 2 hHeld (v:=?_) ?_ ?_;rotate_left
 ·intro w h;(try dsimp only at h);go_simp;all_goals with_reducible rfl
 simp only[tkS];refine oneH 1 (fun K hK=>?_);go_simp;refine(HKD.out w10).mono ?_;rintro e w11 ⟨rfl,rfl⟩;clear hHeld;go_wp2_with fail;refine hK.out _ _ (SF.out _ hbq) (fun hHeld=>?_);clear hK;try simp only[tkS]
 refine oneH 3 (fun K hK=>?_);go_simp;refine(HKR.out w10).mono ?_;rintro e w11 ⟨rfl,rfl⟩;clear hHeld;go_wp2_with fail;refine hK.out _ _ (SF.out _ hbq) (fun hHeld=>?_);clear hK;try simp only[tkS]
 refine tkH 4 hHeld (v:=?_) ?_ ?_;rotate_left
 ·intro w h;(try dsimp only at h);go_simp;all_goals with_reducible rfl
 simp only[tkS];refine tkH 5 hHeld (v:=?_) ?_ ?_;rotate_left
 ·intro w h;(try dsimp only at h);go_simp;all_goals with_reducible rfl
 simp only[tkS];refine tkH 6 hHeld (v:=?_) ?_ ?_;rotate_left
 ·intro w h;(try dsimp only at h);go_simp;all_goals with_reducible rfl
 simp only[tkS];refine tkH 8 hHeld (v:=?_) ?_ ?_;rotate_left
 ·intro w h;(try dsimp only at h);go_simp;all_goals with_reducible rfl
 simp only[tkS];refine oneH 7 (fun K hK=>?_);go_simp;refine(HVA.out w10 hbq).mono ?_;rintro e w11 ⟨rfl,hb⟩;have hbq:=zem hbq hb;clear hHeld hb;go_wp2_with fail;refine hK.out _ _ (SF.out _ hbq) (fun hHeld=>?_);clear hK;try simp only[tkS]
 refine oneH 9 (fun K hK=>?_);go_simp;refine(HVR.out w11 hbq).mono ?_;rintro e w12 ⟨⟨b,rfl,hbv⟩,hb⟩;obtain rfl:=HVS.out b hbv;have hbq:=zem hbq hb;clear hHeld hb hbv;go_wp2_with fail;refine hK.out _ _ (SF.out _ hbq) (fun hHeld=>?_);clear hK;try simp only[tkS]
 refine tkH 10 hHeld (v:=?_) ?_ ?_;rotate_left
 ·intro w h;(try dsimp only at h);go_simp;all_goals with_reducible rfl
 simp only[tkS];refine tkH 11 hHeld (v:=?_) ?_ ?_;rotate_left
 ·intro w h;(try dsimp only at h);go_simp;all_goals with_reducible rfl
 simp only[tkS];refine tkH 12 hHeld (v:=?_) ?_ ?_;rotate_left
 ·intro w h;(try dsimp only at h);go_simp;all_goals with_reducible rfl
 simp only[tkS];refine tkH 13 hHeld (v:=?_) ?_ ?_;rotate_left
 ·intro w h;(try dsimp only at h);go_simp;all_goals with_reducible rfl
 simp only[tkS];refine tkH 14 hHeld (v:=?_) ?_ ?_;rotate_left
 ·intro w h;(try dsimp only at h);go_simp;all_goals with_reducible rfl
 simp only[tkS];refine oneH 15 (fun K hK=>?_);go_simp;refine(HAB.out w12 hbq).mono ?_;rintro e w13 ⟨rfl,hb⟩;have hbq:=zem hbq hb;clear hHeld hb;go_wp2_with fail;refine hK.out _ _ (SF.out _ hbq) (fun hHeld=>?_);clear hK;try simp only[tkS]
 refine tkH 16 hHeld (v:=?_) ?_ ?_;rotate_left
 ·intro w h;(try dsimp only at h);go_simp;all_goals with_reducible rfl
 simp only[tkS];refine tkH 17 hHeld (v:=?_) ?_ ?_;rotate_left
 ·intro w h;(try dsimp only at h);go_simp;all_goals with_reducible rfl
 simp only[tkS];refine tkH 18 hHeld (v:=?_) ?_ ?_;rotate_left
 ·intro w h;(try dsimp only at h);go_simp;all_goals with_reducible rfl
 simp only[tkS];refine tkH 19 hHeld (v:=?_) ?_ ?_;rotate_left
 ·intro w h;(try dsimp only at h);go_simp;all_goals with_reducible rfl
 simp only[tkS];refine tkH 20 hHeld (v:=?_) ?_ ?_;rotate_left
 ·intro w h;(try dsimp only at h);go_simp;all_goals with_reducible rfl
 simp only[tkS];refine tkH 21 hHeld (v:=?_) ?_ ?_;rotate_left
 ·intro w h;(try dsimp only at h);go_simp;all_goals with_reducible rfl
 simp only[tkS];refine tkH 22 hHeld (v:=?_) ?_ ?_;rotate_left
 ·intro w h;(try dsimp only at h);go_simp;all_goals with_reducible rfl
 simp only[tkS];refine tkH 23 hHeld (v:=?_) ?_ ?_;rotate_left
 ·intro w h;(try dsimp only at h);go_simp;all_goals with_reducible rfl
 simp only[tkS];refine tkH 24 hHeld (v:=?_) ?_ ?_;rotate_left
 ·intro w h;(try dsimp only at h);go_simp;all_goals with_reducible rfl
 simp only[tkS];refine tkH 26 hHeld (v:=?_) ?_ ?_;rotate_left
 ·intro w h;(try dsimp only at h);go_simp;all_goals with_reducible rfl
 simp only[tkS];refine tkH 27 hHeld (v:=?_) ?_ ?_;rotate_left
 ·intro w h;(try dsimp only at h);go_simp;all_goals with_reducible rfl
 simp only[tkS];refine oneH 25 (fun K hK=>?_);go_simp;refine(HTU.out w13 hbq).mono ?_;rintro e w14 ⟨rfl,hb⟩;have hbq:=zem hbq hb;clear hHeld hb;go_wp2_with fail;refine hK.out _ _ (SF.out _ hbq) (fun hHeld=>?_);clear hK;try simp only[tkS]
 refine oneH 28 (fun K hK=>?_);go_simp;refine(HUR.out w14 hbq).mono ?_;rintro e w15 ⟨rfl,hb⟩;have hbq:=zem hbq hb;clear hHeld hb;go_wp2_with fail;refine hK.out _ _ (SF.out _ hbq) (fun hHeld=>?_);clear hK;try simp only[tkS]
 refine tkH 29 hHeld (v:=?_) ?_ ?_;rotate_left
 ·intro w h;(try dsimp only at h);go_simp;all_goals with_reducible rfl
 simp only[tkS];refine tkH 30 hHeld (v:=?_) ?_ ?_;rotate_left
 ·intro w h;(try dsimp only at h);go_simp;all_goals with_reducible rfl
 simp only[tkS];refine tkH 31 hHeld (v:=?_) ?_ ?_;rotate_left
 ·intro w h;(try dsimp only at h);go_simp;all_goals with_reducible rfl
 simp only[tkS];refine wpAnyH_done (by kernel_rfl) ?_ _;clear hHeld;go_wp2_with fail;go_ret;exact⟨rfl,zem HB9.out hbq⟩
end Go.Proofs.YtbiadennhnokhaaGreatDoor
