import Derived.Test.YtbiadennhnokhaaGreatDoorZ00
import Derived.Test.YtbiadennhnokhaaGreatDoorZ30
import Derived.Test.YtbiadennhnokhaaGreatDoorZ39
set_option maxRecDepth 100000
set_option maxHeartbeats 16000000
namespace Go.Proofs.YtbiadennhnokhaaGreatDoor
open Go.RowKit
set_option linter.unusedSimpArgs false
theorem zlW (t:Tr) (p:TP) (w:World) (ht:TrM w t p) (h1:t.dt.length≤100000) (h2:t.vn.length≤100000) (h3:t.cm.length≤100000):
 Calls Tryz.prog 60 #[p.v t] w fun e w'=>e=.returned (.bool (zqM t.dt&&(zqM t.vn&&zqM t.cm)))∧Below w.heap.size w w':=by
 obtain⟨R,hR⟩:∃R,R=(zqM t.dt&&(zqM t.vn&&zqM t.cm)):=⟨_,rfl⟩;rw[←hR];have HRR:=lhd hR;obtain⟨a1,k1,a2,k2,a3,k3,a4,k4,e,-⟩:=ht.open;have HX1:=lhd (Bx.new w (boxT t a1 a2 a3 a4 k1 k2 k3 k4) 27);have HB1:=lhd (za9 w (boxT t a1 a2 a3 a4 k1 k2 k3 k4) 27);have HD:=lhd (fun W=>zlB t.dt W h1);have HV:=lhd (fun W=>zlB t.vn W h2);have HC:=lhd (fun W=>zlB t.cm W h3);rw[e];clear ht e hR;go_enter Tryz.func60,Tryz.ntmps60;go_upto_region 1 with fail;generalize w.alloc (.cells (boxT t a1 a2 a3 a4 k1 k2 k3 k4) 27)=w1 at*;have q1:=HX1.out.nine.2.1;cases hd:zqM t.dt
 ·rw[hd]at HD;have HR:=lhd (show false=R by rw[HRR.out,hd];rfl);go_wp2_with fail;refine(HD.out _).mono ?_;rintro e w2 ⟨rfl,hb2⟩;have HB2:=lhd (zem HB1.out hb2);clear hb2 q1;go_wp2_with fail;go_ret;exact⟨zli HR.out,HB2.out⟩
 rw[hd]at HD;go_wp2_with fail;refine(HD.out _).mono ?_;rintro e w2 ⟨rfl,hb2⟩;have HB2:=lhd (zem HB1.out hb2);have HX2:=lhd (HX1.out.step hb2);clear hb2 q1;have q2:=HX2.out.nine.2.2.1;cases hv:zqM t.vn
 ·rw[hv]at HV;have HR:=lhd (show false=R by rw[HRR.out,hd,hv];rfl);go_wp2_with fail;refine(HV.out _).mono ?_;rintro e w3 ⟨rfl,hb3⟩;have HB3:=lhd (zem HB2.out hb3);clear hb3 q2;go_wp2_with fail;go_ret;exact⟨zli HR.out,HB3.out⟩
 rw[hv]at HV;have HR:=lhd (show zqM t.cm=R by rw[HRR.out,hd,hv];rfl);go_wp2_with fail;refine(HV.out _).mono ?_;rintro e w3 ⟨rfl,hb3⟩;have HB3:=lhd (zem HB2.out hb3);have HX3:=lhd (HX2.out.step hb3);clear hb3 q2;have q3:=HX3.out.nine.2.2.2.1;go_wp2_with fail;refine(HC.out _).mono ?_;rintro e w4 ⟨rfl,hb4⟩;have HB4:=lhd (zem HB3.out hb4);clear hb4 q3;go_wp2_with fail;go_ret;exact⟨zli HR.out,HB4.out⟩
def fit1 (s:Sg) (v:Vr):Int:=if s.1≠zgL v.ty∨(v.rg=true∧s.1≠0)then 7 else if v.rg=true∧s.2.1≠zqJ v.mb v.lb then 8 else 0
theorem zey (G:List Sg) (v:Vr):fitE G v=fit1 (sgI G v.sg) v:=rfl
theorem zlI (v:Vr) (s:Sg) (u:Value) (w:World):Calls Tryz.prog 62 #[vrV v,.agg #[.int .i64 s.1,.int .i64 s.2.1,u]] w fun e w'=>e=.returned (.int .i64 (fit1 s v))∧Below w.heap.size w w':=by
 obtain⟨R,hR⟩:∃R,R=fit1 s v:=⟨_,rfl⟩;rw[←hR];unfold fit1 at hR;obtain⟨kd,wd,cl⟩:=s;obtain⟨nm,ty,sc,sg,rg,mb,lb⟩:=v;dsimp only at*;have hb4:Below w.heap.size w (w.alloc (.cells #[.string (bsB nm),.int .i64 ty,.int .i64 sc,.int .i64 sg,.bool rg,.int .i64 mb,.int .i64 lb] 42)):=(Below.refl _ _).alloc (Nat.le_refl _) _;have X4:=zal.fresh w #[.string (bsB nm),.int .i64 ty,.int .i64 sc,.int .i64 sg,.bool rg,.int .i64 mb,.int .i64 lb] 42;have hz4:w.heap.size<(w.alloc (.cells #[.string (bsB nm),.int .i64 ty,.int .i64 sc,.int .i64 sg,.bool rg,.int .i64 mb,.int .i64 lb] 42)).heap.size:=by simp
 have HKD:=lhd (fun W=>zlt ty W);have HWI:=lhd (fun W=>zlC mb lb W);generalize zgL ty=kf at*;generalize zqJ mb lb=wf at*;have HX4:=lhd X4;have HB4:=lhd hb4;have HZ4:=lhd hz4;have HSZ:=lhd (show(w.alloc (.cells #[.string (bsB nm),.int .i64 ty,.int .i64 sc,.int .i64 sg,.bool rg,.int .i64 mb,.int .i64 lb] 42)).heap.size=w.heap.size+1 by simp);clear X4 hb4 hz4;go_enter Tryz.func62,Tryz.ntmps62;go_upto_region 1 with fail;generalize w.alloc (.cells #[.string (bsB nm),.int .i64 ty,.int .i64 sc,.int .i64 sg,.bool rg,.int .i64 mb,.int .i64 lb] 42)=w4 at*;have X5:=zal.fresh w4 #[.int .i64 kd,.int .i64 wd,u] 45;have hb5:Below w4.heap.size w4 (w4.alloc (.cells #[.int .i64 kd,.int .i64 wd,u] 45)):=(Below.refl _ _).alloc (Nat.le_refl _) _;generalize w4.alloc (.cells #[.int .i64 kd,.int .i64 wd,u] 45)=w5 at*;have X4:=HX4.out.below hb5 HZ4.out;have HB5:=lhd (zem HB4.out hb5);have r1:=X4.cell (j:=1) rfl;have r4:=X4.cell (j:=4) rfl;have r5:=X4.cell (j:=5) rfl;have r6:=X4.cell (j:=6) rfl;rw[HSZ.out]at X5;have v0:=X5.cell (j:=0) rfl;have v1:=X5.cell (j:=1) rfl;clear X4 X5 hb5 HX4 HB4 HZ4;by_cases hA:kd=kf
 ·subst hA;cases rg with
  |false=>
   simp at hR;have HR:=lhd hR;clear hR;go_quiet ((go_at_call 17;exact Calls.quiet_of_same ((HKD.out _).mono (by rintro e w ⟨rfl,rfl⟩;exact⟨rfl,rfl⟩))))
   have HB6:=lhd (za5 HB5.out nq);have q4:=(World.cell?_drewN w5 nq _).trans r4;have q5:=(World.cell?_drewN w5 nq _).trans r5;have q6:=(World.cell?_drewN w5 nq _).trans r6;have y1:=(World.cell?_drewN w5 nq _).trans v1;generalize w5.drewN nq=w6 at*;clear r1 r4 r5 r6 v0 v1;go_wp2_with fail;go_quiet (fail);clear q4 q5 q6 y1;have HB7:=lhd (za5 HB6.out nq);go_wp2_with fail;go_ret;exact⟨zlj HR.out.symm,HB7.out⟩
  |true=>
   by_cases hk0:kd=0
   ·subst hk0;by_cases hw:wd=wf
    ·subst hw;simp at hR;have HR:=lhd hR;clear hR;go_quiet ((go_at_call 17;exact Calls.quiet_of_same ((HKD.out _).mono (by rintro e w ⟨rfl,rfl⟩;exact⟨rfl,rfl⟩))))
     have HB6:=lhd (za5 HB5.out nq);have q4:=(World.cell?_drewN w5 nq _).trans r4;have q5:=(World.cell?_drewN w5 nq _).trans r5;have q6:=(World.cell?_drewN w5 nq _).trans r6;have y1:=(World.cell?_drewN w5 nq _).trans v1;generalize w5.drewN nq=w6 at*;clear r1 r4 r5 r6 v0 v1;go_wp2_with fail;go_quiet ((go_at_call 128;exact Calls.quiet_of_same ((HWI.out _).mono (by rintro e w ⟨rfl,rfl⟩;exact⟨rfl,rfl⟩))))
     clear q4 q5 q6 y1;have HB7:=lhd (za5 HB6.out nq);go_wp2_with fail;go_ret;exact⟨zlj HR.out.symm,HB7.out⟩
    ·have bw:(wd==wf)=false:=by simpa using hw
     simp[hw]at hR;have HR:=lhd hR;clear hR;go_quiet ((go_at_call 17;exact Calls.quiet_of_same ((HKD.out _).mono (by rintro e w ⟨rfl,rfl⟩;exact⟨rfl,rfl⟩))))
     have HB6:=lhd (za5 HB5.out nq);have q4:=(World.cell?_drewN w5 nq _).trans r4;have q5:=(World.cell?_drewN w5 nq _).trans r5;have q6:=(World.cell?_drewN w5 nq _).trans r6;have y1:=(World.cell?_drewN w5 nq _).trans v1;generalize w5.drewN nq=w6 at*;clear r1 r4 r5 r6 v0 v1;go_wp2_with fail;go_quiet ((go_at_call 128;exact Calls.quiet_of_same ((HWI.out _).mono (by rintro e w ⟨rfl,rfl⟩;exact⟨rfl,rfl⟩))))
     clear q4 q5 q6 y1;have HB7:=lhd (za5 HB6.out nq);go_wp2_with fail;go_ret;exact⟨zlj HR.out.symm,HB7.out⟩
   ·have bk0:(kd==0)=false:=by simpa using hk0
    simp[hk0]at hR;have HR:=lhd hR;clear hR;go_quiet ((go_at_call 17;exact Calls.quiet_of_same ((HKD.out _).mono (by rintro e w ⟨rfl,rfl⟩;exact⟨rfl,rfl⟩))))
    have HB6:=lhd (za5 HB5.out nq);clear r1 r4 r5 r6 v0 v1;go_wp2_with fail;go_ret;exact⟨zlj HR.out.symm,HB6.out⟩
 ·have bA:(kd==kf)=false:=by simpa using hA
  simp[hA]at hR;have HR:=lhd hR;clear hR;go_quiet ((go_at_call 17;exact Calls.quiet_of_same ((HKD.out _).mono (by rintro e w ⟨rfl,rfl⟩;exact⟨rfl,rfl⟩))))
  have HB6:=lhd (za5 HB5.out nq);clear r1 r4 r5 r6 v0 v1;go_wp2_with fail;go_ret;exact⟨zlj HR.out.symm,HB6.out⟩
theorem zeM {V:List Vr} {k:Nat} (h:k<V.length):(V.take (k+1)).foldl (fun a v=>max a (v.sg+1)) (0:Int)=max ((V.take k).foldl (fun a v=>max a (v.sg+1)) (0:Int)) (V[k].sg+1):=by
 rw[List.take_succ_eq_append_getElem h,List.foldl_append];rfl
theorem zlA (t:Tr) (p:TP) (w:World) (ht:TrM w t p) (hv:VF t):
 Calls Tryz.prog 19 #[p.v t] w fun e w'=>(∃b,e=.returned (.bool b)∧(b=true↔ValidR t))∧Below w.heap.size w w':=by
 obtain⟨a1,k1,a2,k2,a3,k3,a4,k4,e,q1,q2,q3,q4,-⟩:=ht.open;have hml:p.M.length=t.G.length:=ht.len;obtain⟨H,hH⟩:∃H:Prop,H=ValidR t:=⟨_,rfl⟩;rw[←hH];have HH:=lhd hH;have HSC:=lhd (fun W (hW:Below w.heap.size w W)=>(show SlR W (.slice a1 t.S.length k1) t.S.length (scs t.S)by rw[←q1];exact ht.s.below hW));have HVR:=lhd (fun W (hW:Below w.heap.size w W)=>(show SlR W (.slice a2 t.V.length k2) t.V.length (vrs t.V)by rw[←q2];exact ht.v.below hW));have HSG:=lhd (fun W (hW:Below w.heap.size w W)=>(show Sigs W (.slice a3 p.M.length k3) p.M by rw[←q3];exact ht.g.below hW));have HGP:=lhd (fun W (hW:Below w.heap.size w W)=>(show SlR W (.slice a4 t.P.length k4) t.P.length (gps t.P)by rw[←q4];exact ht.q.below hW));have HML:=lhd hml;have HMG:=lhd ht.m;have HVF:=lhd hv;have HWD:=lhd (fun W (hW:Below w.heap.size w W)=>zlW t p W (ht.below hW) hv.fb.tx.1 hv.fb.tx.2.1 hv.fb.tx.2.2);have HX1:=lhd (Bx.new w (boxT t a1 a2 a3 a4 k1 k2 k3 k4) 27);have HB1:=lhd (za9 w (boxT t a1 a2 a3 a4 k1 k2 k3 k4) 27);have HSCL:=lhd (fun W=>zly t.sc W);rw[e]at HWD⊢;clear ht e q1 q2 q3 q4 hml hH hv;go_enter Tryz.func19,Tryz.ntmps19;go_upto_region 1 with fail;generalize w.alloc (.cells (boxT t a1 a2 a3 a4 k1 k2 k3 k4) 27)=w1 at*;obtain⟨p0,p1,p2,p3,p4,p5,p6,p7,p8⟩:=(HX1).out.nine;cases hsc:(decide (-15≤t.sc)&&decide (t.sc≤2))
 ·have HNO:=lhd (show ¬H by
   rw[HH.out];intro h;have:=h.sc;rw[Bool.and_eq_false_iff,decide_eq_false_iff_not,decide_eq_false_iff_not]at hsc;omega)
  rw[hsc]at HSCL;clear hsc;go_wp2_with fail;refine(HSCL.out _).mono ?_;rintro e w2 ⟨rfl,rfl⟩;go_wp2_with fail;go_ret;exact⟨⟨_,rfl,by simp only[Bool.false_eq_true,false_iff];exact HNO.out⟩,(HB1).out⟩
 have HOsc:=lhd (show ¬(t.sc< -15∨2<t.sc)by
  rw[Bool.and_eq_true,decide_eq_true_iff,decide_eq_true_iff]at hsc;omega)
 rw[hsc]at HSCL;clear hsc;have hwd:=HWD.out w1 HB1.out;cases hwo:(zqM t.dt&&(zqM t.vn&&zqM t.cm))
 ·have HNO:=lhd (show ¬H by
   rw[HH.out];intro h;have:=h.wd;rw[Bool.and_assoc,hwo]at this;cases this)
  rw[hwo]at hwd;have HW1:=lhd hwd;clear hwo hwd;go_wp2_with fail;refine(HSCL.out _).mono ?_;rintro e w2 ⟨rfl,rfl⟩;go_wp2_with fail;refine(HW1.out).mono ?_;rintro e w3 ⟨rfl,hb⟩;have HB3:=lhd (zem (HB1).out hb);have HX3:=lhd ((HX1).out.step hb);clear hb;clear p0 p1 p2 p3 p4 p5 p6 p7 p8;obtain⟨p0,p1,p2,p3,p4,p5,p6,p7,p8⟩:=(HX3).out.nine;go_wp2_with fail;go_ret;exact⟨⟨_,rfl,by simp only[Bool.false_eq_true,false_iff];exact HNO.out⟩,(HB3).out⟩
 have HOwd:=lhd (show(zqM t.dt&&zqM t.vn&&zqM t.cm)=true by rw[Bool.and_assoc];exact hwo);rw[hwo]at hwd;have HW1:=lhd hwd;clear hwo hwd HWD;go_wp2_with fail;refine(HSCL.out _).mono ?_;rintro e w2 ⟨rfl,rfl⟩;go_wp2_with fail;refine(HW1.out).mono ?_;rintro e w3 ⟨rfl,hb⟩;have HB3:=lhd (zem (HB1).out hb);have HX3:=lhd ((HX1).out.step hb);clear hb;clear p0 p1 p2 p3 p4 p5 p6 p7 p8;obtain⟨p0,p1,p2,p3,p4,p5,p6,p7,p8⟩:=(HX3).out.nine;clear HW1 HSCL HX1 HB1;go_wp2_with fail;refine(zls _ _ t.S t.V w3 (HSC.out w3 HB3.out) (HVR.out w3 HB3.out) HVF.out.fb.n.1 HVF.out.fb.n.2).mono ?_;rintro e w4 ⟨⟨bh,rfl,hbh⟩,hb⟩;have HB4:=lhd (zem HB3.out hb);have HX4:=lhd (HX3.out.step hb);clear hb;clear p0 p1 p2 p3 p4 p5 p6 p7 p8;obtain⟨p0,p1,p2,p3,p4,p5,p6,p7,p8⟩:=(HX4).out.nine;clear HX3 HB3;cases bh
 ·have HNO:=lhd (show ¬H by
   rw[HH.out];intro h;have:=hbh.2 h.hr;cases this)
  clear hbh;go_wp2_with fail;go_ret;exact⟨⟨_,rfl,by simp only[Bool.false_eq_true,false_iff];exact HNO.out⟩,(HB4).out⟩
 have HOhr:=lhd (hbh.1 rfl);clear hbh
 have hdl:zdu t.S t.V=true:=by
  obtain⟨m,h⟩:=HOhr.out;exact(zce.1 h.c).d
 have HDV:=lhd (zdB hdl);clear hdl;by_cases c1:64<t.G.length
 ·have HNO:=lhd (show ¬H by rw[HH.out];intro h;have:=h.n;omega);have c1b:(64:Int)<(t.G.length:Int):=by omega
  go_wp2_with fail;go_ret;exact⟨⟨_,rfl,by simp only[Bool.false_eq_true,false_iff];exact HNO.out⟩,(HB4).out⟩
 have c1b:¬(64:Int)<(t.G.length:Int):=by omega
 by_cases c2:t.en<0
 ·have HNO:=lhd (show ¬H by rw[HH.out];intro h;have:=h.lo;omega);go_wp2_with fail;go_ret;exact⟨⟨_,rfl,by simp only[Bool.false_eq_true,false_iff];exact HNO.out⟩,(HB4).out⟩
 by_cases c3:1099511627776<t.en
 ·have HNO:=lhd (show ¬H by rw[HH.out];intro h;have:=h.hi;omega);go_wp2_with fail;go_ret;exact⟨⟨_,rfl,by simp only[Bool.false_eq_true,false_iff];exact HNO.out⟩,(HB4).out⟩
 by_cases c4:16<t.P.length
 ·have HNO:=lhd (show ¬H by rw[HH.out];intro h;have:=h.p;omega);have c4b:(16:Int)<(t.P.length:Int):=by omega
  go_wp2_with fail;go_ret;exact⟨⟨_,rfl,by simp only[Bool.false_eq_true,false_iff];exact HNO.out⟩,(HB4).out⟩
 have c4b:¬(16:Int)<(t.P.length:Int):=by omega
 have hvl:=HVF.out.fb.l.2;go_wp2_with fail;clear p0 p1 p2 p3 p4 p5 p6 p7 p8;clear c1b c4b;go_loopw [3,4] (fun c i wr=>∃k:Nat,k≤t.V.length∧i=.int .i64 k∧c=.int .i64 ((t.V.take k).foldl (fun a v=>max a (v.sg+1)) (0:Int))∧(∀v∈t.V.take k,v.sg<(t.G.length:Int)∧fitE t.G v=0)∧Below w4.heap.size w4 wr) (fun _ i _=>t.V.length-(intOf i).toNat)
 case atStart=>exact⟨0,Nat.zero_le _,rfl,rfl,zoW,Below.refl _ _⟩
 case round=>
  obtain⟨k,hk,rfl,rfl,hfa,hb⟩:=hrel;have HFA:=lhd hfa;have HB:=lhd (zem HB4.out hb);have HX:=lhd (HX4.out.step hb);have HB4r:=lhd hb;clear hb hfa;obtain⟨p0,p1,p2,p3,p4,p5,p6,p7,p8⟩:=(HX).out.nine;by_cases hlt:k<t.V.length
  ·have hwk:=zhO k (by omega);have hx:=HVR.out wr HB.out;obtain⟨b,o,rfl,hcell⟩:=hx.vrs hlt;have d0:wr.cell? ⟨b,o+k*7,none⟩=some (.string (bsB t.V[k].nm)):=hcell 0 _ rfl;have d1:wr.cell? ⟨b,o+k*7+1,none⟩=some (.int .i64 t.V[k].ty):=hcell 1 _ rfl;have d2:wr.cell? ⟨b,o+k*7+2,none⟩=some (.int .i64 t.V[k].sc):=hcell 2 _ rfl;have d3:wr.cell? ⟨b,o+k*7+3,none⟩=some (.int .i64 t.V[k].sg):=hcell 3 _ rfl;have d4:wr.cell? ⟨b,o+k*7+4,none⟩=some (.bool t.V[k].rg):=hcell 4 _ rfl;have d5:wr.cell? ⟨b,o+k*7+5,none⟩=some (.int .i64 t.V[k].mb):=hcell 5 _ rfl;have d6:wr.cell? ⟨b,o+k*7+6,none⟩=some (.int .i64 t.V[k].lb):=hcell 6 _ rfl;have hsg0:0≤t.V[k].sg:=(HDV.out _ (List.getElem_mem hlt)).2.2;have HFT:=lhd (zeM hlt);have HBAD:=lhd (fun(h:¬(t.V[k].sg<(t.G.length:Int)∧fitE t.G t.V[k]=0))=>show ¬H by rw[HH.out];intro h9;exact h (h9.f _ (List.getElem_mem hlt)));have HGOO:=lhd (fun(h:t.V[k].sg<(t.G.length:Int)∧fitE t.G t.V[k]=0)=>zoV (P:=fun v=>v.sg<(t.G.length:Int)∧fitE t.G v=0) hlt HFA.out h);clear hcell hx HFA;generalize (t.V.take k).foldl (fun a v=>max a (v.sg+1)) (0:Int)=fo at*;generalize t.V[k]=y at*;obtain⟨nm,ty,sc,sg,rg,mb,lb⟩:=y;dsimp only at d0 d1 d2 d3 d4 d5 d6 hsg0 HFT HBAD HGOO;obtain⟨m,rfl⟩:∃m:Nat,sg=(m:Int):=⟨sg.toNat,by omega⟩;have hb5:Below wr.heap.size wr (wr.alloc (.cells #[.string (bsB nm),.int .i64 ty,.int .i64 sc,.int .i64 (m:Int),.bool rg,.int .i64 mb,.int .i64 lb] 42)):=(Below.refl _ _).alloc (Nat.le_refl _) _;have Y:=zal.fresh wr #[.string (bsB nm),.int .i64 ty,.int .i64 sc,.int .i64 (m:Int),.bool rg,.int .i64 mb,.int .i64 lb] 42;have HB5:=lhd (zem HB4r.out hb5);have HX5:=lhd (HX.out.step hb5);clear hb5 HB4r HX;go_upto_region 8 with fail;generalize wr.heap.size=g at*;generalize wr.alloc (.cells #[.string (bsB nm),.int .i64 ty,.int .i64 sc,.int .i64 (m:Int),.bool rg,.int .i64 mb,.int .i64 lb] 42)=w5 at*;clear p0 p1 p2 p3 p4 p5 p6 p7 p8;obtain⟨p0,p1,p2,p3,p4,p5,p6,p7,p8⟩:=(HX5).out.nine;clear d0 d1 d2 d3 d4 d5 d6;have y0:=Y.cell (j:=0) rfl;have y1:=Y.cell (j:=1) rfl;have y2:=Y.cell (j:=2) rfl;have y3:=Y.cell (j:=3) rfl;have y4:=Y.cell (j:=4) rfl;have y5:=Y.cell (j:=5) rfl;have y6:=Y.cell (j:=6) rfl;clear Y;by_cases hmg:m<t.G.length
   rotate_left
   ·have HNO:=lhd (HBAD.out (fun h=>hmg (by have:=h.1;omega)));have hgb:decide ((t.G.length:Int)≤(m:Int))=true:=by rw[decide_eq_true_iff];omega
    have hgn:t.G.length≤m:=by omega
    clear HBAD HGOO HFT;go_quiet (fail);have HB9:=lhd (za5 (zem HB4.out HB5.out) nq);go_wp2_with fail;go_ret;exact⟨⟨_,rfl,by simp only[Bool.false_eq_true,false_iff];exact HNO.out⟩,(HB9).out⟩
   ·have hmm:m<p.M.length:=by rw[HML.out];exact hmg
    have HSW:=lhd (zem HB4.out HB5.out);obtain⟨b2,o2,rfl,z0,z1,z2,hsl⟩:=(HSG.out w5 HSW.out).at hmm;obtain⟨sa,scap,hsa,-,-⟩:=hsl.shape;rw[hsa]at z2
    have HFE:=lhd (show fitE t.G ⟨nm,ty,sc,(m:Int),rg,mb,lb⟩=fit1 p.M[m].1 ⟨nm,ty,sc,(m:Int),rg,mb,lb⟩by
     rw[zey,←HMG.out];unfold sgI;simp[List.getD,hmm])
    rw[HFE.out]at HBAD HGOO;have HFI:=lhd (fun W=>zlI ⟨nm,ty,sc,(m:Int),rg,mb,lb⟩ p.M[m].1 (.slice sa p.M[m].1.2.2.length scap) W);generalize p.M[m].1=sx at*;obtain⟨sk,sn,sl⟩:=sx;dsimp only at z0 z1 z2 HFI;have hgb:decide ((t.G.length:Int)≤(m:Int))=false:=by rw[decide_eq_false_iff_not];omega
    have hgi:(m:Int)<(t.G.length:Int):=by omega
    have hgn:¬t.G.length≤m:=by omega
    have hwm:IntKind.i64.wrap ((m:Int)+1)=(m:Int)+1:=IntWalk.i64_in _ (by omega);clear hsl hsa HFE;generalize fit1 (sk,sn,sl) ⟨nm,ty,sc,(m:Int),rg,mb,lb⟩=fx at*;by_cases hfx:fx=0
    ·have HN:=lhd (HGOO.out ⟨hgi,hfx⟩);subst hfx;clear HBAD HGOO;have SF:=lhd (fun W (hW:Below w5.heap.size w5 W)=>And.intro ((hW.cell (zbT p6)).trans p6) (And.intro ((hW.cell (zbT y0)).trans y0) (And.intro ((hW.cell (zbT y1)).trans y1) (And.intro ((hW.cell (zbT y2)).trans y2) (And.intro ((hW.cell (zbT y3)).trans y3) (And.intro ((hW.cell (zbT y4)).trans y4) (And.intro ((hW.cell (zbT y5)).trans y5) (And.intro ((hW.cell (zbT y6)).trans y6) (And.intro ((hW.cell (zbT z0)).trans z0) (And.intro ((hW.cell (zbT z1)).trans z1) ((hW.cell (zbT z2)).trans z2)))))))))));go_upto_region 8 with fail;refine wp_region_held_drew (S:=(fun w'=>w'.cell? ⟨w.heap.size,6,none⟩=some (.slice (some ⟨b2,o2,none⟩) t.G.length k3)∧w'.cell? ⟨g,0,none⟩=some (.string (bsB nm))∧w'.cell? ⟨g,1,none⟩=some (.int .i64 ty)∧w'.cell? ⟨g,2,none⟩=some (.int .i64 sc)∧w'.cell? ⟨g,3,none⟩=some (.int .i64 (m:Int))∧w'.cell? ⟨g,4,none⟩=some (.bool rg)∧w'.cell? ⟨g,5,none⟩=some (.int .i64 mb)∧w'.cell? ⟨g,6,none⟩=some (.int .i64 lb)∧w'.cell? ⟨b2,o2+m*3,none⟩=some (.int .i64 sk)∧w'.cell? ⟨b2,o2+m*3+1,none⟩=some (.int .i64 sn)∧w'.cell? ⟨b2,o2+m*3+2,none⟩=some (.slice sa sl.length scap))) (by kernel_rfl) (SF.out _ (Below.refl _ _).drew) (fun hHeld=>?_);clear y0 y1 y2 y3 y4 y5 y6 z0 z1 z2;clear p0 p1 p2 p3 p4 p5 p6 p7 p8;have hbq:Below w5.heap.size w5 w5.drew:=(Below.refl _ _).drew;generalize w5.drew=w6 at*;refine tkH 0 hHeld (v:=?_) ?_ ?_;rotate_left
     ·intro w h;(try dsimp only at h);go_simp;all_goals with_reducible rfl
     simp only[tkS];refine tkH 1 hHeld (v:=?_) ?_ ?_;rotate_left
     ·intro w h;(try dsimp only at h);go_simp;all_goals with_reducible rfl
     simp only[tkS];refine tkH 2 hHeld (v:=?_) ?_ ?_;rotate_left
     ·intro w h;(try dsimp only at h);go_simp;all_goals with_reducible rfl
     simp only[tkS];refine tkH 3 hHeld (v:=?_) ?_ ?_;rotate_left
     ·intro w h;(try dsimp only at h);go_simp;all_goals with_reducible rfl
     simp only[tkS];refine tkH 4 hHeld (v:=?_) ?_ ?_;rotate_left
     ·intro w h;(try dsimp only at h);go_simp;all_goals with_reducible rfl
     simp only[tkS];refine wpAnyH_take (i:=5) (v:=.bool false) rfl (by kernel_rfl) (by kernel_rfl) (by kernel_rfl) (fun _ _ _ h=>h) (Or.inl ⟨by rfl,?_⟩) hHeld ?_
     ·intro w hSw;(try dsimp only at hSw)
      go_simp;all_goals with_reducible rfl
     simp only[tkS];refine wpAnyH_take (i:=6) (v:=.bool false) rfl (by kernel_rfl) (by kernel_rfl) (by kernel_rfl) (fun _ _ _ h=>h) (Or.inl ⟨by rfl,?_⟩) hHeld ?_
     ·intro w hSw;(try dsimp only at hSw)
      go_simp;all_goals with_reducible rfl
     simp only[tkS];refine tkH 7 hHeld (v:=?_) ?_ ?_;rotate_left
     ·intro w h;(try dsimp only at h);go_simp;all_goals with_reducible rfl
     simp only[tkS];refine tkH 8 hHeld (v:=?_) ?_ ?_;rotate_left
     ·intro w h;(try dsimp only at h);go_simp;all_goals with_reducible rfl
     simp only[tkS];refine tkH 9 hHeld (v:=?_) ?_ ?_;rotate_left
     ·intro w h;(try dsimp only at h);go_simp;all_goals with_reducible rfl
     simp only[tkS];refine tkH 10 hHeld (v:=?_) ?_ ?_;rotate_left
     ·intro w h;(try dsimp only at h);go_simp;all_goals with_reducible rfl
     simp only[tkS];refine tkH 11 hHeld (v:=?_) ?_ ?_;rotate_left
     ·intro w h;(try dsimp only at h);go_simp;all_goals with_reducible rfl
     simp only[tkS];refine tkH 12 hHeld (v:=?_) ?_ ?_;rotate_left
     ·intro w h;(try dsimp only at h);go_simp;all_goals with_reducible rfl
     simp only[tkS];refine tkH 13 hHeld (v:=?_) ?_ ?_;rotate_left
     ·intro w h;(try dsimp only at h);go_simp;all_goals with_reducible rfl
     simp only[tkS];refine oneH 14 (fun K hK=>?_);go_simp;refine(HFI.out w6).mono ?_;rintro e w7 ⟨rfl,hb9⟩;have hbq:=zem hbq hb9;clear hHeld hb9;go_wp2_with fail;refine hK.out _ _ (SF.out _ hbq) (fun hHeld=>?_);clear hK;try simp only[tkS]
     refine tkH 15 hHeld (v:=?_) ?_ ?_;rotate_left
     ·intro w h;(try dsimp only at h);go_simp;all_goals with_reducible rfl
     simp only[tkS];refine tkH 16 hHeld (v:=?_) ?_ ?_;rotate_left
     ·intro w h;(try dsimp only at h);go_simp;all_goals with_reducible rfl
     simp only[tkS];refine wpAnyH_done (by kernel_rfl) ?_ _;have HB7:=lhd (zem HB5.out hbq);clear hHeld;have y3:=SF.out w7 hbq;have y3:=y3.2.2.2.2.1;clear SF hbq;go_wp2_with fail;go_roundw;case rel=>exact⟨k+1,hlt,by go_num,by rw[HFT.out],HN.out,HB7.out⟩
     case measure=>simp[intOf];omega
    ·have HNO:=lhd (HBAD.out (fun h=>hfx h.2));have hfb:(fx==0)=false:=by rw[beq_eq_false_iff_ne];exact hfx
     clear HBAD HGOO hfx;have SF:=lhd (fun W (hW:Below w5.heap.size w5 W)=>And.intro ((hW.cell (zbT p6)).trans p6) (And.intro ((hW.cell (zbT y0)).trans y0) (And.intro ((hW.cell (zbT y1)).trans y1) (And.intro ((hW.cell (zbT y2)).trans y2) (And.intro ((hW.cell (zbT y3)).trans y3) (And.intro ((hW.cell (zbT y4)).trans y4) (And.intro ((hW.cell (zbT y5)).trans y5) (And.intro ((hW.cell (zbT y6)).trans y6) (And.intro ((hW.cell (zbT z0)).trans z0) (And.intro ((hW.cell (zbT z1)).trans z1) ((hW.cell (zbT z2)).trans z2)))))))))));go_upto_region 8 with fail;refine wp_region_held_drew (S:=(fun w'=>w'.cell? ⟨w.heap.size,6,none⟩=some (.slice (some ⟨b2,o2,none⟩) t.G.length k3)∧w'.cell? ⟨g,0,none⟩=some (.string (bsB nm))∧w'.cell? ⟨g,1,none⟩=some (.int .i64 ty)∧w'.cell? ⟨g,2,none⟩=some (.int .i64 sc)∧w'.cell? ⟨g,3,none⟩=some (.int .i64 (m:Int))∧w'.cell? ⟨g,4,none⟩=some (.bool rg)∧w'.cell? ⟨g,5,none⟩=some (.int .i64 mb)∧w'.cell? ⟨g,6,none⟩=some (.int .i64 lb)∧w'.cell? ⟨b2,o2+m*3,none⟩=some (.int .i64 sk)∧w'.cell? ⟨b2,o2+m*3+1,none⟩=some (.int .i64 sn)∧w'.cell? ⟨b2,o2+m*3+2,none⟩=some (.slice sa sl.length scap))) (by kernel_rfl) (SF.out _ (Below.refl _ _).drew) (fun hHeld=>?_);clear y0 y1 y2 y3 y4 y5 y6 z0 z1 z2;clear p0 p1 p2 p3 p4 p5 p6 p7 p8;have hbq:Below w5.heap.size w5 w5.drew:=(Below.refl _ _).drew;generalize w5.drew=w6 at*;refine tkH 0 hHeld (v:=?_) ?_ ?_;rotate_left
     ·intro w h;(try dsimp only at h);go_simp;all_goals with_reducible rfl
     simp only[tkS];refine tkH 1 hHeld (v:=?_) ?_ ?_;rotate_left
     ·intro w h;(try dsimp only at h);go_simp;all_goals with_reducible rfl
     simp only[tkS];refine tkH 2 hHeld (v:=?_) ?_ ?_;rotate_left
     ·intro w h;(try dsimp only at h);go_simp;all_goals with_reducible rfl
     simp only[tkS];refine tkH 3 hHeld (v:=?_) ?_ ?_;rotate_left
     ·intro w h;(try dsimp only at h);go_simp;all_goals with_reducible rfl
     simp only[tkS];refine tkH 4 hHeld (v:=?_) ?_ ?_;rotate_left
     ·intro w h;(try dsimp only at h);go_simp;all_goals with_reducible rfl
     simp only[tkS];refine wpAnyH_take (i:=5) (v:=.bool false) rfl (by kernel_rfl) (by kernel_rfl) (by kernel_rfl) (fun _ _ _ h=>h) (Or.inl ⟨by rfl,?_⟩) hHeld ?_
     ·intro w hSw;(try dsimp only at hSw)
      go_simp;all_goals with_reducible rfl
     simp only[tkS];refine wpAnyH_take (i:=6) (v:=.bool false) rfl (by kernel_rfl) (by kernel_rfl) (by kernel_rfl) (fun _ _ _ h=>h) (Or.inl ⟨by rfl,?_⟩) hHeld ?_
     ·intro w hSw;(try dsimp only at hSw)
      go_simp;all_goals with_reducible rfl
     simp only[tkS];refine tkH 7 hHeld (v:=?_) ?_ ?_;rotate_left
     ·intro w h;(try dsimp only at h);go_simp;all_goals with_reducible rfl
     simp only[tkS];refine tkH 8 hHeld (v:=?_) ?_ ?_;rotate_left
     ·intro w h;(try dsimp only at h);go_simp;all_goals with_reducible rfl
     simp only[tkS];refine tkH 9 hHeld (v:=?_) ?_ ?_;rotate_left
     ·intro w h;(try dsimp only at h);go_simp;all_goals with_reducible rfl
     simp only[tkS];refine tkH 10 hHeld (v:=?_) ?_ ?_;rotate_left
     ·intro w h;(try dsimp only at h);go_simp;all_goals with_reducible rfl
     simp only[tkS];refine tkH 11 hHeld (v:=?_) ?_ ?_;rotate_left
     ·intro w h;(try dsimp only at h);go_simp;all_goals with_reducible rfl
     simp only[tkS];refine tkH 12 hHeld (v:=?_) ?_ ?_;rotate_left
     ·intro w h;(try dsimp only at h);go_simp;all_goals with_reducible rfl
     simp only[tkS];refine tkH 13 hHeld (v:=?_) ?_ ?_;rotate_left
     ·intro w h;(try dsimp only at h);go_simp;all_goals with_reducible rfl
     simp only[tkS];refine oneH 14 (fun K hK=>?_);go_simp;refine(HFI.out w6).mono ?_;rintro e w7 ⟨rfl,hb9⟩;have hbq:=zem hbq hb9;clear hHeld hb9;go_wp2_with fail;refine hK.out _ _ (SF.out _ hbq) (fun hHeld=>?_);clear hK;try simp only[tkS]
     refine tkH 15 hHeld (v:=?_) ?_ ?_;rotate_left
     ·intro w h;(try dsimp only at h);go_simp;all_goals with_reducible rfl
     simp only[tkS];refine tkH 16 hHeld (v:=?_) ?_ ?_;rotate_left
     ·intro w h;(try dsimp only at h);go_simp;all_goals with_reducible rfl
     simp only[tkS];refine wpAnyH_done (by kernel_rfl) ?_ _;have HB7:=lhd (zem HB5.out hbq);clear hHeld;have HB9:=lhd (zem HB4.out HB7.out);go_wp2_with fail;go_ret;exact⟨⟨_,rfl,by simp only[Bool.false_eq_true,false_iff];exact HNO.out⟩,(HB9).out⟩
  ·obtain rfl:k=t.V.length:=by omega
   have HOF:=lhd (zoU HFA.out);rw[List.take_length];obtain⟨nmd,hnm⟩:∃x,t.V.foldl (fun a v=>max a (v.sg+1)) (0:Int)=x:=⟨_,rfl⟩;rw[hnm];have HNM:=lhd hnm;clear hnm HFA HB4r HX4 HB4 HDV hlt hk;go_wp2_with fail;clear p0 p1 p2 p3 p4 p5 p6 p7 p8;obtain⟨wa,hwa⟩:∃wa,wa=wr:=⟨_,rfl⟩;subst hwa;have HXa:=HX;have HBa:=HB;clear HX HB;go_loopw [6] (fun i wr=>∃k:Nat,k≤t.G.length∧i=.int .i64 k∧(∀s∈t.G.take k,sv s.1 s.2.1 s.2.2=true)∧Below wa.heap.size wa wr) (fun i _=>t.G.length-(intOf i).toNat)
   case atStart=>exact⟨0,Nat.zero_le _,rfl,zoW,Below.refl _ _⟩
   case round=>
    obtain⟨k,hk,rfl,hfa,hb⟩:=hrel;have HFA:=lhd hfa;have HBr:=lhd hb;have HX:=lhd (HXa.out.step hb);clear hb hfa;obtain⟨p0,p1,p2,p3,p4,p5,p6,p7,p8⟩:=(HX).out.nine;by_cases hlt:k<t.G.length
    ·have hwk:=zhO k (by omega);have hmm:k<p.M.length:=by rw[HML.out];exact hlt
     have HSW:=lhd (zem HBa.out HBr.out);obtain⟨b2,o2,rfl,z0,z1,z2,hsl⟩:=(HSG.out wr HSW.out).at hmm;obtain⟨sa,scap,hsa,-,-⟩:=hsl.shape;rw[hsa]at z2 hsl
     have hgk:t.G[k]=p.M[k].1:=by
      have h1:(p.M.map Prod.fst)[k]? =t.G[k]? :=by rw[HMG.out]
      rw[List.getElem?_map,List.getElem?_eq_getElem hmm,List.getElem?_eq_getElem hlt]at h1;exact(Option.some.inj h1).symm
     have HSV:=lhd (zlc p.M[k].1.1 p.M[k].1.2.1 _ p.M[k].1.2.2 wr hsl (by rw[←hgk];exact(HVF.out.fb.g _ (List.getElem_mem hlt)).1));have HBAD:=lhd (fun(h:sv t.G[k].1 t.G[k].2.1 t.G[k].2.2=false)=>show ¬H by rw[HH.out];intro h9;have:=h9.s _ (List.getElem_mem hlt);rw[h]at this;cases this);have HGOO:=lhd (fun(h:sv t.G[k].1 t.G[k].2.1 t.G[k].2.2=true)=>zoV (P:=fun s=>sv s.1 s.2.1 s.2.2=true) hlt HFA.out h);rw[hgk]at HBAD HGOO;clear hsl hsa hgk HFA;generalize p.M[k].1=sx at*;obtain⟨sk,sn,sl⟩:=sx;dsimp only at z0 z1 z2 HSV HBAD HGOO;cases hsv:sv sk sn sl
     ·have HNO:=lhd (HBAD.out hsv);rw[hsv]at HSV;clear HBAD HGOO hsv;go_wp2_with fail;refine HSV.out.mono ?_;rintro e w7 ⟨rfl,hb⟩;have HB9:=lhd (zem HSW.out hb);clear hb;clear p0 p1 p2 p3 p4 p5 p6 p7 p8;go_wp2_with fail;go_ret;exact⟨⟨_,rfl,by simp only[Bool.false_eq_true,false_iff];exact HNO.out⟩,(HB9).out⟩
     ·have HN:=lhd (HGOO.out hsv);rw[hsv]at HSV;clear HBAD HGOO hsv;go_wp2_with fail;refine HSV.out.mono ?_;rintro e w7 ⟨rfl,hb⟩;have HBN:=lhd (zem HBr.out hb);clear hb;clear p0 p1 p2 p3 p4 p5 p6 p7 p8;go_wp2_with fail;go_roundw;case rel=>exact⟨k+1,hlt,by go_num,HN.out,HBN.out⟩
      case measure=>simp[intOf];omega
    ·obtain rfl:k=t.G.length:=by omega
     have HOS:=lhd (zoU HFA.out);have HBb:=lhd (zem HBa.out HBr.out);have HXb:=HX;clear HFA HXa HBa HX HBr hlt hk;obtain⟨wb,hwb⟩:∃wb,wb=wr:=⟨_,rfl⟩;subst hwb;go_wp2_with fail;clear p0 p1 p2 p3 p4 p5 p6 p7 p8;go_loopw [7] (fun i wr=>∃k:Nat,k≤t.P.length∧i=.int .i64 k∧(∀i,i<k→gapR t.P t.en i)∧(∀g∈t.P.take k,∀s∈t.G,zkB s g=true)∧Below wb.heap.size wb wr) (fun i _=>t.P.length-(intOf i).toNat)
     case atStart=>exact⟨0,Nat.zero_le _,rfl,fun i h=>absurd h (Nat.not_lt_zero _),zoW,Below.refl _ _⟩
     case round=>
      obtain⟨k,hk,rfl,hga,hqa,hb⟩:=hrel;have HGA:=lhd hga;have HQA:=lhd hqa;have HBr:=lhd hb;have HX:=lhd (HXb.out.step hb);clear hb hga hqa;obtain⟨p0,p1,p2,p3,p4,p5,p6,p7,p8⟩:=(HX).out.nine;by_cases hlt:k<t.P.length
      ·have hwk:=zhO k (by omega);obtain⟨b,o,rfl,hcell⟩:=(HGP.out wr (zem HBb.out HBr.out)).gps hlt;have d0:wr.cell? ⟨b,o+k*2,none⟩=some (.int .i64 t.P[k].1):=hcell 0 _ rfl;have d1:wr.cell? ⟨b,o+k*2+1,none⟩=some (.int .i64 t.P[k].2):=hcell 1 _ rfl;have hb5:Below wr.heap.size wr (wr.alloc (.cells #[.int .i64 t.P[k].1,.int .i64 t.P[k].2] 57)):=(Below.refl _ _).alloc (Nat.le_refl _) _;have Y:=lhd (zal.fresh wr #[.int .i64 t.P[k].1,.int .i64 t.P[k].2] 57);have HZ5:=lhd (show wr.heap.size<(wr.alloc (.cells #[.int .i64 t.P[k].1,.int .i64 t.P[k].2] 57)).heap.size by simp);have HB5:=lhd (zem HBr.out hb5);have HX5:=lhd (HX.out.step hb5);obtain⟨q4,hq4⟩:∃q:Prop,q=∀j,(hj:j+1=k)→(t.P[j]'(by omega)).2<t.P[k].1:=⟨_,rfl⟩;have HQ0:=lhd (show k=0→q4 from fun h=>by rw[hq4];intro j hj;omega)
       have HQ1:=lhd (fun j (hj:j+1=k) W (hW:Below w.heap.size w W)=>(show ∃pb,W.cell? ⟨b,o+j*2+1,none⟩=some (.int .i64 pb)∧(q4↔pb<t.P[k].1)from by
        have hjl:j<t.P.length:=by omega
        obtain⟨b',o',e',hc'⟩:=(HGP.out W hW).gps hjl;injection e' with e';injection e' with e1 e2 _;subst e1 e2;refine⟨t.P[j].2,hc' 1 _ rfl,?_⟩;rw[hq4];constructor
        ·intro h;exact h j hj
        ·intro h j' hj';obtain rfl:j'=j:=by omega
         exact h))
       have HGN:=lhd (fun(c:0≤t.P[k].1∧t.P[k].1<t.P[k].2∧t.P[k].2≤t.en+1∧q4)=>show ∀i,i<k+1→gapR t.P t.en i from fun i hi=>by
        rcases Nat.lt_or_ge i k with h|h
        ·exact HGA.out i h
        ·obtain rfl:i=k:=by omega
         intro _;obtain⟨c1,c2,c3,c4⟩:=c;rw[hq4]at c4;exact⟨c1,c2,c3,fun j hj=>c4 j hj⟩)
       have HGB:=lhd (fun(c:¬(0≤t.P[k].1∧t.P[k].1<t.P[k].2∧t.P[k].2≤t.en+1∧q4))=>show ¬H from by
        rw[HH.out];intro h9;obtain⟨x1,x2,x3,x4⟩:=h9.g k hlt;exact c ⟨x1,x2,x3,by rw[hq4];exact fun j hj=>x4 j hj⟩)
       have HPM:=lhd (List.getElem_mem hlt);have HQN:=lhd (fun(h:∀s∈t.G,zkB s t.P[k]=true)=>zoV (P:=fun g=>∀s∈t.G,zkB s g=true) hlt HQA.out h);have HQB:=lhd True.intro;have hwe:IntKind.i64.wrap (t.en+1)=t.en+1:=IntWalk.i64_in _ (by omega);clear hcell hb5 hq4 HGA HQA HX HBr;generalize t.P[k]=pk at*;obtain⟨ga,gb⟩:=pk;dsimp only at d0 d1 Y HZ5 HB5 HX5 HQ1 HGN HGB;go_upto_region 20 with fail;generalize wr.heap.size=g at*;generalize wr.alloc (.cells #[.int .i64 ga,.int .i64 gb] 57)=w5 at*;clear p0 p1 p2 p3 p4 p5 p6 p7 p8;obtain⟨p0,p1,p2,p3,p4,p5,p6,p7,p8⟩:=(HX5).out.nine;clear d0 d1;have y0:=Y.out.cell (j:=0) rfl;have y1:=Y.out.cell (j:=1) rfl;by_cases e1:ga<0
       ·have e1b:=decide_eq_true e1;have HNO:=lhd (HGB.out (fun h=>by omega));clear HGB HGN HQ0 HQ1 HQB HQN;go_wp2_with fail;go_quiet (fail);have HB9:=lhd (za5 (zem HBb.out HB5.out) nq);clear p0 p1 p2 p3 p4 p5 p6 p7 p8;go_wp2_with fail;go_ret;exact⟨⟨_,rfl,by simp only[Bool.false_eq_true,false_iff];exact HNO.out⟩,(HB9).out⟩
       have e1b:=decide_eq_false e1;by_cases e2:gb≤ga
       ·have e2b:=decide_eq_true e2;have HNO:=lhd (HGB.out (fun h=>by omega));clear HGB HGN HQ0 HQ1 HQB HQN;go_wp2_with fail;go_quiet (fail);have HB9:=lhd (za5 (zem HBb.out HB5.out) nq);clear p0 p1 p2 p3 p4 p5 p6 p7 p8;go_wp2_with fail;go_ret;exact⟨⟨_,rfl,by simp only[Bool.false_eq_true,false_iff];exact HNO.out⟩,(HB9).out⟩
       have e2b:=decide_eq_false e2;by_cases e3:t.en+1<gb
       ·have e3b:=decide_eq_true e3;have HNO:=lhd (HGB.out (fun h=>by omega));clear HGB HGN HQ0 HQ1 HQB HQN;go_wp2_with fail;go_quiet (fail);have HB9:=lhd (za5 (zem HBb.out HB5.out) nq);clear p0 p1 p2 p3 p4 p5 p6 p7 p8;go_wp2_with fail;go_ret;exact⟨⟨_,rfl,by simp only[Bool.false_eq_true,false_iff];exact HNO.out⟩,(HB9).out⟩
       have e3b:=decide_eq_false e3;by_cases hk0:k=0
       ·have hcond:0≤ga∧ga<gb∧gb≤t.en+1∧q4:=⟨by omega,by omega,by omega,HQ0.out hk0⟩;have hk9:decide ((0:Int)<(k:Int))=false:=by rw[decide_eq_false_iff_not];omega
        have hk8:decide (0<k)=false:=by rw[decide_eq_false_iff_not];omega
        clear hk0 e1 e2 e3;have HGA2:=lhd (HGN.out hcond);clear HGB HGN HQ0 HQ1;go_wp2_with fail;go_quiet (fail);have HBd:=lhd (za5 (zem HBb.out HB5.out) nq);have HBn:=lhd (za5 HB5.out nq);have HXd:=lhd (show Bx (w5.drewN nq) w.heap.size (boxT t a1 a2 a3 (some ⟨b,o,none⟩) k1 k2 k3 k4)from HX5.out);have Yd:=lhd (show zal (w5.drewN nq) g [.int .i64 ga,.int .i64 gb]from Y.out);have HZd:=lhd (show g<(w5.drewN nq).heap.size from HZ5.out);generalize w5.drewN nq=wd at*;clear p0 p1 p2 p3 p4 p5 p6 p7 p8;clear y0 y1;obtain⟨hc0,hc1,hc2,-⟩:=hcond;go_wp2_with fail;go_loopw [9] (fun i wr=>∃m:Nat,m≤t.G.length∧i=.int .i64 m∧(∀s∈t.G.take m,zkB s (ga,gb)=true)∧Below wd.heap.size wd wr) (fun i _=>t.G.length-(intOf i).toNat)
        case atStart=>exact⟨0,Nat.zero_le _,rfl,zoW,Below.refl _ _⟩
        case round=>
         obtain⟨m,hm,rfl,hfa,hb⟩:=hrel;have HFA:=lhd hfa;have HBr:=lhd hb;have HX:=lhd (HXd.out.step hb);have y0:=(hb.cell (p:=⟨g,0,none⟩) HZd.out).trans (Yd.out.cell (j:=0) rfl);have y1:=(hb.cell (p:=⟨g,1,none⟩) HZd.out).trans (Yd.out.cell (j:=1) rfl);clear hb hfa;obtain⟨p0,p1,p2,p3,p4,p5,p6,p7,p8⟩:=(HX).out.nine;by_cases hmt:m<t.G.length
         ·have hwm:=zhO m (by omega);have hmm:m<p.M.length:=by rw[HML.out];exact hmt
          have HSW:=lhd (zem HBd.out HBr.out);obtain⟨b2,o2,rfl,z0,z1,z2,hsl⟩:=(HSG.out wr HSW.out).at hmm;obtain⟨sa,scap,hsa,-,-⟩:=hsl.shape;rw[hsa]at z2 hsl
          have hgk:t.G[m]=p.M[m].1:=by
           have h1:(p.M.map Prod.fst)[m]? =t.G[m]? :=by rw[HMG.out]
           rw[List.getElem?_map,List.getElem?_eq_getElem hmm,List.getElem?_eq_getElem hmt]at h1;exact(Option.some.inj h1).symm
          have HQT:=lhd (fun W (hW:Below wr.heap.size wr W)=>zlT p.M[m].1 _ (ga,gb) W (hsl.below hW) (by rw[←hgk];exact(HVF.out.fb.g _ (List.getElem_mem hmt)).1.1) hc0 hc1 (by dsimp only;omega));have HBAD:=lhd (fun(h:zkB t.G[m] (ga,gb)=false)=>show ¬H by rw[HH.out];intro h9;have:=h9.q _ HPM.out _ (List.getElem_mem hmt);rw[h]at this;cases this);have HGOO:=lhd (fun(h:zkB t.G[m] (ga,gb)=true)=>zoV (P:=fun s=>zkB s (ga,gb)=true) hmt HFA.out h);rw[hgk]at HBAD HGOO;clear hsl hsa hgk HFA;generalize p.M[m].1=sx at*;obtain⟨sk,sn,sl⟩:=sx;dsimp only at z0 z1 z2 HQT HBAD HGOO;have SF:=lhd (fun W (hW:Below wr.heap.size wr W)=>And.intro ((hW.cell (zbT p6)).trans p6) (And.intro ((hW.cell (zbT y0)).trans y0) (And.intro ((hW.cell (zbT y1)).trans y1) (And.intro ((hW.cell (zbT z0)).trans z0) (And.intro ((hW.cell (zbT z1)).trans z1) ((hW.cell (zbT z2)).trans z2))))));have hmi:(m:Int)<(t.G.length:Int):=by omega
          cases hqr:zkB (sk,sn,sl) (ga,gb)
          ·have HNO:=lhd (HBAD.out hqr);rw[hqr]at HQT;clear HBAD HGOO hqr;go_wp2_with fail;have hbq:Below wr.heap.size wr wr.drew:=(Below.refl _ _).drew;refine wp_region_held_drew (S:=(fun w'=>w'.cell? ⟨w.heap.size,6,none⟩=some (.slice (some ⟨b2,o2,none⟩) t.G.length k3)∧w'.cell? ⟨g,0,none⟩=some (.int .i64 ga)∧w'.cell? ⟨g,1,none⟩=some (.int .i64 gb)∧w'.cell? ⟨b2,o2+m*3,none⟩=some (.int .i64 sk)∧w'.cell? ⟨b2,o2+m*3+1,none⟩=some (.int .i64 sn)∧w'.cell? ⟨b2,o2+m*3+2,none⟩=some (.slice sa sl.length scap))) (by kernel_rfl) (SF.out _ hbq) (fun hHeld=>?_);clear y0 y1 z0 z1 z2;clear p0 p1 p2 p3 p4 p5 p6 p7 p8;generalize wr.drew=w6 at*;refine tkH 0 hHeld (v:=?_) ?_ ?_;rotate_left
           ·intro w h;(try dsimp only at h);go_simp;all_goals with_reducible rfl
           simp only[tkS];refine tkH 1 hHeld (v:=?_) ?_ ?_;rotate_left
           ·intro w h;(try dsimp only at h);go_simp;all_goals with_reducible rfl
           simp only[tkS];refine tkH 2 hHeld (v:=?_) ?_ ?_;rotate_left
           ·intro w h;(try dsimp only at h);go_simp;all_goals with_reducible rfl
           simp only[tkS];refine tkH 3 hHeld (v:=?_) ?_ ?_;rotate_left
           ·intro w h;(try dsimp only at h);go_simp;all_goals with_reducible rfl
           simp only[tkS];refine tkH 4 hHeld (v:=?_) ?_ ?_;rotate_left
           ·intro w h;(try dsimp only at h);go_simp;all_goals with_reducible rfl
           simp only[tkS];refine tkH 5 hHeld (v:=?_) ?_ ?_;rotate_left
           ·intro w h;(try dsimp only at h);go_simp;all_goals with_reducible rfl
           simp only[tkS];refine oneH 6 (fun K hK=>?_);go_simp;refine(HQT.out _ hbq).mono ?_;rintro e w7 ⟨rfl,hb9⟩;have hbq:=zem hbq hb9;clear hHeld hb9;go_wp2_with fail;refine hK.out _ _ (SF.out _ hbq) (fun hHeld=>?_);clear hK;try simp only[tkS]
           refine tkH 7 hHeld (v:=?_) ?_ ?_;rotate_left
           ·intro w h;(try dsimp only at h);go_simp;all_goals with_reducible rfl
           simp only[tkS];refine wpAnyH_done (by kernel_rfl) ?_ _;clear hHeld;have HB9:=lhd (zem HSW.out hbq);go_wp2_with fail;go_ret;exact⟨⟨_,rfl,by simp only[Bool.false_eq_true,false_iff];exact HNO.out⟩,(HB9).out⟩
          ·have HN:=lhd (HGOO.out hqr);rw[hqr]at HQT;clear HBAD HGOO hqr;go_wp2_with fail;have hbq:Below wr.heap.size wr wr.drew:=(Below.refl _ _).drew;refine wp_region_held_drew (S:=(fun w'=>w'.cell? ⟨w.heap.size,6,none⟩=some (.slice (some ⟨b2,o2,none⟩) t.G.length k3)∧w'.cell? ⟨g,0,none⟩=some (.int .i64 ga)∧w'.cell? ⟨g,1,none⟩=some (.int .i64 gb)∧w'.cell? ⟨b2,o2+m*3,none⟩=some (.int .i64 sk)∧w'.cell? ⟨b2,o2+m*3+1,none⟩=some (.int .i64 sn)∧w'.cell? ⟨b2,o2+m*3+2,none⟩=some (.slice sa sl.length scap))) (by kernel_rfl) (SF.out _ hbq) (fun hHeld=>?_);clear y0 y1 z0 z1 z2;clear p0 p1 p2 p3 p4 p5 p6 p7 p8;generalize wr.drew=w6 at*;refine tkH 0 hHeld (v:=?_) ?_ ?_;rotate_left
           ·intro w h;(try dsimp only at h);go_simp;all_goals with_reducible rfl
           simp only[tkS];refine tkH 1 hHeld (v:=?_) ?_ ?_;rotate_left
           ·intro w h;(try dsimp only at h);go_simp;all_goals with_reducible rfl
           simp only[tkS];refine tkH 2 hHeld (v:=?_) ?_ ?_;rotate_left
           ·intro w h;(try dsimp only at h);go_simp;all_goals with_reducible rfl
           simp only[tkS];refine tkH 3 hHeld (v:=?_) ?_ ?_;rotate_left
           ·intro w h;(try dsimp only at h);go_simp;all_goals with_reducible rfl
           simp only[tkS];refine tkH 4 hHeld (v:=?_) ?_ ?_;rotate_left
           ·intro w h;(try dsimp only at h);go_simp;all_goals with_reducible rfl
           simp only[tkS];refine tkH 5 hHeld (v:=?_) ?_ ?_;rotate_left
           ·intro w h;(try dsimp only at h);go_simp;all_goals with_reducible rfl
           simp only[tkS];refine oneH 6 (fun K hK=>?_);go_simp;refine(HQT.out _ hbq).mono ?_;rintro e w7 ⟨rfl,hb9⟩;have hbq:=zem hbq hb9;clear hHeld hb9;go_wp2_with fail;refine hK.out _ _ (SF.out _ hbq) (fun hHeld=>?_);clear hK;try simp only[tkS]
           refine tkH 7 hHeld (v:=?_) ?_ ?_;rotate_left
           ·intro w h;(try dsimp only at h);go_simp;all_goals with_reducible rfl
           simp only[tkS];refine wpAnyH_done (by kernel_rfl) ?_ _;clear hHeld;have HBN:=lhd (zem HBr.out hbq);go_wp2_with fail;go_roundw;case rel=>exact⟨m+1,hmt,by go_num,HN.out,HBN.out⟩
           case measure=>simp[intOf];omega
         ·obtain rfl:m=t.G.length:=by omega
          have HQ2:=lhd (HQN.out (zoU HFA.out));have HBN:=lhd (zem HBn.out HBr.out);clear y0 y1;go_wp2_with fail;go_roundw;case rel=>exact⟨k+1,hlt,by go_num,HGA2.out,HQ2.out,HBN.out⟩
          case measure=>simp[intOf];omega
       ·obtain⟨j,hj⟩:∃j,j+1=k:=⟨k-1,by omega⟩;obtain⟨pb,r0,hq⟩:=HQ1.out j hj w5 (zem HBb.out HB5.out);have hjl:j<t.P.length:=by omega
        have hwj:IntKind.i64.wrap ((k:Int)-1)=(j:Int):=by rw[show(k:Int)-1=(j:Int)by omega];exact IntWalk.i64_in _ (by omega)
        have hk9:decide ((0:Int)<(k:Int))=true:=by rw[decide_eq_true_iff];omega
        have hk8:0<k:=by omega
        clear hk0 hj;by_cases e4:ga≤pb
        ·have e4b:=decide_eq_true e4;have HNO:=lhd (HGB.out (fun h=>by have:=hq.1 h.2.2.2;omega));clear HGB HGN HQ0 HQ1 HQB HQN;go_wp2_with fail;go_quiet (fail);have HB9:=lhd (za5 (zem HBb.out HB5.out) nq);clear p0 p1 p2 p3 p4 p5 p6 p7 p8;go_wp2_with fail;go_ret;exact⟨⟨_,rfl,by simp only[Bool.false_eq_true,false_iff];exact HNO.out⟩,(HB9).out⟩
        ·have e4b:=decide_eq_false e4;have hcond:0≤ga∧ga<gb∧gb≤t.en+1∧q4:=⟨by omega,by omega,by omega,hq.2 (by omega)⟩;clear e1 e2 e3 e4 hq;have HGA2:=lhd (HGN.out hcond);clear HGB HGN HQ0 HQ1;go_wp2_with fail;go_quiet (fail);have HBd:=lhd (za5 (zem HBb.out HB5.out) nq);have HBn:=lhd (za5 HB5.out nq);have HXd:=lhd (show Bx (w5.drewN nq) w.heap.size (boxT t a1 a2 a3 (some ⟨b,o,none⟩) k1 k2 k3 k4)from HX5.out);have Yd:=lhd (show zal (w5.drewN nq) g [.int .i64 ga,.int .i64 gb]from Y.out);have HZd:=lhd (show g<(w5.drewN nq).heap.size from HZ5.out);generalize w5.drewN nq=wd at*;clear p0 p1 p2 p3 p4 p5 p6 p7 p8;clear y0 y1;obtain⟨hc0,hc1,hc2,-⟩:=hcond;go_wp2_with fail;go_loopw [9] (fun i wr=>∃m:Nat,m≤t.G.length∧i=.int .i64 m∧(∀s∈t.G.take m,zkB s (ga,gb)=true)∧Below wd.heap.size wd wr) (fun i _=>t.G.length-(intOf i).toNat)
         case atStart=>exact⟨0,Nat.zero_le _,rfl,zoW,Below.refl _ _⟩
         case round=>
          obtain⟨m,hm,rfl,hfa,hb⟩:=hrel;have HFA:=lhd hfa;have HBr:=lhd hb;have HX:=lhd (HXd.out.step hb);have y0:=(hb.cell (p:=⟨g,0,none⟩) HZd.out).trans (Yd.out.cell (j:=0) rfl);have y1:=(hb.cell (p:=⟨g,1,none⟩) HZd.out).trans (Yd.out.cell (j:=1) rfl);clear hb hfa;obtain⟨p0,p1,p2,p3,p4,p5,p6,p7,p8⟩:=(HX).out.nine;by_cases hmt:m<t.G.length
          ·have hwm:=zhO m (by omega);have hmm:m<p.M.length:=by rw[HML.out];exact hmt
           have HSW:=lhd (zem HBd.out HBr.out);obtain⟨b2,o2,rfl,z0,z1,z2,hsl⟩:=(HSG.out wr HSW.out).at hmm;obtain⟨sa,scap,hsa,-,-⟩:=hsl.shape;rw[hsa]at z2 hsl
           have hgk:t.G[m]=p.M[m].1:=by
            have h1:(p.M.map Prod.fst)[m]? =t.G[m]? :=by rw[HMG.out]
            rw[List.getElem?_map,List.getElem?_eq_getElem hmm,List.getElem?_eq_getElem hmt]at h1;exact(Option.some.inj h1).symm
           have HQT:=lhd (fun W (hW:Below wr.heap.size wr W)=>zlT p.M[m].1 _ (ga,gb) W (hsl.below hW) (by rw[←hgk];exact(HVF.out.fb.g _ (List.getElem_mem hmt)).1.1) hc0 hc1 (by dsimp only;omega));have HBAD:=lhd (fun(h:zkB t.G[m] (ga,gb)=false)=>show ¬H by rw[HH.out];intro h9;have:=h9.q _ HPM.out _ (List.getElem_mem hmt);rw[h]at this;cases this);have HGOO:=lhd (fun(h:zkB t.G[m] (ga,gb)=true)=>zoV (P:=fun s=>zkB s (ga,gb)=true) hmt HFA.out h);rw[hgk]at HBAD HGOO;clear hsl hsa hgk HFA;generalize p.M[m].1=sx at*;obtain⟨sk,sn,sl⟩:=sx;dsimp only at z0 z1 z2 HQT HBAD HGOO;have SF:=lhd (fun W (hW:Below wr.heap.size wr W)=>And.intro ((hW.cell (zbT p6)).trans p6) (And.intro ((hW.cell (zbT y0)).trans y0) (And.intro ((hW.cell (zbT y1)).trans y1) (And.intro ((hW.cell (zbT z0)).trans z0) (And.intro ((hW.cell (zbT z1)).trans z1) ((hW.cell (zbT z2)).trans z2))))));have hmi:(m:Int)<(t.G.length:Int):=by omega
           cases hqr:zkB (sk,sn,sl) (ga,gb)
           ·have HNO:=lhd (HBAD.out hqr);rw[hqr]at HQT;clear HBAD HGOO hqr;go_wp2_with fail;have hbq:Below wr.heap.size wr wr.drew:=(Below.refl _ _).drew;refine wp_region_held_drew (S:=(fun w'=>w'.cell? ⟨w.heap.size,6,none⟩=some (.slice (some ⟨b2,o2,none⟩) t.G.length k3)∧w'.cell? ⟨g,0,none⟩=some (.int .i64 ga)∧w'.cell? ⟨g,1,none⟩=some (.int .i64 gb)∧w'.cell? ⟨b2,o2+m*3,none⟩=some (.int .i64 sk)∧w'.cell? ⟨b2,o2+m*3+1,none⟩=some (.int .i64 sn)∧w'.cell? ⟨b2,o2+m*3+2,none⟩=some (.slice sa sl.length scap))) (by kernel_rfl) (SF.out _ hbq) (fun hHeld=>?_);clear y0 y1 z0 z1 z2;clear p0 p1 p2 p3 p4 p5 p6 p7 p8;generalize wr.drew=w6 at*;refine tkH 0 hHeld (v:=?_) ?_ ?_;rotate_left
            ·intro w h;(try dsimp only at h);go_simp;all_goals with_reducible rfl
            simp only[tkS];refine tkH 1 hHeld (v:=?_) ?_ ?_;rotate_left
            ·intro w h;(try dsimp only at h);go_simp;all_goals with_reducible rfl
            simp only[tkS];refine tkH 2 hHeld (v:=?_) ?_ ?_;rotate_left
            ·intro w h;(try dsimp only at h);go_simp;all_goals with_reducible rfl
            simp only[tkS];refine tkH 3 hHeld (v:=?_) ?_ ?_;rotate_left
            ·intro w h;(try dsimp only at h);go_simp;all_goals with_reducible rfl
            simp only[tkS];refine tkH 4 hHeld (v:=?_) ?_ ?_;rotate_left
            ·intro w h;(try dsimp only at h);go_simp;all_goals with_reducible rfl
            simp only[tkS];refine tkH 5 hHeld (v:=?_) ?_ ?_;rotate_left
            ·intro w h;(try dsimp only at h);go_simp;all_goals with_reducible rfl
            simp only[tkS];refine oneH 6 (fun K hK=>?_);go_simp;refine(HQT.out _ hbq).mono ?_;rintro e w7 ⟨rfl,hb9⟩;have hbq:=zem hbq hb9;clear hHeld hb9;go_wp2_with fail;refine hK.out _ _ (SF.out _ hbq) (fun hHeld=>?_);clear hK;try simp only[tkS]
            refine tkH 7 hHeld (v:=?_) ?_ ?_;rotate_left
            ·intro w h;(try dsimp only at h);go_simp;all_goals with_reducible rfl
            simp only[tkS];refine wpAnyH_done (by kernel_rfl) ?_ _;clear hHeld;have HB9:=lhd (zem HSW.out hbq);go_wp2_with fail;go_ret;exact⟨⟨_,rfl,by simp only[Bool.false_eq_true,false_iff];exact HNO.out⟩,(HB9).out⟩
           ·have HN:=lhd (HGOO.out hqr);rw[hqr]at HQT;clear HBAD HGOO hqr;go_wp2_with fail;have hbq:Below wr.heap.size wr wr.drew:=(Below.refl _ _).drew;refine wp_region_held_drew (S:=(fun w'=>w'.cell? ⟨w.heap.size,6,none⟩=some (.slice (some ⟨b2,o2,none⟩) t.G.length k3)∧w'.cell? ⟨g,0,none⟩=some (.int .i64 ga)∧w'.cell? ⟨g,1,none⟩=some (.int .i64 gb)∧w'.cell? ⟨b2,o2+m*3,none⟩=some (.int .i64 sk)∧w'.cell? ⟨b2,o2+m*3+1,none⟩=some (.int .i64 sn)∧w'.cell? ⟨b2,o2+m*3+2,none⟩=some (.slice sa sl.length scap))) (by kernel_rfl) (SF.out _ hbq) (fun hHeld=>?_);clear y0 y1 z0 z1 z2;clear p0 p1 p2 p3 p4 p5 p6 p7 p8;generalize wr.drew=w6 at*;refine tkH 0 hHeld (v:=?_) ?_ ?_;rotate_left
            ·intro w h;(try dsimp only at h);go_simp;all_goals with_reducible rfl
            simp only[tkS];refine tkH 1 hHeld (v:=?_) ?_ ?_;rotate_left
            ·intro w h;(try dsimp only at h);go_simp;all_goals with_reducible rfl
            simp only[tkS];refine tkH 2 hHeld (v:=?_) ?_ ?_;rotate_left
            ·intro w h;(try dsimp only at h);go_simp;all_goals with_reducible rfl
            simp only[tkS];refine tkH 3 hHeld (v:=?_) ?_ ?_;rotate_left
            ·intro w h;(try dsimp only at h);go_simp;all_goals with_reducible rfl
            simp only[tkS];refine tkH 4 hHeld (v:=?_) ?_ ?_;rotate_left
            ·intro w h;(try dsimp only at h);go_simp;all_goals with_reducible rfl
            simp only[tkS];refine tkH 5 hHeld (v:=?_) ?_ ?_;rotate_left
            ·intro w h;(try dsimp only at h);go_simp;all_goals with_reducible rfl
            simp only[tkS];refine oneH 6 (fun K hK=>?_);go_simp;refine(HQT.out _ hbq).mono ?_;rintro e w7 ⟨rfl,hb9⟩;have hbq:=zem hbq hb9;clear hHeld hb9;go_wp2_with fail;refine hK.out _ _ (SF.out _ hbq) (fun hHeld=>?_);clear hK;try simp only[tkS]
            refine tkH 7 hHeld (v:=?_) ?_ ?_;rotate_left
            ·intro w h;(try dsimp only at h);go_simp;all_goals with_reducible rfl
            simp only[tkS];refine wpAnyH_done (by kernel_rfl) ?_ _;clear hHeld;have HBN:=lhd (zem HBr.out hbq);go_wp2_with fail;go_roundw;case rel=>exact⟨m+1,hmt,by go_num,HN.out,HBN.out⟩
            case measure=>simp[intOf];omega
          ·obtain rfl:m=t.G.length:=by omega
           have HQ2:=lhd (HQN.out (zoU HFA.out));have HBN:=lhd (zem HBn.out HBr.out);clear y0 y1;go_wp2_with fail;go_roundw;case rel=>exact⟨k+1,hlt,by go_num,HGA2.out,HQ2.out,HBN.out⟩
           case measure=>simp[intOf];omega
      ·obtain rfl:k=t.P.length:=by omega
       have HOG:=lhd (show ∀i,gapR t.P t.en i from fun i h=>HGA.out i h h);have HOQ:=lhd (zoU HQA.out);have HBc:=lhd (zem HBb.out HBr.out);have HXc:=HX;clear HGA HQA HXb HBb HX HBr hlt hk;obtain⟨wc,hwc⟩:∃wc,wc=wr:=⟨_,rfl⟩;subst hwc;have SF:=lhd (fun W (hW:Below wc.heap.size wc W)=>And.intro ((hW.cell (zbT p6)).trans p6) ((hW.cell (zbT p8)).trans p8))
       have HALL:=lhd (fun(h1:nmd=(t.G.length:Int)) (h2:zgT t.G (-1)≤t.en)=>show H by
        rw[HH.out];exact⟨HOsc.out,HOwd.out,HOhr.out,by omega,by omega,by omega,by omega,HOF.out,by rw[HNM.out];exact h1,HOS.out,HOG.out,HOQ.out,HVF.out.ct,h2⟩)
       have HCT:=lhd (fun W (hW:Below wc.heap.size wc W)=>zlG _ p.M W (HSG.out W (zem HBc.out hW)) (by rw[HML.out];omega) (by rw[HMG.out];have:=HVF.out.ct;omega));have HLS:=lhd (fun W (hW:Below wc.heap.size wc W)=>zlu _ p.M W (HSG.out W (zem HBc.out hW)) (by rw[HML.out];omega));rw[HML.out,HMG.out]at HCT HLS;have hctb:(zcZ t.G:Int)≤4096:=by have:=HVF.out.ct;omega
       have hbq:Below wc.heap.size wc wc.drew:=(Below.refl _ _).drew;go_upto_region 27 with fail;refine wp_region_held_drew (S:=(fun w'=>w'.cell? ⟨w.heap.size,6,none⟩=some (.slice a3 t.G.length k3)∧w'.cell? ⟨w.heap.size,8,none⟩=some (.int .i64 t.en))) (by kernel_rfl) (SF.out _ hbq) (fun hHeld=>?_);clear p0 p1 p2 p3 p4 p5 p6 p7 p8;generalize wc.drew=w6 at*;refine tkH 0 hHeld (v:=?_) ?_ ?_;rotate_left
       ·intro w h;(try dsimp only at h);go_simp;all_goals with_reducible rfl
       simp only[tkS];refine tkH 1 hHeld (v:=?_) ?_ ?_;rotate_left
       ·intro w h;(try dsimp only at h);go_simp;all_goals with_reducible rfl
       simp only[tkS];refine tkH 2 hHeld (v:=?_) ?_ ?_;rotate_left
       ·intro w h;(try dsimp only at h);go_simp;all_goals with_reducible rfl
       simp only[tkS];refine tkH 3 hHeld (v:=?_) ?_ ?_;rotate_left
       ·intro w h;(try dsimp only at h);go_simp;all_goals with_reducible rfl
       simp only[tkS];by_cases hne:nmd=(t.G.length:Int)
       rotate_left
       ·have hnb:(nmd==(t.G.length:Int))=false:=by rw[beq_eq_false_iff_ne];exact hne
        have HNO:=lhd (show ¬H by rw[HH.out];intro h;have:=h.nm;rw[HNM.out]at this;exact hne this);refine wpAnyH_take (i:=4) (v:=.bool false) rfl (by kernel_rfl) (by kernel_rfl) (by kernel_rfl) (fun _ _ _ h=>h) (Or.inl ⟨by rfl,?_⟩) hHeld ?_
        ·intro w hSw;(try dsimp only at hSw)
         go_simp;all_goals with_reducible rfl
        simp only[tkS];refine wpAnyH_take (i:=5) (v:=.bool false) rfl (by kernel_rfl) (by kernel_rfl) (by kernel_rfl) (fun _ _ _ h=>h) (Or.inl ⟨by rfl,?_⟩) hHeld ?_
        ·intro w hSw;(try dsimp only at hSw)
         go_simp;all_goals with_reducible rfl
        simp only[tkS];refine wpAnyH_take (i:=6) (v:=undef) rfl (by kernel_rfl) (by kernel_rfl) (by kernel_rfl) (fun _ _ _ h=>h) (Or.inr ⟨by rfl,rfl⟩) hHeld ?_;simp only[tkS];refine wpAnyH_take (i:=7) (v:=undef) rfl (by kernel_rfl) (by kernel_rfl) (by kernel_rfl) (fun _ _ _ h=>h) (Or.inr ⟨by rfl,rfl⟩) hHeld ?_;simp only[tkS];refine wpAnyH_take (i:=8) (v:=undef) rfl (by kernel_rfl) (by kernel_rfl) (by kernel_rfl) (fun _ _ _ h=>h) (Or.inr ⟨by rfl,rfl⟩) hHeld ?_;simp only[tkS];refine wpAnyH_take (i:=9) (v:=undef) rfl (by kernel_rfl) (by kernel_rfl) (by kernel_rfl) (fun _ _ _ h=>h) (Or.inr ⟨by rfl,rfl⟩) hHeld ?_;simp only[tkS];refine wpAnyH_take (i:=10) (v:=.bool false) rfl (by kernel_rfl) (by kernel_rfl) (by kernel_rfl) (fun _ _ _ h=>h) (Or.inl ⟨by rfl,?_⟩) hHeld ?_
        ·intro w hSw;(try dsimp only at hSw)
         go_simp;all_goals with_reducible rfl
        simp only[tkS];refine wpAnyH_take (i:=11) (v:=.bool false) rfl (by kernel_rfl) (by kernel_rfl) (by kernel_rfl) (fun _ _ _ h=>h) (Or.inl ⟨by rfl,?_⟩) hHeld ?_
        ·intro w hSw;(try dsimp only at hSw)
         go_simp;all_goals with_reducible rfl
        simp only[tkS];refine wpAnyH_take (i:=12) (v:=undef) rfl (by kernel_rfl) (by kernel_rfl) (by kernel_rfl) (fun _ _ _ h=>h) (Or.inr ⟨by rfl,rfl⟩) hHeld ?_;simp only[tkS];refine wpAnyH_take (i:=13) (v:=undef) rfl (by kernel_rfl) (by kernel_rfl) (by kernel_rfl) (fun _ _ _ h=>h) (Or.inr ⟨by rfl,rfl⟩) hHeld ?_;simp only[tkS];refine wpAnyH_take (i:=14) (v:=undef) rfl (by kernel_rfl) (by kernel_rfl) (by kernel_rfl) (fun _ _ _ h=>h) (Or.inr ⟨by rfl,rfl⟩) hHeld ?_;simp only[tkS];refine wpAnyH_take (i:=15) (v:=undef) rfl (by kernel_rfl) (by kernel_rfl) (by kernel_rfl) (fun _ _ _ h=>h) (Or.inr ⟨by rfl,rfl⟩) hHeld ?_;simp only[tkS];refine wpAnyH_take (i:=16) (v:=undef) rfl (by kernel_rfl) (by kernel_rfl) (by kernel_rfl) (fun _ _ _ h=>h) (Or.inr ⟨by rfl,rfl⟩) hHeld ?_;simp only[tkS];refine wpAnyH_take (i:=17) (v:=undef) rfl (by kernel_rfl) (by kernel_rfl) (by kernel_rfl) (fun _ _ _ h=>h) (Or.inr ⟨by rfl,rfl⟩) hHeld ?_;simp only[tkS];refine wpAnyH_take (i:=18) (v:=.bool false) rfl (by kernel_rfl) (by kernel_rfl) (by kernel_rfl) (fun _ _ _ h=>h) (Or.inl ⟨by rfl,?_⟩) hHeld ?_
        ·intro w hSw;(try dsimp only at hSw)
         go_simp;all_goals with_reducible rfl
        simp only[tkS];refine wpAnyH_take (i:=19) (v:=.bool false) rfl (by kernel_rfl) (by kernel_rfl) (by kernel_rfl) (fun _ _ _ h=>h) (Or.inl ⟨by rfl,?_⟩) hHeld ?_
        ·intro w hSw;(try dsimp only at hSw)
         go_simp;all_goals with_reducible rfl
        simp only[tkS];refine wpAnyH_done (by kernel_rfl) ?_ _;clear hHeld;have HB9:=lhd (zem HBc.out hbq);go_wp2_with fail;go_ret;exact⟨⟨_,rfl,by simp only[Bool.false_eq_true,false_iff];exact HNO.out⟩,(HB9).out⟩
       ·have HAL2:=lhd (HALL.out hne);have HLN:=lhd (show H→zgT t.G (-1)≤t.en from fun h=>by rw[HH.out]at h;exact h.ls);clear HALL HNM;subst hne;generalize zcZ t.G=ctn at*;generalize zgT t.G (-1)=lst at*;refine wpAnyH_take (i:=4) (v:=.bool true) rfl (by kernel_rfl) (by kernel_rfl) (by kernel_rfl) (fun _ _ _ h=>h) (Or.inl ⟨by rfl,?_⟩) hHeld ?_
        ·intro w hSw;(try dsimp only at hSw)
         go_simp;all_goals with_reducible rfl
        simp only[tkS];refine wpAnyH_take (i:=5) (v:=.bool true) rfl (by kernel_rfl) (by kernel_rfl) (by kernel_rfl) (fun _ _ _ h=>h) (Or.inl ⟨by rfl,?_⟩) hHeld ?_
        ·intro w hSw;(try dsimp only at hSw)
         go_simp;all_goals with_reducible rfl
        simp only[tkS];refine tkH 6 hHeld (v:=?_) ?_ ?_;rotate_left
        ·intro w h;(try dsimp only at h);go_simp;all_goals with_reducible rfl
        simp only[tkS];refine tkH 7 hHeld (v:=?_) ?_ ?_;rotate_left
        ·intro w h;(try dsimp only at h);go_simp;all_goals with_reducible rfl
        simp only[tkS];refine oneH 8 (fun K hK=>?_);go_simp;refine(HCT.out _ hbq).mono ?_;rintro e w7 ⟨rfl,rfl⟩;go_wp2_with fail;refine hK.out _ _ hHeld (fun hHeld=>?_);clear hK;try simp only[tkS]
        refine wpAnyH_take (i:=9) (v:=.bool true) rfl (by kernel_rfl) (by kernel_rfl) (by kernel_rfl) (fun _ _ _ h=>h) (Or.inl ⟨by rfl,?_⟩) hHeld ?_
        ·intro w hSw;(try dsimp only at hSw)
         go_simp;all_goals with_reducible rfl
        simp only[tkS];refine wpAnyH_take (i:=10) (v:=.bool true) rfl (by kernel_rfl) (by kernel_rfl) (by kernel_rfl) (fun _ _ _ h=>h) (Or.inl ⟨by rfl,?_⟩) hHeld ?_
        ·intro w hSw;(try dsimp only at hSw)
         go_simp;all_goals with_reducible rfl
        simp only[tkS];refine wpAnyH_take (i:=11) (v:=.bool true) rfl (by kernel_rfl) (by kernel_rfl) (by kernel_rfl) (fun _ _ _ h=>h) (Or.inl ⟨by rfl,?_⟩) hHeld ?_
        ·intro w hSw;(try dsimp only at hSw)
         go_simp;all_goals with_reducible rfl
        simp only[tkS];refine tkH 12 hHeld (v:=?_) ?_ ?_;rotate_left
        ·intro w h;(try dsimp only at h);go_simp;all_goals with_reducible rfl
        simp only[tkS];refine tkH 13 hHeld (v:=?_) ?_ ?_;rotate_left
        ·intro w h;(try dsimp only at h);go_simp;all_goals with_reducible rfl
        simp only[tkS];refine tkH 15 hHeld (v:=?_) ?_ ?_;rotate_left
        ·intro w h;(try dsimp only at h);go_simp;all_goals with_reducible rfl
        simp only[tkS];refine tkH 16 hHeld (v:=?_) ?_ ?_;rotate_left
        ·intro w h;(try dsimp only at h);go_simp;all_goals with_reducible rfl
        simp only[tkS];refine oneH 14 (fun K hK=>?_);go_simp;refine(HLS.out _ hbq).mono ?_;rintro e w7 ⟨rfl,hb9⟩;have hbq:=zem hbq hb9;clear hHeld hb9;go_wp2_with fail;refine hK.out _ _ (SF.out _ hbq) (fun hHeld=>?_);clear hK;try simp only[tkS]
        refine tkH 17 hHeld (v:=?_) ?_ ?_;rotate_left
        ·intro w h;(try dsimp only at h);go_simp;all_goals with_reducible rfl
        simp only[tkS];refine tkH 18 hHeld (v:=?_) ?_ ?_;rotate_left
        ·intro w h;(try dsimp only at h);go_simp;all_goals with_reducible rfl
        simp only[tkS];refine tkH 19 hHeld (v:=?_) ?_ ?_;rotate_left
        ·intro w h;(try dsimp only at h);go_simp;all_goals with_reducible rfl
        simp only[tkS];refine wpAnyH_done (by kernel_rfl) ?_ _;clear hHeld;go_wp2_with fail;go_ret;exact⟨⟨_,rfl,by rw[decide_eq_true_iff];exact⟨HAL2.out,HLN.out⟩⟩,zem HBc.out hbq⟩
end Go.Proofs.YtbiadennhnokhaaGreatDoor
