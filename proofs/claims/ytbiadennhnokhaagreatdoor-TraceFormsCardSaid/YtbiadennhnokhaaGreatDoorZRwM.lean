import Derived.Test.YtbiadennhnokhaaGreatDoorZ00
import Derived.Deep.CutBlock
import Derived.Test.YtbiadennhnokhaaGreatDoorZ31
import Derived.Test.YtbiadennhnokhaaGreatDoorZ34
import Derived.Test.YtbiadennhnokhaaGreatDoorZ40
import Derived.Test.YtbiadennhnokhaaGreatDoorZ43
set_option maxRecDepth 100000
set_option maxHeartbeats 16000000
namespace Go.Proofs.YtbiadennhnokhaaGreatDoor
open Go.RowKit
set_option linter.unusedSimpArgs false
theorem zcE {α β:Type} {M:List (α×β)} {G:List α} {f:α→α} {j:Nat} (h:M.map Prod.fst=(G.map f).take j++G.drop j) (hl:M.length=G.length) (hj:j<M.length):∃hg:j<G.length,M[j].1=G[j]:=by
 have hg:j<G.length:=by omega
 refine⟨hg,?_⟩
 have h1:(M.map Prod.fst)[j]? =some G[j]:=by
  rw[h,List.getElem?_append_right (by simp;omega),List.getElem?_drop];simp only[List.length_take,List.length_map];rw[show j+(j-min j G.length)=j by omega,List.getElem?_eq_getElem hg]
 rw[List.getElem?_map,List.getElem?_eq_getElem hj]at h1;exact Option.some.inj h1
theorem zcF {α β:Type} {M:List (α×β)} {G:List α} {f:α→α} {j:Nat} (h:M.map Prod.fst=(G.map f).take j++G.drop j) (hl:M.length=G.length) (hj:j<M.length) (hf:f M[j].1=M[j].1):M.map Prod.fst=(G.map f).take (j+1)++G.drop (j+1):=by
 obtain⟨hg,e⟩:=zcE h hl hj;rw[h,List.take_succ_eq_append_getElem (by simpa using hg),List.append_assoc,List.drop_eq_getElem_cons hg];rw[e]at hf;simp[hf]
theorem zcH {α β:Type} {M:List (α×β)} {G:List α} {f:α→α} {j:Nat} (h:M.map Prod.fst=(G.map f).take j++G.drop j) (hl:M.length=G.length) (hj:j<M.length) (v:β):(M.take j++(f M[j].1,v)::M.drop (j+1)).map Prod.fst=(G.map f).take (j+1)++G.drop (j+1):=by
 obtain⟨hg,e⟩:=zcE h hl hj
 have h1:(M.take j).map Prod.fst=(G.map f).take j:=by
  rw[List.map_take,h,List.take_append_of_le_length (by simp;omega),List.take_of_length_le (by simp;omega)]
 have h2:(M.drop (j+1)).map Prod.fst=G.drop (j+1):=by
  rw[List.map_drop,h,List.drop_append,List.drop_drop];simp only[List.length_take,List.length_map];rw[List.drop_of_length_le (by simp;omega),List.nil_append];congr 1
  omega
 rw[List.map_append,List.map_cons,h1,h2,e,List.take_succ_eq_append_getElem (by simpa using hg),List.append_assoc];simp
theorem zhc {α:Type} (l:List α) (j:Nat) (h:j<l.length):l=l.take j++l[j]::l.drop (j+1):=by
 rw[←List.drop_eq_getElem_cons h,List.take_append_drop]
theorem zcG {α β:Type} {X Z:List (α×β)} {y:α×β} {G:List α} {f:α→α} {j:Nat} (h:(X++y::Z).map Prod.fst=(G.map f).take j++G.drop j) (hl:(X++y::Z).length=G.length) (hx:X.length=j):
 y.1∈G∧(f y.1=y.1→(X++y::Z).map Prod.fst=(G.map f).take (j+1)++G.drop (j+1))∧∀v,(X++(f y.1,v)::Z).map Prod.fst=(G.map f).take (j+1)++G.drop (j+1):=by
 have hj:j<(X++y::Z).length:=by subst hx;simp
 have e:(X++y::Z)[j]=y:=by subst hx;simp
 obtain⟨hg,e1⟩:=zcE h hl hj;have h2:=zcF h hl hj;have h3:=zcH h hl hj;rw[e]at e1 h2 h3;refine⟨e1▸List.getElem_mem hg,h2,fun v=>?_⟩;have:=h3 v;subst hx;simpa using this
theorem zhs {α:Type} (l:List α) (j:Nat) (h:j<l.length):∃X y Z,l=X++y::Z∧X.length=j:=
 ⟨_,_,_,zhc l j h,by simp;omega⟩
theorem zm1 (X Z:List (Sg×Value)) (y:Sg×Value):(sgs (X++y::Z))[X.length*3]? =some (.int .i64 y.1.1)∧(sgs (X++y::Z))[X.length*3+1]? =some (.int .i64 y.1.2.1)∧(sgs (X++y::Z))[X.length*3+2]? =some y.2:=by
 have h:=zmY (X++y::Z) X.length (by simp);rw[Nat.mul_comm]at h;simpa using h
theorem zdR {P:List Gp} {k:Nat} (h:k<P.length) (e:Int):zdM (P.take (k+1)) e=max (zdM (P.take k) e) (P[k].2-1):=by
 rw[List.take_succ_eq_append_getElem h,zdO];rfl
theorem zcD {P:List Gp} {k:Nat} (h:k<P.length) (en:Int) (G:List Sg):clrR (P.take (k+1)) en G=(clrR (P.take k) en G).map (offK en P[k]):=by
 rw[List.take_succ_eq_append_getElem h,zcC]
theorem zcB (P:List Gp) (en:Int) (G:List Sg):(clrR P en G).length=G.length:=by
 unfold clrR;rw[List.length_map]
theorem zcy {P:List Gp} {en:Int} {G:List Sg} {k:Nat} (hP:∀g∈P,0≤g.1∧g.1<g.2∧g.2≤1099511627777) (hl:P.length≤100) (h:∀s∈G,s.2.2.length≤1000):∀s∈clrR (P.take k) en G,s.2.2.length≤5000:=fun s hs=>by
 have:=zcz (en:=en) (c:=1000) (fun g hg=>(hP g (List.mem_of_mem_take hg)).2.1) h s hs;have h2:(P.take k).length≤P.length:=by rw[List.length_take];omega
 omega
theorem zln (t:Tr) (p:TP) (w:World) (ht:TrM w t p) (hF:FB t) (hS:SmallT t):Calls Tryz.prog 15 #[p.v t] w (BdP t w):=by
 obtain⟨a1,k1,a2,k2,a3,k3,a4,k4,e,q1,q2,q3,q4,-⟩:=ht.open;have hml:p.M.length=t.G.length:=ht.len;obtain⟨Q,hQ⟩:∃Q,Q=BdP t w:=⟨_,rfl⟩;rw[←hQ];have HQ:=lhd hQ;have HSC:=lhd (fun W (hW:Below w.heap.size w W)=>(show SlR W (.slice a1 t.S.length k1) t.S.length (scs t.S)by rw[←q1];exact ht.s.below hW));have HVR:=lhd (fun W (hW:Below w.heap.size w W)=>(show SlR W (.slice a2 t.V.length k2) t.V.length (vrs t.V)by rw[←q2];exact ht.v.below hW));have HSG:=lhd (fun W (hW:Below w.heap.size w W)=>(show Sigs W (.slice a3 p.M.length k3) p.M by rw[←q3];exact ht.g.below hW));have HGP:=lhd (fun W (hW:Below w.heap.size w W)=>(show SlR W (.slice a4 t.P.length k4) t.P.length (gps t.P)by rw[←q4];exact ht.q.below hW));have HML:=lhd hml;have HMG:=lhd ht.m;have HF:=lhd hF;have HSM:=lhd hS;have HWD:=lhd (fun W (hW:Below w.heap.size w W)=>zlW t p W (ht.below hW) hF.tx.1 hF.tx.2.1 hF.tx.2.2);have HX0:=lhd (BdS.start w (boxT t a1 a2 a3 a4 k1 k2 k3 k4) 27);have HSCL:=lhd (fun W=>zly t.sc W);rw[e]at HWD⊢;clear ht e q1 q2 q3 q4 hml hF hS hQ;go_enter Tryz.func15,Tryz.ntmps15;go_upto_region 2 with fail;generalize ((w.alloc (.cells (boxT t a1 a2 a3 a4 k1 k2 k3 k4) 27)).alloc (.cells #[.int .i64 0,.string ⟨#[]⟩,.string ⟨#[]⟩,.string ⟨#[]⟩,.slice none 0 0,.slice none 0 0,.slice none 0 0,.slice none 0 0,.int .i64 0] 27)).alloc (.cells #[.int .i64 0,.string ⟨#[]⟩,.string ⟨#[]⟩,.string ⟨#[]⟩,.slice none 0 0,.slice none 0 0,.slice none 0 0,.slice none 0 0,.int .i64 0] 27)=w1 at*;have HX1:=HX0;clear HX0;obtain⟨p0,p1,p2,p3,p4,p5,p6,p7,p8⟩:=(HX1).out.t.nine;cases hsc:(decide (-15≤t.sc)&&decide (t.sc≤2))
 ·have HNO:=lhd (show zbx t=(tr0,2)from zbJ (by
   rw[Bool.and_eq_false_iff,decide_eq_false_iff_not,decide_eq_false_iff_not]at hsc;unfold zoJ;rw[if_pos (by omega)]) (by decide))
  rw[hsc]at HSCL;clear hsc;go_wp2_with fail;refine(HSCL.out _).mono ?_;rintro e w2 ⟨rfl,rfl⟩;clear p0 p1 p2 p3 p4 p5 p6 p7 p8;go_upto_region 3 with fail;obtain⟨⟨r0,r1,r2,r3,r4,r5,r6,r7,r8⟩,⟨f0,f1,f2,f3,f4,f5,f6,f7,f8⟩,q0,q1,q2,q3,q4,q5,q6,q7,q8⟩:=(HX1).out.outs;repeat go_step
  clear r0 r1 r2 r3 r4 r5 r6 r7 r8 f0 f1 f2 f3 f4 f5 f6 f7 f8 q0 q1 q2 q3 q4 q5 q6 q7 q8;have HFN:=lhd ((HX1).out.fin (.int .i64 0) (.string ⟨#[]⟩) (.string ⟨#[]⟩) (.string ⟨#[]⟩) (.slice none 0 0) (.slice none 0 0) (.slice none 0 0) (.slice none 0 0) (.int .i64 0));unfold set9 at HFN;generalize ((((((((w1.setCell _ _).setCell _ _).setCell _ _).setCell _ _).setCell _ _).setCell _ _).setCell _ _).setCell _ _).setCell _ _=Wf at*;obtain⟨⟨x0,x1,x2,x3,x4,x5,x6,x7,x8⟩,hbb,-⟩:=HFN.out;refine bodyPost_ret (v:=.tuple #[.agg #[.int .i64 0,.string ⟨#[]⟩,.string ⟨#[]⟩,.string ⟨#[]⟩,.slice none 0 0,.slice none 0 0,.slice none 0 0,.slice none 0 0,.int .i64 0],.int .i64 2]) (by simp[results,Tryz.results15,go_sem,x0,x1,x2,x3,x4,x5,x6,x7,x8]) rfl ?_;rw[HQ.out];exact BdP.no (HNO).out hbb
 have HOsc:=lhd (show ¬(t.sc< -15∨2<t.sc)by
  rw[Bool.and_eq_true,decide_eq_true_iff,decide_eq_true_iff]at hsc;omega)
 rw[hsc]at HSCL;clear hsc;have hwd:=HWD.out w1 HX1.out.b;cases hwo:(zqM t.dt&&(zqM t.vn&&zqM t.cm))
 ·have HNO:=lhd (show zbx t=(tr0,3)from zbJ (by
   unfold zoJ;rw[if_neg HOsc.out,if_neg (by rw[Bool.and_assoc,hwo];decide)]) (by decide))
  rw[hwo]at hwd;have HW1:=lhd hwd;clear hwo hwd;go_wp2_with fail;refine(HSCL.out _).mono ?_;rintro e w2 ⟨rfl,rfl⟩;go_wp2_with fail;refine(HW1.out).mono ?_;rintro e w3 ⟨rfl,hb⟩;have HX3:=lhd ((HX1).out.step hb);clear hb;clear p0 p1 p2 p3 p4 p5 p6 p7 p8;obtain⟨p0,p1,p2,p3,p4,p5,p6,p7,p8⟩:=(HX3).out.t.nine;clear p0 p1 p2 p3 p4 p5 p6 p7 p8;go_upto_region 5 with fail;obtain⟨⟨r0,r1,r2,r3,r4,r5,r6,r7,r8⟩,⟨f0,f1,f2,f3,f4,f5,f6,f7,f8⟩,q0,q1,q2,q3,q4,q5,q6,q7,q8⟩:=(HX3).out.outs;repeat go_step
  clear r0 r1 r2 r3 r4 r5 r6 r7 r8 f0 f1 f2 f3 f4 f5 f6 f7 f8 q0 q1 q2 q3 q4 q5 q6 q7 q8;have HFN:=lhd ((HX3).out.fin (.int .i64 0) (.string ⟨#[]⟩) (.string ⟨#[]⟩) (.string ⟨#[]⟩) (.slice none 0 0) (.slice none 0 0) (.slice none 0 0) (.slice none 0 0) (.int .i64 0));unfold set9 at HFN;generalize ((((((((w3.setCell _ _).setCell _ _).setCell _ _).setCell _ _).setCell _ _).setCell _ _).setCell _ _).setCell _ _).setCell _ _=Wf at*;obtain⟨⟨x0,x1,x2,x3,x4,x5,x6,x7,x8⟩,hbb,-⟩:=HFN.out;refine bodyPost_ret (v:=.tuple #[.agg #[.int .i64 0,.string ⟨#[]⟩,.string ⟨#[]⟩,.string ⟨#[]⟩,.slice none 0 0,.slice none 0 0,.slice none 0 0,.slice none 0 0,.int .i64 0],.int .i64 3]) (by simp[results,Tryz.results15,go_sem,x0,x1,x2,x3,x4,x5,x6,x7,x8]) rfl ?_;rw[HQ.out];exact BdP.no (HNO).out hbb
 have HTX:=lhd (show zoJ t=0 by
  unfold zoJ;rw[if_neg HOsc.out,if_pos (by rw[Bool.and_assoc];exact hwo)])
 rw[hwo]at hwd;have HW1:=lhd hwd;clear hwo hwd HWD;have HORD:=lhd (fun W (hW:Below w.heap.size w W)=>zlv _ _ t.S t.V W (HSC.out W hW) (HVR.out W hW) HF.out.n.1 HF.out.n.2);have HON:=lhd (fun h=>zjr (S:=t.S) (V:=t.V) h);have HOV:=lhd (fun(v:Vr) h=>zqh (S:=t.S) (V:=t.V) (v:=v) h);have hvv:=zjt t.S t.V;have HDE:=lhd (show zdr t=if(zju t.S t.V).2.2.2≠0 then(zju t.S t.V).2.2.2 else if(zju t.S t.V).2.2.1.any (fun n=>decide ((t.G.length:Int)≤n))=true then 1 else if 64<(zju t.S t.V).2.2.1.length then 9 else 0 from rfl);have HS1:=lhd (show sig1 t=(zju t.S t.V).2.2.1.map (sgI t.G)from rfl);have HBF:=lhd (fun(c:Int) h0 h1 h=>zbE (t:=t) (c:=c) h0 h1 h);have HBN:=lhd (fun(c:Int) h0 h1 h2 h=>zbG (t:=t) (c:=c) h0 h1 h2 h);have HZN:=lhd (fun h1 h2 h3 h4 h5=>zbF (t:=t) h1 h2 h3 h4 h5);have HZS:=lhd (fun h1 h2 h3 h4 h5 h6 (P:List Gp) h7=>zbI (t:=t) HSM.out h1 h2 h3 h4 h5 h6 (P:=P) h7);obtain⟨⟨oS,oV,oN,oE⟩,hO⟩:∃r,r=zju t.S t.V:=⟨_,rfl⟩;rw[←hO]at HORD HDE HS1 HON HOV HBF HBN HZN HZS hvv;dsimp only at HON HOV HDE HS1 HBF HBN HZN HZS hvv;clear hO;go_wp2_with fail;refine(HSCL.out _).mono ?_;rintro e w2 ⟨rfl,rfl⟩;go_wp2_with fail;refine(HW1.out).mono ?_;rintro e w3 ⟨rfl,hb⟩;have HX3:=lhd ((HX1).out.step hb);clear hb;clear p0 p1 p2 p3 p4 p5 p6 p7 p8;obtain⟨p0,p1,p2,p3,p4,p5,p6,p7,p8⟩:=(HX3).out.t.nine;clear HW1 HSCL HX1;go_wp2_with fail;refine(HORD.out w3 HX3.out.b).mono ?_;rintro e w4 ⟨a5,k5,a6,k6,a7,k7,rfl,ho5,ho6,ho7,hb⟩;dsimp only at ho5 ho6 ho7⊢;have HX4:=lhd (HX3.out.step hb);have hzb:w.heap.size+1+1≤w3.heap.size:=Nat.le_of_lt HX3.out.n.2;have HO5:=lhd (zjJ ho5 hzb);have HO6:=lhd (zjJ ho6 hzb);have HO7:=lhd (SlR.of_own ho7);clear hzb;clear hb ho5 ho6 ho7 HORD HX3 HSC HVR;clear p0 p1 p2 p3 p4 p5 p6 p7 p8;obtain⟨p0,p1,p2,p3,p4,p5,p6,p7,p8⟩:=(HX4).out.t.nine;by_cases he0:oE=0
 rotate_left
 ·have HNO:=lhd (show zbx t=(tr0,oE)from zbC HTX.out (by rw[HDE.out,if_pos he0]) he0);have hb0:(oE==0)=false:=by rw[beq_eq_false_iff_ne];exact he0
  clear he0;clear p0 p1 p2 p3 p4 p5 p6 p7 p8;go_upto_region 8 with fail;obtain⟨⟨r0,r1,r2,r3,r4,r5,r6,r7,r8⟩,⟨f0,f1,f2,f3,f4,f5,f6,f7,f8⟩,q0,q1,q2,q3,q4,q5,q6,q7,q8⟩:=(HX4).out.outs;repeat go_step
  clear r0 r1 r2 r3 r4 r5 r6 r7 r8 f0 f1 f2 f3 f4 f5 f6 f7 f8 q0 q1 q2 q3 q4 q5 q6 q7 q8;have HFN:=lhd ((HX4).out.fin (.int .i64 0) (.string ⟨#[]⟩) (.string ⟨#[]⟩) (.string ⟨#[]⟩) (.slice none 0 0) (.slice none 0 0) (.slice none 0 0) (.slice none 0 0) (.int .i64 0));unfold set9 at HFN;generalize ((((((((w4.setCell _ _).setCell _ _).setCell _ _).setCell _ _).setCell _ _).setCell _ _).setCell _ _).setCell _ _).setCell _ _=Wf at*;obtain⟨⟨x0,x1,x2,x3,x4,x5,x6,x7,x8⟩,hbb,-⟩:=HFN.out;refine bodyPost_ret (v:=.tuple #[.agg #[.int .i64 0,.string ⟨#[]⟩,.string ⟨#[]⟩,.string ⟨#[]⟩,.slice none 0 0,.slice none 0 0,.slice none 0 0,.slice none 0 0,.int .i64 0],.int .i64 oE]) (by simp[results,Tryz.results15,go_sem,x0,x1,x2,x3,x4,x5,x6,x7,x8]) rfl ?_;rw[HQ.out];exact BdP.no (HNO).out hbb
 subst he0;obtain⟨hn0,hnl⟩:=HON.out rfl;have hvl:=HF.out.l.2;have hN:oN.length≤1000:=by omega
 have hV:oV.length≤1000:=by omega
 clear hvv;have HN0:=lhd hn0;clear HON hn0 hnl;go_wp2_with fail;clear p0 p1 p2 p3 p4 p5 p6 p7 p8;go_loopw [9] (fun i wr=>∃k:Nat,k≤oN.length∧i=.int .i64 k∧(∀n∈oN.take k,n<(t.G.length:Int))∧Below w4.heap.size w4 wr) (fun i _=>oN.length-(intOf i).toNat)
 case atStart=>exact⟨0,Nat.zero_le _,rfl,zoW,Below.refl _ _⟩
 case round=>
  obtain⟨k,hk,rfl,hfa,hb⟩:=hrel;have HFA:=lhd hfa;have HB:=lhd hb;have HX:=lhd (HX4.out.step hb);clear hb hfa;obtain⟨p0,p1,p2,p3,p4,p5,p6,p7,p8⟩:=(HX).out.t.nine;by_cases hlt:k<oN.length
  ·have hwk:=zhO k (by omega);obtain⟨bo,oo,oc',hov,-,-,hoc⟩:=(HO7.out.below HB.out).at (by omega);injection hov with hov _ hov2;subst hov hov2;have o0:wr.cell? ⟨bo,oo+k,none⟩=some (.int .i64 oN[k]):=hoc k _ (by simp[ints,List.getElem?_map,List.getElem?_eq_getElem hlt]);have hn0:=HN0.out oN[k] (List.getElem_mem hlt);have HYES:=lhd (fun h=>zoV (P:=fun n=>n<(t.G.length:Int)) hlt HFA.out h)
   have HBAD:=lhd (fun(h:(t.G.length:Int)≤oN[k])=>show zbx t=(tr0,1)from zbC HTX.out (by
    rw[HDE.out,if_neg (by simp),if_pos];rw[List.any_eq_true];exact⟨oN[k],List.getElem_mem hlt,by simpa using h⟩) (by decide))
   clear hoc;generalize oN[k]=n at*;by_cases hge:(t.G.length:Int)≤n
   ·have HNO:=lhd (HBAD.out hge);clear HBAD HYES;go_wp2_with fail;go_quiet (fail);have HX9:=lhd (show BdS w (wr.drewN nq) (boxT t a1 a2 a3 a4 k1 k2 k3 k4)from HX.out.step (za5 (Below.refl _ _) nq));clear p0 p1 p2 p3 p4 p5 p6 p7 p8;clear o0;generalize wr.drewN nq=w5 at*;go_upto_region 13 with fail;obtain⟨⟨r0,r1,r2,r3,r4,r5,r6,r7,r8⟩,⟨f0,f1,f2,f3,f4,f5,f6,f7,f8⟩,q0,q1,q2,q3,q4,q5,q6,q7,q8⟩:=(HX9).out.outs;repeat go_step
    clear r0 r1 r2 r3 r4 r5 r6 r7 r8 f0 f1 f2 f3 f4 f5 f6 f7 f8 q0 q1 q2 q3 q4 q5 q6 q7 q8;have HFN:=lhd ((HX9).out.fin (.int .i64 0) (.string ⟨#[]⟩) (.string ⟨#[]⟩) (.string ⟨#[]⟩) (.slice none 0 0) (.slice none 0 0) (.slice none 0 0) (.slice none 0 0) (.int .i64 0));unfold set9 at HFN;generalize ((((((((w5.setCell _ _).setCell _ _).setCell _ _).setCell _ _).setCell _ _).setCell _ _).setCell _ _).setCell _ _).setCell _ _=Wf at*;obtain⟨⟨x0,x1,x2,x3,x4,x5,x6,x7,x8⟩,hbb,-⟩:=HFN.out;refine bodyPost_ret (v:=.tuple #[.agg #[.int .i64 0,.string ⟨#[]⟩,.string ⟨#[]⟩,.string ⟨#[]⟩,.slice none 0 0,.slice none 0 0,.slice none 0 0,.slice none 0 0,.int .i64 0],.int .i64 1]) (by simp[results,Tryz.results15,go_sem,x0,x1,x2,x3,x4,x5,x6,x7,x8]) rfl ?_;rw[HQ.out];exact BdP.no (HNO).out hbb
   ·have HFB:=lhd (HYES.out (by omega));clear HBAD HYES;go_wp2_with fail;go_quiet (fail);have HB9:=lhd (za5 HB.out nq);clear p0 p1 p2 p3 p4 p5 p6 p7 p8;clear o0;go_wp2_with fail;go_roundw;case rel=>exact⟨k+1,hlt,by go_num,HFB.out,HB9.out⟩
    case measure=>simp[intOf];omega
  ·obtain rfl:k=oN.length:=by omega
   have HFB:=lhd (zoU HFA.out);clear HFA hlt hk;by_cases hm:64<oN.length
   ·have HNO:=lhd (show zbx t=(tr0,9)from zbC HTX.out (by
     rw[HDE.out,if_neg (by simp),if_neg,if_pos hm];rw[List.any_eq_true];rintro⟨n,h1,h2⟩;have:=HFB.out n h1;rw[decide_eq_true_iff]at h2;omega) (by decide))
    have hmb:(64:Int)<(oN.length:Int):=by omega
    clear p0 p1 p2 p3 p4 p5 p6 p7 p8;go_upto_region 15 with fail;obtain⟨⟨r0,r1,r2,r3,r4,r5,r6,r7,r8⟩,⟨f0,f1,f2,f3,f4,f5,f6,f7,f8⟩,q0,q1,q2,q3,q4,q5,q6,q7,q8⟩:=(HX).out.outs;repeat go_step
    clear r0 r1 r2 r3 r4 r5 r6 r7 r8 f0 f1 f2 f3 f4 f5 f6 f7 f8 q0 q1 q2 q3 q4 q5 q6 q7 q8;have HFN:=lhd ((HX).out.fin (.int .i64 0) (.string ⟨#[]⟩) (.string ⟨#[]⟩) (.string ⟨#[]⟩) (.slice none 0 0) (.slice none 0 0) (.slice none 0 0) (.slice none 0 0) (.int .i64 0));unfold set9 at HFN;generalize ((((((((wr.setCell _ _).setCell _ _).setCell _ _).setCell _ _).setCell _ _).setCell _ _).setCell _ _).setCell _ _).setCell _ _=Wf at*;obtain⟨⟨x0,x1,x2,x3,x4,x5,x6,x7,x8⟩,hbb,-⟩:=HFN.out;refine bodyPost_ret (v:=.tuple #[.agg #[.int .i64 0,.string ⟨#[]⟩,.string ⟨#[]⟩,.string ⟨#[]⟩,.slice none 0 0,.slice none 0 0,.slice none 0 0,.slice none 0 0,.int .i64 0],.int .i64 9]) (by simp[results,Tryz.results15,go_sem,x0,x1,x2,x3,x4,x5,x6,x7,x8]) rfl ?_;rw[HQ.out];exact BdP.no (HNO).out hbb
   have HDC:=lhd (show zdr t=0 by
    rw[HDE.out,if_neg (by simp),if_neg,if_neg hm];rw[List.any_eq_true];rintro⟨n,h1,h2⟩;have:=HFB.out n h1;rw[decide_eq_true_iff]at h2;omega)
   have hmb:¬(64:Int)<(oN.length:Int):=by omega
   have hN4:oN.length≤64:=by omega
   clear HDE hm HX4;clear p0 p1 p2 p3 p4 p5 p6 p7 p8;have HX5:=HX;have HO55:=lhd (zba HO5.out HB.out);have HO65:=lhd (zba HO6.out HB.out);have HO75:=lhd (HO7.out.below HB.out);clear HX HO5 HO6 HO7 HB;obtain⟨w5,hw5⟩:∃w5,w5=wr:=⟨_,rfl⟩;subst hw5;go_upto_block 2 with fail
   clear hmb;go_cut [3,10,11]from 66 to 92 (fun _ _ _ wc=>zeu (fitE (sig1 t)) oV=0∧Below w5.heap.size w5 wc)
   case first=>
    go_wp2_with fail;go_loopw [10] (fun i wr=>∃k:Nat,k≤oV.length∧i=.int .i64 k∧(∀v∈oV.take k,fitE (sig1 t) v=0)∧Below w5.heap.size w5 wr) (fun i _=>oV.length-(intOf i).toNat)
    case atStart=>exact⟨0,Nat.zero_le _,rfl,zoW,Below.refl _ _⟩
    case round=>
     obtain⟨k,hk,rfl,hfa,hb⟩:=hrel;have HFA:=lhd hfa;have HB:=lhd hb;have HX:=lhd (HX5.out.step hb);clear hb hfa;obtain⟨p0,p1,p2,p3,p4,p5,p6,p7,p8⟩:=(HX).out.t.nine;by_cases hlt:k<oV.length
     ·have hwk:=zhO k (by omega);obtain⟨b6,o6,h6,hcell⟩:=(SlR.of_own (zba HO65.out HB.out)).vrs hlt;subst h6;have d0:wr.cell? ⟨b6,o6+k*7,none⟩=some (.string (bsB oV[k].nm)):=hcell 0 _ rfl;have d1:wr.cell? ⟨b6,o6+k*7+1,none⟩=some (.int .i64 oV[k].ty):=hcell 1 _ rfl;have d2:wr.cell? ⟨b6,o6+k*7+2,none⟩=some (.int .i64 oV[k].sc):=hcell 2 _ rfl;have d3:wr.cell? ⟨b6,o6+k*7+3,none⟩=some (.int .i64 oV[k].sg):=hcell 3 _ rfl;have d4:wr.cell? ⟨b6,o6+k*7+4,none⟩=some (.bool oV[k].rg):=hcell 4 _ rfl;have d5:wr.cell? ⟨b6,o6+k*7+5,none⟩=some (.int .i64 oV[k].mb):=hcell 5 _ rfl;have d6:wr.cell? ⟨b6,o6+k*7+6,none⟩=some (.int .i64 oV[k].lb):=hcell 6 _ rfl;have HYES:=lhd (fun h=>zoV (P:=fun v=>fitE (sig1 t) v=0) hlt HFA.out h);have HBAD:=lhd (fun(h:fitE (sig1 t) oV[k]≠0)=>show zbx t=(tr0,fitE (sig1 t) oV[k])from HBF.out _ HTX.out HDC.out (zev hlt HFA.out h) h);obtain⟨hs0,hsm⟩:=HOV.out oV[k] (List.getElem_mem hlt);have hfe:=zey (sig1 t) oV[k];clear hcell;generalize oV[k]=y at*;obtain⟨nm,ty,sc,sg,rg,mb,lb⟩:=y;dsimp only at d0 d1 d2 d3 d4 d5 d6 hs0 hsm hfe;obtain⟨m,rfl⟩:∃m:Nat,sg=(m:Int):=⟨sg.toNat,by omega⟩;rw[Int.toNat_natCast]at hsm;obtain⟨b7,o7,c7,hov,-,-,hoc⟩:=(HO75.out.below HB.out).at (by omega);injection hov with hov _ hov2;subst hov hov2;have n0:wr.cell? ⟨b7,o7+m,none⟩=some (.int .i64 oN[m]):=hoc m _ (by simp[ints,List.getElem?_map,List.getElem?_eq_getElem hsm]);have hj0:=HN0.out oN[m] (List.getElem_mem hsm);have hj1:=HFB.out oN[m] (List.getElem_mem hsm)
      have hsi:sgI (sig1 t) (m:Int)=sgI t.G oN[m]:=by
       rw[HS1.out];unfold sgI;rw[Int.toNat_natCast,List.getD,List.getElem?_map,List.getElem?_eq_getElem hsm];rfl
      generalize oN[m]=jj at*;obtain⟨j,rfl⟩:∃j:Nat,jj=(j:Int):=⟨jj.toNat,by omega⟩;have hjl:j<p.M.length:=by rw[HML.out];omega
      obtain⟨b2,o2,h2,z0,z1,z2,-⟩:=(HSG.out wr HX.out.b).at hjl;subst h2
      have hsj:sgI t.G (j:Int)=p.M[j].1:=by
       unfold sgI;rw[Int.toNat_natCast,←HMG.out,List.getD,List.getElem?_map,List.getElem?_eq_getElem hjl];rfl
      rw[hsi,hsj]at hfe;generalize p.M[j]=xx at*;obtain⟨⟨sk,sn,sl⟩,sx⟩:=xx;dsimp only at z0 z1 z2 hfe;rw[hfe]at HYES HBAD;have HFI:=lhd (fun W=>zlI ⟨nm,ty,sc,(m:Int),rg,mb,lb⟩ (sk,sn,sl) sx W);generalize fit1 (sk,sn,sl) ⟨nm,ty,sc,(m:Int),rg,mb,lb⟩=fc at*;have hjg:(j:Int)<(t.G.length:Int):=hj1;have SF:=lhd (fun W (hW:Below wr.heap.size wr W)=>(And.intro ((hW.cell (zbT p6)).trans p6) (And.intro ((hW.cell (zbT d0)).trans d0) (And.intro ((hW.cell (zbT d1)).trans d1) (And.intro ((hW.cell (zbT d2)).trans d2) (And.intro ((hW.cell (zbT d3)).trans d3) (And.intro ((hW.cell (zbT d4)).trans d4) (And.intro ((hW.cell (zbT d5)).trans d5) (And.intro ((hW.cell (zbT d6)).trans d6) (And.intro ((hW.cell (zbT n0)).trans n0) (And.intro ((hW.cell (zbT z0)).trans z0) (And.intro ((hW.cell (zbT z1)).trans z1) ((hW.cell (zbT z2)).trans z2)))))))))))));clear hoc hs0 hj0 hj1 hsi hsj hfe;dsimp only[vrV]at HFI;go_upto_region 19 with fail;refine wp_region_held_drew (S:=(fun w'=>w'.cell? ⟨w.heap.size,6,none⟩=some (.slice (some ⟨b2,o2,none⟩) t.G.length k3)∧w'.cell? ⟨b6,o6+k*7,none⟩=some (.string (bsB nm))∧w'.cell? ⟨b6,o6+k*7+1,none⟩=some (.int .i64 ty)∧w'.cell? ⟨b6,o6+k*7+2,none⟩=some (.int .i64 sc)∧w'.cell? ⟨b6,o6+k*7+3,none⟩=some (.int .i64 (m:Int))∧w'.cell? ⟨b6,o6+k*7+4,none⟩=some (.bool rg)∧w'.cell? ⟨b6,o6+k*7+5,none⟩=some (.int .i64 mb)∧w'.cell? ⟨b6,o6+k*7+6,none⟩=some (.int .i64 lb)∧w'.cell? ⟨b7,o7+m,none⟩=some (.int .i64 (j:Int))∧w'.cell? ⟨b2,o2+j*3,none⟩=some (.int .i64 sk)∧w'.cell? ⟨b2,o2+j*3+1,none⟩=some (.int .i64 sn)∧w'.cell? ⟨b2,o2+j*3+2,none⟩=some sx)) (by kernel_rfl) (SF.out _ (Below.refl _ _).drew) (fun hHeld=>?_);clear p0 p1 p2 p3 p4 p5 p6 p7 p8;clear d0 d1 d2 d3 d4 d5 d6 n0 z0 z1 z2;have hbq:Below wr.heap.size wr wr.drew:=(Below.refl _ _).drew;generalize wr.drew=w6 at*;refine tkH 0 hHeld (v:=?_) ?_ ?_;rotate_left
      ·intro w h;(try dsimp only at h);go_simp;all_goals with_reducible rfl
      simp only[tkS];refine tkH 1 hHeld (v:=?_) ?_ ?_;rotate_left
      ·intro w h;(try dsimp only at h);go_simp;all_goals with_reducible rfl
      simp only[tkS];refine tkH 2 hHeld (v:=?_) ?_ ?_;rotate_left
      ·intro w h;(try dsimp only at h);go_simp;all_goals with_reducible rfl
      simp only[tkS];refine tkH 3 hHeld (v:=?_) ?_ ?_;rotate_left
      ·intro w h;(try dsimp only at h);go_simp;all_goals with_reducible rfl
      simp only[tkS];refine tkH 4 hHeld (v:=?_) ?_ ?_;rotate_left
      ·intro w h;(try dsimp only at h);go_simp;all_goals with_reducible rfl
      simp only[tkS];refine tkH 5 hHeld (v:=?_) ?_ ?_;rotate_left
      ·intro w h;(try dsimp only at h);go_simp;all_goals with_reducible rfl
      simp only[tkS];refine tkH 6 hHeld (v:=?_) ?_ ?_;rotate_left
      ·intro w h;(try dsimp only at h);go_simp;all_goals with_reducible rfl
      simp only[tkS];refine tkH 7 hHeld (v:=?_) ?_ ?_;rotate_left
      ·intro w h;(try dsimp only at h);go_simp;all_goals with_reducible rfl
      simp only[tkS];refine tkH 8 hHeld (v:=?_) ?_ ?_;rotate_left
      ·intro w h;(try dsimp only at h);go_simp;all_goals with_reducible rfl
      simp only[tkS];refine tkH 9 hHeld (v:=?_) ?_ ?_;rotate_left
      ·intro w h;(try dsimp only at h);go_simp;all_goals with_reducible rfl
      simp only[tkS];refine tkH 10 hHeld (v:=?_) ?_ ?_;rotate_left
      ·intro w h;(try dsimp only at h);go_simp;all_goals with_reducible rfl
      simp only[tkS];refine tkH 11 hHeld (v:=?_) ?_ ?_;rotate_left
      ·intro w h;(try dsimp only at h);go_simp;all_goals with_reducible rfl
      simp only[tkS];refine tkH 12 hHeld (v:=?_) ?_ ?_;rotate_left
      ·intro w h;(try dsimp only at h);go_simp;all_goals with_reducible rfl
      simp only[tkS];refine tkH 13 hHeld (v:=?_) ?_ ?_;rotate_left
      ·intro w h;(try dsimp only at h);go_simp;all_goals with_reducible rfl
      simp only[tkS];refine tkH 14 hHeld (v:=?_) ?_ ?_;rotate_left
      ·intro w h;(try dsimp only at h);go_simp;all_goals with_reducible rfl
      simp only[tkS];refine tkH 15 hHeld (v:=?_) ?_ ?_;rotate_left
      ·intro w h;(try dsimp only at h);go_simp;all_goals with_reducible rfl
      simp only[tkS];refine oneH 16 (fun K hK=>?_);go_simp;refine(HFI.out w6).mono ?_;rintro e w7 ⟨rfl,hb9⟩;have hbq:=zem hbq hb9;clear hHeld hb9;go_wp2_with fail;refine hK.out _ _ (SF.out _ hbq) (fun hHeld=>?_);clear hK;try simp only[tkS]
      refine tkH 17 hHeld (v:=?_) ?_ ?_;rotate_left
      ·intro w h;(try dsimp only at h);go_simp;all_goals with_reducible rfl
      simp only[tkS];refine wpAnyH_done (by kernel_rfl) ?_ _;have HB7:=lhd (zem HB.out hbq);have HX7:=lhd (HX.out.step hbq);clear hHeld hbq;by_cases hc0:fc=0
      ·have HFB2:=lhd (HYES.out hc0);subst hc0;clear HYES HBAD HFI SF;go_wp2_with fail;go_roundw;case rel=>exact⟨k+1,hlt,by go_num,HFB2.out,HB7.out⟩
       case measure=>simp[intOf];omega
      ·have HNO:=lhd (HBAD.out hc0);have hb0:(fc==0)=false:=by rw[beq_eq_false_iff_ne];exact hc0
       clear HYES HBAD HFI SF hc0;go_upto_region 21 with fail;obtain⟨⟨r0,r1,r2,r3,r4,r5,r6,r7,r8⟩,⟨f0,f1,f2,f3,f4,f5,f6,f7,f8⟩,q0,q1,q2,q3,q4,q5,q6,q7,q8⟩:=(HX7).out.outs;repeat go_step
       clear r0 r1 r2 r3 r4 r5 r6 r7 r8 f0 f1 f2 f3 f4 f5 f6 f7 f8 q0 q1 q2 q3 q4 q5 q6 q7 q8;have HFN:=lhd ((HX7).out.fin (.int .i64 0) (.string ⟨#[]⟩) (.string ⟨#[]⟩) (.string ⟨#[]⟩) (.slice none 0 0) (.slice none 0 0) (.slice none 0 0) (.slice none 0 0) (.int .i64 0));unfold set9 at HFN;generalize ((((((((w7.setCell _ _).setCell _ _).setCell _ _).setCell _ _).setCell _ _).setCell _ _).setCell _ _).setCell _ _).setCell _ _=Wf at*;obtain⟨⟨x0,x1,x2,x3,x4,x5,x6,x7,x8⟩,hbb,-⟩:=HFN.out;refine bodyPost_ret (v:=.tuple #[.agg #[.int .i64 0,.string ⟨#[]⟩,.string ⟨#[]⟩,.string ⟨#[]⟩,.slice none 0 0,.slice none 0 0,.slice none 0 0,.slice none 0 0,.int .i64 0],.int .i64 fc]) (by simp[results,Tryz.results15,go_sem,x0,x1,x2,x3,x4,x5,x6,x7,x8]) rfl ?_;rw[HQ.out];exact BdP.no (HNO).out hbb
     ·obtain rfl:k=oV.length:=by omega
      have HFV:=lhd (show zeu (fitE (sig1 t)) oV=0 from zex.2 (zoU HFA.out));clear HFA hlt hk HBF;go_wp2_with fail;go_meet
      case rel=>exact⟨HFV.out,HB.out⟩
   case rest=>
    obtain⟨hfv,hb⟩:=hcut;have HFV:=lhd hfv;have HX8:=lhd (HX5.out.step hb);have HO58:=lhd (zba HO55.out hb);have HO68:=lhd (zba HO65.out hb);have HO78:=lhd (HO75.out.below hb);clear HX5 HO55 HO65 HO75 hfv hb HBF HOV;obtain⟨w8,hw8⟩:∃w8,w8=wc:=⟨_,rfl⟩;subst hw8;have HSL:=lhd (show(sig1 t).length=oN.length by rw[HS1.out,List.length_map]);have HGI:=lhd (fun(k:Nat) (h:k<(sig1 t).length) (h2:k<oN.length)=>show(sig1 t)[k]=sgI t.G oN[k]by simp[HS1.out])
    have HNI:=lhd (fun(k:Nat) (h:k<(sig1 t).length)=>show(zic (sig1 t)).take (k+1)=(zic (sig1 t)).take k++ [(zij (sig1 t)[k].1 (sig1 t)[k].2.1 (sig1 t)[k].2.2).1]by
     have h2:k<(zic (sig1 t)).length:=by unfold zic;rw[List.length_map];exact h
     rw[List.take_succ_eq_append_getElem h2];simp[zic])
    have HSF:=lhd (zm7 HF.out);obtain⟨is,his,sz0,sz1,sz2⟩:=info_parts (P:=Tryz.prog) zmW;go_upto_block 4 with fail
    go_cut [3,12,13,14,15,16]from 94 to 125 (fun _ s12 _ _ _ _ wc=>∃(a:Option Addr) (k:Nat) (M:List (Sg×Value)),s12=.slice a M.length k∧M.length=oN.length∧zh6 (sig1 t)=0∧M.map Prod.fst=zic (sig1 t)∧SgO w8 wc (.slice a M.length k) M)
    case first=>
     go_wp2_with fail;go_loopw [12,13] (fun v i wr=>∃(k:Nat) (M:List (Sg×Value)),k≤oN.length∧i=.int .i64 k∧(∃a c,v=.slice a k c)∧M.length=k∧(∀s∈(sig1 t).take k,(zij s.1 s.2.1 s.2.2).2=0)∧M.map Prod.fst=(zic (sig1 t)).take k∧SgO w8 wr v M) (fun _ i _=>oN.length-(intOf i).toNat)
     case atStart=>exact⟨0,[],Nat.zero_le _,rfl,⟨_,_,rfl⟩,rfl,zoW,by rw[List.take_zero];rfl,⟨World.ownsRow_made w8 #[] 0 (Nat.le_refl _) (Nat.zero_le _) rfl,fun x hx=>by simp at hx,(Below.refl _ _).alloc (Nat.le_refl _) _⟩⟩
     case round=>
      obtain⟨k,M,hk,rfl,⟨ao,co,rfl⟩,hMk,hfa,hmm,hsg⟩:=hrel;have HFA:=lhd hfa;have HMM:=lhd hmm;have HSO:=lhd hsg;have HX:=lhd (HX8.out.step hsg.b);clear hfa hmm hsg;obtain⟨p0,p1,p2,p3,p4,p5,p6,p7,p8⟩:=(HX).out.t.nine;by_cases hlt:k<oN.length
      ·have hwk:=zhO k (by omega);obtain⟨b7,o7,c7,hov,-,-,hoc⟩:=(HO78.out.below HSO.out.b).at (by omega);injection hov with hov _ hov2;subst hov hov2;have n0:wr.cell? ⟨b7,o7+k,none⟩=some (.int .i64 oN[k]):=hoc k _ (by simp[ints,List.getElem?_map,List.getElem?_eq_getElem hlt]);have hj0:=HN0.out oN[k] (List.getElem_mem hlt);have hj1:=HFB.out oN[k] (List.getElem_mem hlt);have hls:k<(sig1 t).length:=by rw[HSL.out];exact hlt
       have hgi:=HGI.out k hls hlt;have hni:=HNI.out k hls;have hsf:=(HSF.out _ (List.getElem_mem hls)).1;have hyes:=fun h=>zoV (P:=fun s:Sg=>(zij s.1 s.2.1 s.2.2).2=0) hls HFA.out h;have hbad:=fun(h:(zij (sig1 t)[k].1 (sig1 t)[k].2.1 (sig1 t)[k].2.2).2≠0)=>show zbx t=(tr0,(zij (sig1 t)[k].1 (sig1 t)[k].2.1 (sig1 t)[k].2.2).2)from HBN.out _ HTX.out HDC.out HFV.out (zev (f:=fun s:Sg=>(zij s.1 s.2.1 s.2.2).2) hls HFA.out h) h;rw[hgi]at hni hsf hyes hbad;generalize oN[k]=jj at*;obtain⟨j,rfl⟩:∃j:Nat,jj=(j:Int):=⟨jj.toNat,by omega⟩;have hjl:j<p.M.length:=by rw[HML.out];omega
       obtain⟨b2,o2,h2,z0,z1,z2,zs⟩:=(HSG.out wr HX.out.b).at hjl;subst h2
       have hsj:sgI t.G (j:Int)=p.M[j].1:=by
        unfold sgI;rw[Int.toNat_natCast,←HMG.out,List.getD,List.getElem?_map,List.getElem?_eq_getElem hjl];rfl
       rw[hsj]at hni hsf hyes hbad;generalize p.M[j]=xx at*;obtain⟨⟨sk,sn,sl⟩,sx⟩:=xx;dsimp only at z0 z1 z2 zs hni hsf hyes hbad;obtain⟨xa,xc,rfl,-,-⟩:=zs.shape;have HNZ:=lhd (fun W (hW:Below wr.heap.size wr W)=>zkV sk sn _ sl W (zs.below hW) hsf);have HYES:=lhd hyes;have HBAD:=lhd hbad;have HNI2:=lhd hni;have hjg:(j:Int)<(t.G.length:Int):=hj1;clear hoc hj0 hj1 hsj hgi hni hsf hyes hbad zs hls;generalize zij sk sn sl=r at*;obtain⟨⟨rk,rn,rl⟩,rc⟩:=r;dsimp only at HNI2;have SF:=lhd (fun W (hW:Below wr.heap.size wr W)=>(And.intro ((hW.cell (zbT p6)).trans p6) (And.intro ((hW.cell (zbT n0)).trans n0) (And.intro ((hW.cell (zbT z0)).trans z0) (And.intro ((hW.cell (zbT z1)).trans z1) ((hW.cell (zbT z2)).trans z2))))));go_upto_region 26 with fail;obtain⟨e6,en,e0,e1,e2⟩:=SF.out _ (za9 wr #[.int .i64 0,.int .i64 0,.slice none 0 0] 45);go_region
       have hb10:Below wr.heap.size wr (wr.alloc (.cells #[.int .i64 sk,.int .i64 sn,.slice xa sl.length xc] 45)).drew:=(za9 wr #[.int .i64 sk,.int .i64 sn,.slice xa sl.length xc] 45).drew;have Y:=zal.fresh wr #[.int .i64 sk,.int .i64 sn,.slice xa sl.length xc] 45;have y0:(wr.alloc (.cells #[.int .i64 sk,.int .i64 sn,.slice xa sl.length xc] 45)).drew.cell? ⟨wr.heap.size,0,none⟩=some (.int .i64 sk):=Y.cell (j:=0) rfl;have y1:(wr.alloc (.cells #[.int .i64 sk,.int .i64 sn,.slice xa sl.length xc] 45)).drew.cell? ⟨wr.heap.size,1,none⟩=some (.int .i64 sn):=Y.cell (j:=1) rfl;have y2:(wr.alloc (.cells #[.int .i64 sk,.int .i64 sn,.slice xa sl.length xc] 45)).drew.cell? ⟨wr.heap.size,2,none⟩=some (.slice xa sl.length xc):=Y.cell (j:=2) rfl;clear p0 p1 p2 p3 p4 p5 p6 p7 p8;clear e6 en e0 e1 e2 n0 z0 z1 z2 SF Y;have HNZ9:=lhd (HNZ.out _ hb10);have HS10:=lhd (HSO.out.step hb10);have HX10:=lhd (HX.out.step hb10);generalize (wr.alloc (.cells #[.int .i64 sk,.int .i64 sn,.slice xa sl.length xc] 45)).drew=w10 at*;clear hb10 HNZ HSO HX;go_wp2_with fail;refine HNZ9.out.mono ?_;rintro e w11 ⟨v11,rfl,ho11,hb11⟩;dsimp only at ho11⊢;obtain⟨na,nc,rfl,-,-⟩:=(SlR.of_own ho11).shape;have hb12:Below w11.heap.size w11 (w11.alloc (.cells #[.int .i64 rk,.int .i64 rn,.slice na rl.length nc] 45)):=za9 w11 #[.int .i64 rk,.int .i64 rn,.slice na rl.length nc] 45;have HO11:=lhd (zba (zjJ ho11 (show w8.heap.size≤w10.heap.size from HS10.out.b.size)) hb12);have HS11:=lhd ((HS10.out.step hb11).step hb12);have HX11:=lhd ((HX10.out.step hb11).step hb12);have Y:=lhd (zal.fresh w11 #[.int .i64 rk,.int .i64 rn,.slice na rl.length nc] 45);have HZ:=lhd (show w11.heap.size<(w11.alloc (.cells #[.int .i64 rk,.int .i64 rn,.slice na rl.length nc] 45)).heap.size by simp);clear ho11 hb11 hb12 HS10 HX10 HNZ9 y0 y1 y2;go_upto_region 28 with fail;generalize hg11:w11.heap.size=g11 at*;generalize w11.alloc (.cells #[.int .i64 rk,.int .i64 rn,.slice na rl.length nc] 45)=w12 at*;clear hg11;by_cases hrc:rc=0
       ·subst hrc;have HYES2:=lhd (HYES.out rfl);clear HYES HBAD;have y0:=Y.out.cell (j:=0) rfl;have y1:=Y.out.cell (j:=1) rfl;have y2:=Y.out.cell (j:=2) rfl;have hwz:=HS11.out.b.size;go_wp2_with (at_builtin;refine wpList_append_own _ rfl _ _ 24 rfl w8.heap.size 45 is (.agg #[.int .i64 0,.int .i64 0,.slice none 0 0]) 3 40 Tryz.underlying24 his sz0 sz1 sz2 rfl (by decide) _ _ _ rfl (World.ownsRow.alloc (by exact HS11.out.o) _) ⟨w12.heap.size,0,none⟩ 1 1 [.int .i64 rk,.int .i64 rn,.slice na rl.length nc] rfl rfl (World.news_of_block (cs:=#[.int .i64 rk,.int .i64 rn,.slice na rl.length nc]) (t:=45) (fr:=(0,0)) (by exact heap_alloc_new w12 _)) (by simp[Value.oneCell']) (by unfold maxLen;omega) (by omega) (by simp;omega) ?_)
        intro v13 w13 ho13 hg13 _;have hs13:=HS11.out.add (x:=((rk,rn,rl),.slice na rl.length nc)) hg13 HO11.out (by rw[hMk];exact ho13);have hs14:=hs13.o;obtain⟨a13,c13,rfl,-,-⟩:=(SlR.of_own ho13).shape;have HS13:=lhd hs13;clear ho13 hg13 hs13 hs14 y0 y1 y2 hwz;go_wp2_with fail;go_roundw;case rel=>exact⟨k+1,M++ [((rk,rn,rl),.slice na rl.length nc)],hlt,by go_num,⟨_,_,by first|rfl|rw[hMk]⟩,by rw[List.length_append,hMk];rfl,HYES2.out,by rw[List.map_append,HMM.out,HNI2.out];rfl,HS13.out⟩
        case measure=>simp[intOf];omega
       ·have HNO:=lhd (HBAD.out hrc);have hb0:(rc==0)=false:=by rw[beq_eq_false_iff_ne];exact hrc
        clear HYES HBAD hrc;go_upto_region 29 with fail;obtain⟨⟨r0,r1,r2,r3,r4,r5,r6,r7,r8⟩,⟨f0,f1,f2,f3,f4,f5,f6,f7,f8⟩,q0,q1,q2,q3,q4,q5,q6,q7,q8⟩:=(HX11).out.outs;repeat go_step
        clear r0 r1 r2 r3 r4 r5 r6 r7 r8 f0 f1 f2 f3 f4 f5 f6 f7 f8 q0 q1 q2 q3 q4 q5 q6 q7 q8;have HFN:=lhd ((HX11).out.fin (.int .i64 0) (.string ⟨#[]⟩) (.string ⟨#[]⟩) (.string ⟨#[]⟩) (.slice none 0 0) (.slice none 0 0) (.slice none 0 0) (.slice none 0 0) (.int .i64 0));unfold set9 at HFN;generalize ((((((((w12.setCell _ _).setCell _ _).setCell _ _).setCell _ _).setCell _ _).setCell _ _).setCell _ _).setCell _ _).setCell _ _=Wf at*;obtain⟨⟨x0,x1,x2,x3,x4,x5,x6,x7,x8⟩,hbb,-⟩:=HFN.out;refine bodyPost_ret (v:=.tuple #[.agg #[.int .i64 0,.string ⟨#[]⟩,.string ⟨#[]⟩,.string ⟨#[]⟩,.slice none 0 0,.slice none 0 0,.slice none 0 0,.slice none 0 0,.int .i64 0],.int .i64 rc]) (by simp[results,Tryz.results15,go_sem,x0,x1,x2,x3,x4,x5,x6,x7,x8]) rfl ?_;rw[HQ.out];exact BdP.no (HNO).out hbb
      ·obtain rfl:k=oN.length:=by omega
       have HNE:=lhd (show zh6 (sig1 t)=0 from zex.2 (by rw[←HSL.out]at HFA;exact zoU HFA.out));have HMG2:=lhd (show M.map Prod.fst=zic (sig1 t)by rw[HMM.out,List.take_of_length_le (by unfold zic;rw[List.length_map,HSL.out];exact Nat.le_refl _)]);clear hlt hk;clear p0 p1 p2 p3 p4 p5 p6 p7 p8;go_wp2_with fail;go_meet
       case rel=>exact⟨ao,co,M,by rw[hMk],hMk,HNE.out,HMG2.out,by rw[hMk];exact HSO.out⟩
    case rest=>
     obtain⟨ao,co,M,rfl,hMk,hne,hmm,hsg⟩:=hcut;have hml:M.length≤64:=by omega
     clear hMk;have HNE:=lhd hne;have HMM:=lhd hmm;have HSO:=lhd hsg;have HX9:=lhd (HX8.out.step hsg.b);have HO59:=lhd (zba HO58.out hsg.b);have HO69:=lhd (zba HO68.out hsg.b);have hz8:w.heap.size+1+1≤w8.heap.size:=Nat.le_of_lt HX8.out.n.2;clear hne hmm hsg HO78 HSL HGI HNI HSF HBN HN0 HFB HS1;have HJ:=lhd (zlM _ t.P wc (HGP.out wc HX9.out.b) HF.out.p);obtain⟨p0,p1,p2,p3,p4,p5,p6,p7,p8⟩:=(HX9).out.t.nine;go_wp2_with fail;refine HJ.out.mono ?_;rintro e w10 ⟨⟨v10,b10,rfl,hj⟩,hb⟩;have HX10:=lhd (HX9.out.step hb);have HSO10:=lhd (HSO.out.step hb);have HO5A:=lhd (zba HO59.out hb);have HO6A:=lhd (zba HO69.out hb);have hz9:w.heap.size+1+1≤wc.heap.size:=Nat.le_of_lt HX9.out.n.2;clear hb HX9 HSO HO59 HO69 HJ;clear p0 p1 p2 p3 p4 p5 p6 p7 p8;obtain⟨p0,p1,p2,p3,p4,p5,p6,p7,p8⟩:=(HX10).out.t.nine;by_cases e1:t.en<0
     ·have HNO:=lhd (HZN.out HTX.out HDC.out HFV.out HNE.out (.inl e1));clear hj;go_upto_region 33 with fail;obtain⟨⟨r0,r1,r2,r3,r4,r5,r6,r7,r8⟩,⟨f0,f1,f2,f3,f4,f5,f6,f7,f8⟩,q0,q1,q2,q3,q4,q5,q6,q7,q8⟩:=(HX10).out.outs;repeat go_step
      clear r0 r1 r2 r3 r4 r5 r6 r7 r8 f0 f1 f2 f3 f4 f5 f6 f7 f8 q0 q1 q2 q3 q4 q5 q6 q7 q8;have HFN:=lhd ((HX10).out.fin (.int .i64 0) (.string ⟨#[]⟩) (.string ⟨#[]⟩) (.string ⟨#[]⟩) (.slice none 0 0) (.slice none 0 0) (.slice none 0 0) (.slice none 0 0) (.int .i64 0));unfold set9 at HFN;generalize ((((((((w10.setCell _ _).setCell _ _).setCell _ _).setCell _ _).setCell _ _).setCell _ _).setCell _ _).setCell _ _).setCell _ _=Wf at*;obtain⟨⟨x0,x1,x2,x3,x4,x5,x6,x7,x8⟩,hbb,-⟩:=HFN.out;refine bodyPost_ret (v:=.tuple #[.agg #[.int .i64 0,.string ⟨#[]⟩,.string ⟨#[]⟩,.string ⟨#[]⟩,.slice none 0 0,.slice none 0 0,.slice none 0 0,.slice none 0 0,.int .i64 0],.int .i64 2]) (by simp[results,Tryz.results15,go_sem,x0,x1,x2,x3,x4,x5,x6,x7,x8]) rfl ?_;rw[HQ.out];exact BdP.no (HNO).out hbb
     by_cases e2:1099511627776<t.en
     ·have HNO:=lhd (HZN.out HTX.out HDC.out HFV.out HNE.out (.inr (.inl e2)));clear hj;go_upto_region 33 with fail;obtain⟨⟨r0,r1,r2,r3,r4,r5,r6,r7,r8⟩,⟨f0,f1,f2,f3,f4,f5,f6,f7,f8⟩,q0,q1,q2,q3,q4,q5,q6,q7,q8⟩:=(HX10).out.outs;repeat go_step
      clear r0 r1 r2 r3 r4 r5 r6 r7 r8 f0 f1 f2 f3 f4 f5 f6 f7 f8 q0 q1 q2 q3 q4 q5 q6 q7 q8;have HFN:=lhd ((HX10).out.fin (.int .i64 0) (.string ⟨#[]⟩) (.string ⟨#[]⟩) (.string ⟨#[]⟩) (.slice none 0 0) (.slice none 0 0) (.slice none 0 0) (.slice none 0 0) (.int .i64 0));unfold set9 at HFN;generalize ((((((((w10.setCell _ _).setCell _ _).setCell _ _).setCell _ _).setCell _ _).setCell _ _).setCell _ _).setCell _ _).setCell _ _=Wf at*;obtain⟨⟨x0,x1,x2,x3,x4,x5,x6,x7,x8⟩,hbb,-⟩:=HFN.out;refine bodyPost_ret (v:=.tuple #[.agg #[.int .i64 0,.string ⟨#[]⟩,.string ⟨#[]⟩,.string ⟨#[]⟩,.slice none 0 0,.slice none 0 0,.slice none 0 0,.slice none 0 0,.int .i64 0],.int .i64 2]) (by simp[results,Tryz.results15,go_sem,x0,x1,x2,x3,x4,x5,x6,x7,x8]) rfl ?_;rw[HQ.out];exact BdP.no (HNO).out hbb
     obtain⟨J,hJ⟩:∃J,J=zgE 0 [] t.P:=⟨_,rfl⟩;rw[←hJ]at hj;have HJE:=lhd hJ;clear hJ;cases J with
     |none=>
      have hj:b10=false:=hj;subst hj;have HNO:=lhd (HZN.out HTX.out HDC.out HFV.out HNE.out (.inr (.inr HJE.out.symm)));go_upto_region 33 with fail;obtain⟨⟨r0,r1,r2,r3,r4,r5,r6,r7,r8⟩,⟨f0,f1,f2,f3,f4,f5,f6,f7,f8⟩,q0,q1,q2,q3,q4,q5,q6,q7,q8⟩:=(HX10).out.outs;repeat go_step
      clear r0 r1 r2 r3 r4 r5 r6 r7 r8 f0 f1 f2 f3 f4 f5 f6 f7 f8 q0 q1 q2 q3 q4 q5 q6 q7 q8;have HFN:=lhd ((HX10).out.fin (.int .i64 0) (.string ⟨#[]⟩) (.string ⟨#[]⟩) (.string ⟨#[]⟩) (.slice none 0 0) (.slice none 0 0) (.slice none 0 0) (.slice none 0 0) (.int .i64 0));unfold set9 at HFN;generalize ((((((((w10.setCell _ _).setCell _ _).setCell _ _).setCell _ _).setCell _ _).setCell _ _).setCell _ _).setCell _ _).setCell _ _=Wf at*;obtain⟨⟨x0,x1,x2,x3,x4,x5,x6,x7,x8⟩,hbb,-⟩:=HFN.out;refine bodyPost_ret (v:=.tuple #[.agg #[.int .i64 0,.string ⟨#[]⟩,.string ⟨#[]⟩,.string ⟨#[]⟩,.slice none 0 0,.slice none 0 0,.slice none 0 0,.slice none 0 0,.int .i64 0],.int .i64 2]) (by simp[results,Tryz.results15,go_sem,x0,x1,x2,x3,x4,x5,x6,x7,x8]) rfl ?_;rw[HQ.out];exact BdP.no (HNO).out hbb
     |some P=>
      obtain⟨rfl,pa,pc,rfl,hpo⟩:=hj;obtain⟨hy1,hy2,hT,hsv,hpl⟩:=HZS.out HTX.out HDC.out HFV.out HNE.out (by omega) (by omega) P HJE.out.symm;obtain⟨EN,hEN⟩:∃EN,EN=endR t P:=⟨_,rfl⟩;rw[←hEN]at hy1 hy2 hT;have HGB:=lhd (fun g (hg:g∈P)=>show 0≤g.1∧g.1<g.2∧g.2≤1099511627777 from⟨(hT.ok.mem g hg).1,(hT.ok.mem g hg).2,(hT.most g hg).1⟩);have HY1:=lhd hy1;have HY2:=lhd hy2;have HPO:=lhd (zjJ hpo hz9);have HNL:=lhd (fun s hs=>zie HSM.out HNE.out s hs);clear hy1 hy2 hT hsv hpo HZS HZN hz9;have HLA:=lhd (fun W (hW:Below w10.heap.size w10 W)=>zlu _ M W (HSO10.out.step hW).sigs (by omega));have SF:=lhd (fun W (hW:Below w10.heap.size w10 W)=>((hW.cell (zbT p8)).trans p8));go_upto_region 34 with fail;refine wp_region_held_drew (S:=(fun w'=>w'.cell? ⟨w.heap.size,8,none⟩=some (.int .i64 t.en))) (by kernel_rfl) (SF.out _ (Below.refl _ _).drew) (fun hHeld=>?_);clear p0 p1 p2 p3 p4 p5 p6 p7 p8;have hbq:Below w10.heap.size w10 w10.drew:=(Below.refl _ _).drew;generalize w10.drew=w11 at*;refine tkH 0 hHeld (v:=?_) ?_ ?_;rotate_left
      ·intro w h;(try dsimp only at h);go_simp;all_goals with_reducible rfl
      simp only[tkS];refine tkH 1 hHeld (v:=?_) ?_ ?_;rotate_left
      ·intro w h;(try dsimp only at h);go_simp;all_goals with_reducible rfl
      simp only[tkS];refine tkH 2 hHeld (v:=?_) ?_ ?_;rotate_left
      ·intro w h;(try dsimp only at h);go_simp;all_goals with_reducible rfl
      simp only[tkS];refine oneH 3 (fun K hK=>?_);go_simp;refine(HLA.out w11 hbq).mono ?_;rintro e w12 ⟨rfl,hb⟩;have hbq:=zem hbq hb;rw[HMM.out];clear hHeld hb;go_wp2_with fail;refine hK.out _ _ (SF.out _ hbq) (fun hHeld=>?_);clear hK;try simp only[tkS]
      refine tkH 4 hHeld (v:=?_) ?_ ?_;rotate_left
      ·intro w h;(try dsimp only at h);go_simp;all_goals with_reducible rfl
      simp only[tkS];refine tkH 5 hHeld (v:=?_) ?_ ?_;rotate_left
      ·intro w h;(try dsimp only at h);go_simp;all_goals with_reducible rfl
      simp only[tkS];refine wpAnyH_done (by kernel_rfl) ?_ _;clear hHeld;obtain⟨E0,hE0⟩:∃E0,E0=max t.en (zgT (zic (sig1 t)) (-1)):=⟨_,rfl⟩;rw[←hE0];have HEN:=lhd (show EN=zdM P E0 by rw[hEN,hE0];rfl);have HX12:=lhd (HX10.out.step hbq);have HS12:=lhd (HSO10.out.step hbq);have HP12:=lhd (zba HPO.out hbq);clear hbq HX10 HSO10 HPO HO5A HO6A HJE HLA SF hE0 hEN;go_wp2_with fail;go_loopw [19,20] (fun e_ i wr=>∃k:Nat,k≤P.length∧i=.int .i64 k∧e_=.int .i64 (zdM (P.take k) E0)∧Below w12.heap.size w12 wr) (fun _ i _=>P.length-(intOf i).toNat)
      case atStart=>exact⟨0,Nat.zero_le _,rfl,rfl,Below.refl _ _⟩
      case round=>
       obtain⟨k,hk,rfl,rfl,hb⟩:=hrel;have HB:=lhd hb;clear hb;by_cases hlt:k<P.length
       ·have hwk:=zhO k (by omega);obtain⟨b4,o4,h4,hc4⟩:=(SlR.of_own (zba HP12.out HB.out)).gps hlt;subst h4;have d1:wr.cell? ⟨b4,o4+k*2+1,none⟩=some (.int .i64 P[k].2):=hc4 1 _ rfl;have HTK:=lhd (zdR hlt E0);have hgb:=HGB.out P[k] (List.getElem_mem hlt);have hw2:IntKind.i64.wrap (P[k].2-1)=P[k].2-1:=IntWalk.i64_in _ (by omega);clear hc4;generalize P[k].2=g2 at*;generalize zdM (P.take k) E0=e0 at*;go_wp2_with fail;go_roundw;case rel=>exact⟨k+1,hlt,by go_num,by rw[HTK.out],HB.out⟩
        case measure=>simp[intOf];omega
       ·obtain rfl:k=P.length:=by omega
        have hE:zdM (P.take P.length) E0=EN:=by rw[List.take_of_length_le (Nat.le_refl _)];exact HEN.out.symm
        rw[hE];have HS13:=lhd (HS12.out.step HB.out);have HP13:=lhd (zba HP12.out HB.out);clear hE HB HX12 HS12 HP12 hk hlt HEN;obtain⟨w13,hw13⟩:∃w13,w13=wr:=⟨_,rfl⟩;subst hw13;obtain⟨N,hN⟩:∃N,N=zic (sig1 t):=⟨_,rfl⟩;rw[←hN]at HMM HY1 HY2 HNL;have HNM:=lhd (show N.length=M.length by rw[←HMM.out,List.length_map]);clear hN;go_wp2_with fail;go_loopw [21] (fun i wr=>∃(k:Nat) (M1:List (Sg×Value)),k≤P.length∧i=.int .i64 k∧M1.length=M.length∧M1.map Prod.fst=clrR (P.take k) EN N∧SgO w8 wr (.slice ao M1.length co) M1∧wr.ownsRow (w.heap.size+1+1) 57 2 (.slice pa P.length pc) P.length (gps P)) (fun i _=>P.length-(intOf i).toNat)
        case atStart=>exact⟨0,M,Nat.zero_le _,rfl,rfl,by rw[List.take_zero,zcA];exact HMM.out,HS13.out,HP13.out⟩
        case round=>
         clear HS13 HP13;obtain⟨k,M1,hk,rfl,hl1,hm1,hs1,hp1⟩:=hrel;have HL1:=lhd hl1;have HM1:=lhd hm1;have HS1:=lhd hs1;have HP1:=lhd hp1;clear hl1 hm1 hs1 hp1;by_cases hlt:k<P.length
         ·have hwk:=zhO k (by omega);obtain⟨G0,hG0⟩:∃G0,G0=clrR (P.take k) EN N:=⟨_,rfl⟩;have HCR:=lhd (show clrR (P.take (k+1)) EN N=G0.map (offK EN P[k])by rw[hG0];exact zcD hlt EN N);have HGL:=lhd (show G0.length=M.length by rw[hG0,zcB];exact HNM.out);have HGF:=lhd (show ∀s∈G0,s.2.2.length≤5000 by rw[hG0];exact zcy HGB.out hpl HNL.out);rw[←hG0]at HM1;have hgb:=HGB.out P[k] (List.getElem_mem hlt);clear hG0;obtain⟨gp,hgp⟩:∃gp,gp=P[k]:=⟨_,rfl⟩;rw[←hgp]at HCR hgb;have HPK:=lhd hgp;clear hgp;obtain⟨ga,gb⟩:=gp;dsimp only at hgb;go_wp2_with fail;go_loopw [22] (fun j wr=>∃(j':Nat) (M2:List (Sg×Value)),j'≤M.length∧j=.int .i64 j'∧M2.length=M.length∧M2.map Prod.fst=(G0.map (offK EN (ga,gb))).take j'++G0.drop j'∧SgO w8 wr (.slice ao M2.length co) M2∧wr.ownsRow (w.heap.size+1+1) 57 2 (.slice pa P.length pc) P.length (gps P)) (fun j _=>M.length-(intOf j).toNat)
          case atStart=>exact⟨0,M1,Nat.zero_le _,rfl,HL1.out,by rw[List.take_zero,List.drop_zero,HM1.out];rfl,HS1.out,HP1.out⟩
          case round=>
           clear HL1 HM1 HS1 HP1;obtain⟨j,M2,hj,rfl,hl2,hm2,hs2,hp2⟩:=hrel;have HL2:=lhd hl2;have HM2:=lhd hm2;have HS2:=lhd hs2;have HP2:=lhd hp2;clear hl2 hm2 hs2 hp2;by_cases hjl:j<M.length
           ·have hwj:=zhO j (by omega);obtain⟨X,y,Z,hXY,hXj⟩:=zhs M2 j (by rw[HL2.out];exact hjl);subst hXY;obtain⟨hyg,hky,hpy⟩:=zcG HM2.out (by rw[HL2.out,HGL.out]) hXj;have hyl:=HGF.out _ hyg;obtain⟨g,c,hv,-,-,-,hcell⟩:=zjx HS2.out.o (by rw[HL2.out];omega);injection hv with hv _ hv2;subst hv hv2;obtain⟨s0,s1,s2⟩:=zm1 X Z y;rw[hXj]at s0 s1 s2;have z0:wr.cell? ⟨g,j*3,none⟩=some (.int .i64 y.1.1):=hcell _ _ s0;have z1:wr.cell? ⟨g,j*3+1,none⟩=some (.int .i64 y.1.2.1):=hcell _ _ s1;have z2:wr.cell? ⟨g,j*3+2,none⟩=some y.2:=hcell _ _ s2;have hyr:=HS2.out.c y (by simp);have HXJ:=lhd hXj;clear hcell s0 s1 s2 hyg hXj;obtain⟨⟨sk,sn,sl⟩,sv⟩:=y;dsimp only at z0 z1 z2 hyl hyr hky hpy;by_cases hsk:sk=0
            ·subst hsk;have HPY:=lhd (fun v=>show(X++(offR EN (ga,gb) (0,sn,sl),v)::Z).map Prod.fst=(G0.map (offK EN (ga,gb))).take (j+1)++G0.drop (j+1)from hpy v);obtain⟨b4,o4,h4,hc4⟩:=(SlR.of_own HP2.out).gps hlt;subst h4;rw[←HPK.out]at hc4;have d0:wr.cell? ⟨b4,o4+k*2,none⟩=some (.int .i64 ga):=hc4 0 _ rfl;have d1:wr.cell? ⟨b4,o4+k*2+1,none⟩=some (.int .i64 gb):=hc4 1 _ rfl;have HOF:=lhd (fun W (hW:Below wr.heap.size wr W)=>zlO (0,sn,sl) sv (ga,gb) EN W ((SlR.of_own hyr).below hW) hyl hgb.1 hgb.2.1 hgb.2.2);obtain⟨sva,svc,rfl,-,-⟩:=(SlR.of_own hyr).shape;clear hc4 hky hpy hyr;go_upto_region 46 with fail;have SF:=lhd (fun W (hW:Below wr.heap.size wr W)=>And.intro ((hW.cell (zbT z0)).trans z0) (And.intro ((hW.cell (zbT z1)).trans z1) (And.intro ((hW.cell (zbT z2)).trans z2) (And.intro ((hW.cell (zbT d0)).trans d0) ((hW.cell (zbT d1)).trans d1)))));refine zq0 (S:=fun w'=>w'.cell? ⟨g,j*3,none⟩=some (.int .i64 0)∧w'.cell? ⟨g,j*3+1,none⟩=some (.int .i64 sn)∧w'.cell? ⟨g,j*3+2,none⟩=some (.slice sva sl.length svc)∧w'.cell? ⟨b4,o4+k*2,none⟩=some (.int .i64 ga)∧w'.cell? ⟨b4,o4+k*2+1,none⟩=some (.int .i64 gb)) (X:=fun j=>decide (13≤j)) (by kernel_rfl) ?_;have HS:=lhd (SF.out wr.drew (Below.refl _ _).drew);have hbq:Below wr.heap.size wr wr.drew:=(Below.refl _ _).drew;have HB14:=lhd (show w8.heap.size≤wr.drew.heap.size from HS2.out.b.size);clear z0 z1 z2 d0 d1;generalize wr.drew=w14 at*;refine zqT (i:=0) (v:=?_) rfl (by kernel_rfl) (by kernel_rfl) (by kernel_rfl) (by kernel_rfl) (fun _ _ _ h=>h) (Or.inl ⟨by rfl,?_⟩) HS.out ?_;rotate_left
             ·intro w hSw;(try dsimp only at hSw)
              go_simp;all_goals with_reducible rfl
             simp only[tkS];refine zqT (i:=1) (v:=?_) rfl (by kernel_rfl) (by kernel_rfl) (by kernel_rfl) (by kernel_rfl) (fun _ _ _ h=>h) (Or.inl ⟨by rfl,?_⟩) HS.out ?_;rotate_left
             ·intro w hSw;(try dsimp only at hSw)
              go_simp;all_goals with_reducible rfl
             simp only[tkS];refine zqT (i:=2) (v:=?_) rfl (by kernel_rfl) (by kernel_rfl) (by kernel_rfl) (by kernel_rfl) (fun _ _ _ h=>h) (Or.inl ⟨by rfl,?_⟩) HS.out ?_;rotate_left
             ·intro w hSw;(try dsimp only at hSw)
              go_simp;all_goals with_reducible rfl
             simp only[tkS];refine zqT (i:=3) (v:=?_) rfl (by kernel_rfl) (by kernel_rfl) (by kernel_rfl) (by kernel_rfl) (fun _ _ _ h=>h) (Or.inl ⟨by rfl,?_⟩) HS.out ?_;rotate_left
             ·intro w hSw;(try dsimp only at hSw)
              go_simp;all_goals with_reducible rfl
             simp only[tkS];refine zqT (i:=4) (v:=?_) rfl (by kernel_rfl) (by kernel_rfl) (by kernel_rfl) (by kernel_rfl) (fun _ _ _ h=>h) (Or.inl ⟨by rfl,?_⟩) HS.out ?_;rotate_left
             ·intro w hSw;(try dsimp only at hSw)
              go_simp;all_goals with_reducible rfl
             simp only[tkS];refine zqT (i:=5) (v:=?_) rfl (by kernel_rfl) (by kernel_rfl) (by kernel_rfl) (by kernel_rfl) (fun _ _ _ h=>h) (Or.inl ⟨by rfl,?_⟩) HS.out ?_;rotate_left
             ·intro w hSw;(try dsimp only at hSw)
              go_simp;all_goals with_reducible rfl
             simp only[tkS];refine zqT (i:=6) (v:=?_) rfl (by kernel_rfl) (by kernel_rfl) (by kernel_rfl) (by kernel_rfl) (fun _ _ _ h=>h) (Or.inl ⟨by rfl,?_⟩) HS.out ?_;rotate_left
             ·intro w hSw;(try dsimp only at hSw)
              go_simp;all_goals with_reducible rfl
             simp only[tkS];refine zqT (i:=7) (v:=?_) rfl (by kernel_rfl) (by kernel_rfl) (by kernel_rfl) (by kernel_rfl) (fun _ _ _ h=>h) (Or.inl ⟨by rfl,?_⟩) HS.out ?_;rotate_left
             ·intro w hSw;(try dsimp only at hSw)
              go_simp;all_goals with_reducible rfl
             simp only[tkS];refine zqT (i:=8) (v:=?_) rfl (by kernel_rfl) (by kernel_rfl) (by kernel_rfl) (by kernel_rfl) (fun _ _ _ h=>h) (Or.inl ⟨by rfl,?_⟩) HS.out ?_;rotate_left
             ·intro w hSw;(try dsimp only at hSw)
              go_simp;all_goals with_reducible rfl
             simp only[tkS];refine zqT (i:=9) (v:=?_) rfl (by kernel_rfl) (by kernel_rfl) (by kernel_rfl) (by kernel_rfl) (fun _ _ _ h=>h) (Or.inl ⟨by rfl,?_⟩) HS.out ?_;rotate_left
             ·intro w hSw;(try dsimp only at hSw)
              go_simp;all_goals with_reducible rfl
             simp only[tkS];refine zqT (i:=10) (v:=?_) rfl (by kernel_rfl) (by kernel_rfl) (by kernel_rfl) (by kernel_rfl) (fun _ _ _ h=>h) (Or.inl ⟨by rfl,?_⟩) HS.out ?_;rotate_left
             ·intro w hSw;(try dsimp only at hSw)
              go_simp;all_goals with_reducible rfl
             simp only[tkS];refine zqS (i:=11) (by kernel_rfl) rfl (fun K hK=>?_);go_simp;refine(HOF.out w14 hbq).mono ?_;rintro e w15 ⟨⟨v15,rfl,ho15⟩,hb15⟩;obtain⟨a15,c15,rfl,-,-⟩:=(SlR.of_own ho15).shape;have hbq:=zem hbq hb15;have HO15:=lhd (zjJ ho15 (show w8.heap.size≤w14.heap.size from HB14.out));have HS15:=lhd (HS2.out.step hbq);have HP15:=lhd (zba HP2.out hbq);have HS:=lhd (SF.out _ hbq);obtain⟨z0,z1,z2,-,-⟩:=HS.out;have y0:=zjz HS15.out.o (j*3);have y1:=zjz HS15.out.o (j*3+1);have y2:=zjz HS15.out.o (j*3+2);generalize hR:offR EN (ga,gb) (0,sn,sl)=R at*;obtain⟨rk,rn,rl⟩:=R;dsimp only at ho15 HO15⊢;clear ho15 hb15;go_wp2_with fail;refine hK.out _ _ (fun _=>HS.out) ?_;clear hK;try simp only[tkS]
             refine zqT (i:=12) (v:=?_) rfl (by kernel_rfl) (by kernel_rfl) (by kernel_rfl) (by kernel_rfl) (fun _ _ _ h=>h) (Or.inl ⟨by rfl,?_⟩) HS.out ?_;rotate_left
             ·intro w hSw;(try dsimp only at hSw)
              go_simp;all_goals with_reducible rfl
             simp only[tkS];refine zqS (i:=13) (by kernel_rfl) rfl (fun K hK=>?_);go_simp;refine hK.out _ _ (fun h=>by simp at h) ?_;clear hK;try simp only[tkS]
             refine⟨by kernel_rfl,?_⟩;have hput:=SgO.put (X:=X) (Z:=Z) HS15.out ((rk,rn,rl),.slice a15 rl.length c15) HO15.out;rw[HXJ.out]at hput;have HS16:=lhd hput
             have hne:(Value.slice (some ⟨b4,o4,none⟩) P.length pc).ownBlock≠some g:=by
              rcases zjw HP15.out HS15.out.o (by decide)with h1|h1
              ·rw[h1];intro e;cases e
              ·exact h1
             have HP16:=lhd (ownsRow_setCell_other (a:=⟨g,j*3+2,none⟩) (ownsRow_setCell_other (a:=⟨g,j*3+1,none⟩) (ownsRow_setCell_other (a:=⟨g,j*3,none⟩) HP15.out hne (.int .i64 rk)) hne (.int .i64 rn)) hne (.slice a15 rl.length c15));have HL3:=lhd (show(X++((rk,rn,rl),Value.slice a15 rl.length c15)::Z).length=M.length by have:=HL2.out;simpa using this);dsimp only at HS16;generalize ((w15.setCell ⟨g,j*3,none⟩ (.int .i64 rk)).setCell ⟨g,j*3+1,none⟩ (.int .i64 rn)).setCell ⟨g,j*3+2,none⟩ (.slice a15 rl.length c15)=w16 at*;clear hput hne HS HS15 HP15 HO15 z0 z1 z2 y0 y1 y2 hbq HOF SF;go_wp2_with fail;go_roundw;case rel=>exact⟨j+1,_,hjl,by go_num,HL3.out,HPY.out _,HS16.out,HP16.out⟩
             case measure=>simp[intOf];omega
            ·have hb0:(sk==0)=false:=by rw[beq_eq_false_iff_ne];exact hsk
             have HKY:=lhd (hky (by unfold offK;rw[if_neg hsk]));clear hky hpy hyr hsk;go_wp2_with fail;go_roundw;case rel=>exact⟨j+1,_,hjl,by go_num,HL2.out,HKY.out,HS2.out,HP2.out⟩
             case measure=>simp[intOf];omega
           ·obtain rfl:j=M.length:=by omega
            have HCM:=lhd (show M2.map Prod.fst=clrR (P.take (k+1)) EN N by
             rw[HCR.out,HM2.out,List.take_of_length_le (by rw[List.length_map,HGL.out];exact Nat.le_refl _),List.drop_of_length_le (by rw[HGL.out];exact Nat.le_refl _),List.append_nil])
            go_wp2_with fail;go_roundw;case rel=>exact⟨k+1,M2,hlt,by go_num,HL2.out,HCM.out,HS2.out,HP2.out⟩
            case measure=>simp[intOf];omega
         ·obtain rfl:k=P.length:=by omega
          have hcm:=HM1.out;rw[List.take_of_length_le (Nat.le_refl _)]at hcm;have HCM:=lhd hcm;clear hcm HM1 hlt hk;have HX1:=lhd (HX8.out.step HS1.out.b);have HO5Z:=lhd (zba HO58.out HS1.out.b);have HO6Z:=lhd (zba HO68.out HS1.out.b);by_cases h16:16<P.length
          ·have HNO:=lhd (HY1.out (.inl h16));have h16i:(16:Int)<(P.length:Int):=by omega
           clear h16;go_upto_region 48 with fail;obtain⟨⟨r0,r1,r2,r3,r4,r5,r6,r7,r8⟩,⟨f0,f1,f2,f3,f4,f5,f6,f7,f8⟩,q0,q1,q2,q3,q4,q5,q6,q7,q8⟩:=(HX1).out.outs;repeat go_step
           clear r0 r1 r2 r3 r4 r5 r6 r7 r8 f0 f1 f2 f3 f4 f5 f6 f7 f8 q0 q1 q2 q3 q4 q5 q6 q7 q8;have HFN:=lhd ((HX1).out.fin (.int .i64 0) (.string ⟨#[]⟩) (.string ⟨#[]⟩) (.string ⟨#[]⟩) (.slice none 0 0) (.slice none 0 0) (.slice none 0 0) (.slice none 0 0) (.int .i64 0));unfold set9 at HFN;generalize ((((((((wr.setCell _ _).setCell _ _).setCell _ _).setCell _ _).setCell _ _).setCell _ _).setCell _ _).setCell _ _).setCell _ _=Wf at*;obtain⟨⟨x0,x1,x2,x3,x4,x5,x6,x7,x8⟩,hbb,-⟩:=HFN.out;refine bodyPost_ret (v:=.tuple #[.agg #[.int .i64 0,.string ⟨#[]⟩,.string ⟨#[]⟩,.string ⟨#[]⟩,.slice none 0 0,.slice none 0 0,.slice none 0 0,.slice none 0 0,.int .i64 0],.int .i64 9]) (by simp[results,Tryz.results15,go_sem,x0,x1,x2,x3,x4,x5,x6,x7,x8]) rfl ?_;rw[HQ.out];exact BdP.no (HNO).out hbb
          have h16i:¬(16:Int)<(P.length:Int):=by omega
          have hcl:zcZ (M1.map Prod.fst)≤1000000000:=by
           have h:=zcy (k:=P.length) (en:=EN) HGB.out hpl HNL.out;rw[List.take_of_length_le (Nat.le_refl _)]at h;have h2:=zc0 h;rw[zcB,HNM.out]at h2;rw[HCM.out];omega
          have HCN:=lhd (zlG (.slice ao M.length co) M1 wr (by rw[←HL1.out];exact HS1.out.sigs) (by rw[HL1.out];omega) hcl);rw[HCM.out]at HCN;clear hcl;go_wp2_with fail;refine HCN.out.mono ?_;rintro e w20 ⟨rfl,rfl⟩;clear HCN;by_cases h4:4096<zcZ (clrR P EN N)
          ·have HNO:=lhd (HY1.out (.inr h4));have h4i:(4096:Int)<(zcZ (clrR P EN N):Int):=by omega
           clear h4;go_upto_region 48 with fail;obtain⟨⟨r0,r1,r2,r3,r4,r5,r6,r7,r8⟩,⟨f0,f1,f2,f3,f4,f5,f6,f7,f8⟩,q0,q1,q2,q3,q4,q5,q6,q7,q8⟩:=(HX1).out.outs;repeat go_step
           clear r0 r1 r2 r3 r4 r5 r6 r7 r8 f0 f1 f2 f3 f4 f5 f6 f7 f8 q0 q1 q2 q3 q4 q5 q6 q7 q8;have HFN:=lhd ((HX1).out.fin (.int .i64 0) (.string ⟨#[]⟩) (.string ⟨#[]⟩) (.string ⟨#[]⟩) (.slice none 0 0) (.slice none 0 0) (.slice none 0 0) (.slice none 0 0) (.int .i64 0));unfold set9 at HFN;generalize ((((((((wr.setCell _ _).setCell _ _).setCell _ _).setCell _ _).setCell _ _).setCell _ _).setCell _ _).setCell _ _).setCell _ _=Wf at*;obtain⟨⟨x0,x1,x2,x3,x4,x5,x6,x7,x8⟩,hbb,-⟩:=HFN.out;refine bodyPost_ret (v:=.tuple #[.agg #[.int .i64 0,.string ⟨#[]⟩,.string ⟨#[]⟩,.string ⟨#[]⟩,.slice none 0 0,.slice none 0 0,.slice none 0 0,.slice none 0 0,.int .i64 0],.int .i64 9]) (by simp[results,Tryz.results15,go_sem,x0,x1,x2,x3,x4,x5,x6,x7,x8]) rfl ?_;rw[HQ.out];exact BdP.no (HNO).out hbb
          have h4i:¬(4096:Int)<(zcZ (clrR P EN N):Int):=by omega
          have HYY:=lhd (HY2.out (fun h=>h.elim (by omega) (by omega)));clear h4 h16;go_upto_region 49 with fail;obtain⟨⟨r0,r1,r2,r3,r4,r5,r6,r7,r8⟩,⟨f0,f1,f2,f3,f4,f5,f6,f7,f8⟩,-⟩:=HX1.out.outs;obtain⟨p0,p1,p2,p3,p4,p5,p6,p7,p8⟩:=(HX1).out.t.nine;repeat go_step
          clear p0 p1 p2 p3 p4 p5 p6 p7 p8;clear r0 r1 r2 r3 r4 r5 r6 r7 r8 f0 f1 f2 f3 f4 f5 f6 f7 f8;have HFN:=lhd (HX1.out.fin (.int .i64 t.sc) (.string (bsB t.dt)) (.string (bsB t.vn)) (.string (bsB t.cm)) (.slice a5 oS.length k5) (.slice a6 oV.length k6) (.slice ao M.length co) (.slice pa P.length pc) (.int .i64 EN));unfold set9 at HFN;generalize ((((((((wr.setCell _ _).setCell _ _).setCell _ _).setCell _ _).setCell _ _).setCell _ _).setCell _ _).setCell _ _).setCell _ _=Wf at*;obtain⟨⟨x0,x1,x2,x3,x4,x5,x6,x7,x8⟩,hbb,how⟩:=HFN.out;refine bodyPost_ret (v:=.tuple #[.agg #[.int .i64 t.sc,.string (bsB t.dt),.string (bsB t.vn),.string (bsB t.cm),.slice a5 oS.length k5,.slice a6 oV.length k6,.slice ao M.length co,.slice pa P.length pc,.int .i64 EN],.int .i64 0]) (by simp[results,Tryz.results15,go_sem,x0,x1,x2,x3,x4,x5,x6,x7,x8]) rfl ?_;rw[HQ.out];refine BdP.yes (q:=⟨.slice a5 oS.length k5,.slice a6 oV.length k6,.slice ao M.length co,.slice pa P.length pc,M1⟩) HYY.out ⟨SlR.of_own (how _ _ _ _ _ HO5Z.out),SlR.of_own (how _ _ _ _ _ HO6Z.out),⟨?_,fun x hx=>SlR.of_own (how _ _ _ _ _ (zjJ (HS1.out.c x hx) hz8))⟩,SlR.of_own (how _ _ _ _ _ HP1.out),HCM.out⟩ hbb;have h:=SlR.of_own (how _ _ _ _ _ (zjJ HS1.out.o hz8));rw[HL1.out]at h;show SlR Wf (.slice ao M.length co) M1.length (sgs M1);rw[HL1.out];exact h
end Go.Proofs.YtbiadennhnokhaaGreatDoor
