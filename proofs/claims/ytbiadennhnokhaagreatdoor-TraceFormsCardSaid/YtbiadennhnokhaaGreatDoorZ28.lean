import Derived.Test.YtbiadennhnokhaaGreatDoorZ00
import Derived.Test.YtbiadennhnokhaaGreatDoorZ15
import Derived.Test.YtbiadennhnokhaaGreatDoorZ16
import Derived.Test.YtbiadennhnokhaaGreatDoorZ22
import Derived.Test.YtbiadennhnokhaaGreatDoorZ26
set_option maxRecDepth 100000
set_option maxHeartbeats 16000000
namespace Go.Proofs.YtbiadennhnokhaaGreatDoor
open Go.RowKit
set_option linter.unusedSimpArgs false
theorem wf64 {n:Int} (h1: -9223372036854775808≤n) (h2:n≤9223372036854775807):(Lit.int .i64 n).wf=true:=by
 have e1:IntKind.i64.min= -9223372036854775808:=by decide
 have e2:IntKind.i64.max=9223372036854775807:=by decide
 unfold Lit.wf;rw[Bool.and_eq_true,decide_eq_true_iff,decide_eq_true_iff,e1,e2];omega
theorem zon {k n:Int} {l:List Ch} (h:sv k n l=true):Fit l∧l.length≤4096:=by
 have h1:=(zoh.1 h).2.1;exact⟨⟨by omega,fun c hc=>by have:=zqA (zoi h c hc).2.2;omega⟩,h1⟩
theorem zqN {s:Bs} (h:zqM s=true):s.length≤200:=by
 unfold zqM at h;rw[Bool.or_eq_true,decide_eq_true_iff,Bool.and_eq_true,decide_eq_true_iff]at h;rcases h with rfl|h
 ·simp
 ·exact h.2
theorem zhN {s:Bs} (h:zhM s=true):s.length≤32:=by
 unfold zhM at h;simp only[Bool.and_eq_true,decide_eq_true_iff]at h;exact h.1.1.2
structure VF (a:Tr):Prop where
 fb:FB a
 ft:FitT a
 sg:∀x∈a.V,(Lit.int .i64 x.sg).wf=true
 tm:∀s∈a.G,∀c∈s.2.2,(Lit.int .i64 c.1).wf=true
 ct:zcZ a.G≤4096
theorem zqc {a:Tr} (h:zp9 a):VF a:=by
 obtain⟨P,en,hb⟩:=zby h;obtain⟨hTN,hT,hs,hmap,hx,h16,hct,-,hin⟩:=hb.sigs;have hv:=zqa h;have hc:=zce.1 hv.c;have hP:a.P.length≤16:=by rw[congrArg Tr.P hb.eq];exact h16
 have ht:zqM a.dt=true∧zqM a.vn=true∧zqM a.cm=true:=by
  have h1:=hb.tx;unfold zoJ at h1;split at h1
  ·cases h1
  split at h1
  ·rename_i h2
   simpa[and_assoc] using h2
  ·cases h1
 have hG:∀s∈a.G,Fit s.2.2∧s.2.2.length≤100000:=fun s hs'=>by
  have:=zon (hs s hs');exact⟨this.1,by omega⟩
 have hn:=hc.n;have hm:=hc.m;have hN:=hv.n;refine⟨⟨⟨?_,?_,?_⟩,⟨by omega,by omega⟩,⟨fun s hs'=>?_,fun v hv'=>?_⟩,hG,by omega⟩,⟨by omega,by omega,by omega,by omega,fun s hs'=>(hG s hs').2⟩,fun x hx'=>?_,fun s hs' c hc'=>?_,hct⟩
 ·have:=zqN ht.1;omega
 ·have:=zqN ht.2.1;omega
 ·have:=zqN ht.2.2;omega
 ·have:=zhN (hc.ns s hs');omega
 ·have:=zhN (hc.nv v hv');omega
 ·have h1:=hb.ft;have h2:=(zdw hb.dc).1 x;have h3:=(zdw hb.dc).2.1;have h4:(zju a.S a.V).2.1=a.V:=by rw[hv.o]
  rw[h4]at h2;have:=h2 hx';exact wf64 (by omega) (by omega)
 ·have:=zoi (hs s hs') c hc';exact wf64 (by omega) (by omega)
theorem zep {lim:Int}:∀(G:List Sg) (n:Int),n≤lim→fewG lim n G=true→n+(zcZ G:Int)≤lim
 | [],n,hn,_=>by simp[zcZ];omega
 |x::G,n,hn,h=>by
  unfold fewG at h;rw[Bool.and_eq_true,Bool.and_eq_true,Bool.not_eq_true',decide_eq_false_iff_not,Int.not_lt]at h;have:=zep G _ h.1.1 h.2;unfold zcZ at this⊢;rw[List.map_cons,List.sum_cons];push_cast
  omega
theorem zer {t:Tr} {lim:Int} (h0:0≤lim) (hl:lim≤1000) (h:fewT t lim=true) (hi1:∀x∈t.V,(Lit.int .i64 x.sg).wf=true) (hi2:∀s∈t.G,∀c∈s.2.2,(Lit.int .i64 c.1).wf=true):VF t:=by
 obtain⟨hF,hG⟩:=zen hl h;refine⟨hF,⟨hF.l.1,hF.l.2,by omega,hF.p,fun s hs=>(hF.g s hs).2⟩,hi1,hi2,?_⟩;unfold fewT at h;simp only[Bool.and_eq_true]at h;have:=zep _ _ h0 h.2;omega
open Go.RowKit Go.Sort
def zmF (l:List Int) (y:Int):Option Value:=if y∈l then some (.bool true)else none
theorem zmH (l:List Int) (x y:Int):(if y=x then some (Value.bool true)else zmF l y)=zmF (l++ [x]) y:=by
 unfold zmF;by_cases h:y=x
 ·subst h;simp
 ·rw[if_neg h];simp[h]
def tms (l:List Ch):List Int:=l.map Prod.fst
theorem zoX {l:List Ch} {k:Nat} (h:k<l.length):tms (l.take (k+1))=tms (l.take k)++ [l[k].1]:=by
 unfold tms;rw[List.take_succ_eq_append_getElem h,List.map_append];rfl
theorem zaK {G:List Sg} {k:Nat} (h:k<G.length):allT (G.take (k+1))=allT (G.take k)++tms G[k].2.2:=by
 unfold allT tms;rw[List.take_succ_eq_append_getElem h,List.flatMap_append];simp
theorem zmG (l:List Int) (y:Int):(zmF l y).isSome=true↔y∈l:=by
 unfold zmF;by_cases h:y∈l
 ·simp[h]
 ·simp[h]
theorem zc3 {G:List Sg} {k:Nat}:zcZ (G.take k)≤zcZ G:=by
 unfold zcZ;conv=>rhs;rw[←List.take_append_drop k G]
 rw[List.map_append,List.sum_append];omega
theorem zc2 {G:List Sg} {k:Nat} (h:k<G.length):zcZ (G.take (k+1))=zcZ (G.take k)+G[k].2.2.length:=by
 unfold zcZ;rw[List.take_succ_eq_append_getElem h,List.map_append,List.sum_append];simp
theorem zo7 (t:Tr) (p:TP) (w:World) (ht:TrM w t p) (hv:VF t):
 Calls Tryz.prog 23 #[p.v t] w fun e W'=>∃v,e=.returned v∧W'.ownsRow w.heap.size 3 1 v (zoN t.G).length (ints (zoN t.G))∧Below w.heap.size w W':=by
 obtain⟨a1,k1,a2,k2,a3,k3,a4,k4,e,-,-,e3,-,hk3,hm3⟩:=ht.open;rw[e];unfold maxLen at hm3;have hb1:Below w.heap.size w (w.alloc (.cells (boxT t a1 a2 a3 a4 k1 k2 k3 k4) 27)):=(Below.refl _ _).alloc (Nat.le_refl _) _;have hsg:=ht.g.below hb1;rw[e3]at hsg;have HX:=lhd (zal.fresh w (boxT t a1 a2 a3 a4 k1 k2 k3 k4) 27);have HSG:=lhd hsg;have HLN:=lhd ht.len;have HMG:=lhd ht.m;have HCT:=lhd hv.ct;have hgl:=hv.ft.2.2.1;have HWF:=lhd hv.tm;have HB1:=lhd hb1;have hlt:w.heap.size<(w.alloc (.cells (boxT t a1 a2 a3 a4 k1 k2 k3 k4) 27)).heap.size:=by simp
 clear ht hv hb1 hsg e e3;have hmm:= @run_makeMap Tryz.prog;go_enter Tryz.func23,Tryz.ntmps23;go_wp2_with fail;generalize hw1:w.alloc (.cells (boxT t a1 a2 a3 a4 k1 k2 k3 k4) 27)=w1 at*;have HS1:=lhd (show w1.heap.size=w.heap.size+1 by rw[←hw1];simp);clear hmm hw1;have hal:Below w1.heap.size w1 (w1.alloc (.map #[] 0)):=(Below.refl _ _).alloc (Nat.le_refl _) _
 have HM0:=lhd (show KMap (zf7 (P:=Tryz.prog) (K:=3) Tryz.underlying3) (w1.alloc (.map #[] 0)) (w.heap.size+1) 0 (fun _=>none)by
  have:=KMap.made (zf7 (P:=Tryz.prog) (K:=3) Tryz.underlying3) w1;rwa [HS1.out]at this)
 have HB2:=lhd hal;have c6:=(HX.out.below hal hlt).cell (j:=6) rfl;clear hal;go_loopw [12] (fun i wr=>∃k:Nat,k≤t.G.length∧i=.int .i64 k∧KMap (zf7 (P:=Tryz.prog) (K:=3) Tryz.underlying3) wr (w.heap.size+1) (zcZ (t.G.take k)) (zmF (allT (t.G.take k)))∧Below w1.heap.size w1 wr) (fun i _=>t.G.length-(intOf i).toNat)
 case atStart=>exact⟨0,Nat.zero_le _,rfl,(HM0.out.ext (fun s=>by simp[zmF,allT])).more (by simp[zcZ]),HB2.out⟩
 case round=>
  obtain⟨k,hk,rfl,hm,hb⟩:=hrel;have HM:=lhd hm;have HB:=lhd hb;clear hm hb;by_cases hkl:k<t.G.length
  ·have hmk:k<p.M.length:=by rw[HLN.out];exact hkl
   obtain⟨b,o,rfl,d0,d1,d2,hd⟩:=(HSG.out.below HB.out).at hmk
   have hGk:t.G[k]=p.M[k].1:=by
    have:(p.M.map Prod.fst)[k]? =t.G[k]? :=by rw[HMG.out]
    rw[List.getElem?_map,List.getElem?_eq_getElem hmk,List.getElem?_eq_getElem hkl]at this;exact(Option.some.inj this).symm
   have HAT:=lhd (zaK hkl);have HCK:=lhd (zc2 hkl);have HCL:=lhd (Nat.le_trans (zc3 (G:=t.G) (k:=k+1)) HCT.out);have HWK:=lhd (HWF.out _ (List.getElem_mem hkl));rw[hGk]at HAT HCK HWK;clear hGk;have HD:=lhd (HSG.out.m _ (List.getElem_mem hmk));generalize p.M[k]=x at*;obtain⟨⟨kk,nn,l⟩,xv⟩:=x;dsimp only at d0 d1 d2 hd HAT HCK HWK HD;obtain⟨xa,xc,rfl,-,hxm⟩:=hd.shape;unfold maxLen at hxm;have hw':=zhO k (by omega);have hbx:Below wr.heap.size wr (wr.alloc (.cells #[.int .i64 kk,.int .i64 nn,.slice xa l.length xc] 45)):=(Below.refl _ _).alloc (Nat.le_refl _) _;have HBX:=lhd hbx;have HM1:=lhd (HM.out.below hbx HM.out.lt);have HB3:=lhd (HB.out.trans (hbx.mono HB.out.size));obtain⟨wo,rfl⟩:∃wo:World,wo=wr:=⟨_,rfl⟩;have hcq:zcZ (t.G.take k)+l.length≤4096:=by rw[←HCK.out];exact HCL.out
   clear hd hbx;go_wp2_with fail;clear d0 d1 d2;generalize hT:allT (t.G.take k)=T0 at*;clear hT;generalize hC:zcZ (t.G.take k)=C0 at*;clear hC;go_loopw [19] (fun i wr2=>∃q:Nat,q≤l.length∧i=.int .i64 q∧KMap (zf7 (P:=Tryz.prog) (K:=3) Tryz.underlying3) wr2 (w.heap.size+1) (C0+q) (zmF (T0++tms (l.take q)))∧Below w1.heap.size w1 wr2) (fun i _=>l.length-(intOf i).toNat)
   case atStart=>exact⟨0,Nat.zero_le _,rfl,by simpa[tms] using HM1.out,HB3.out⟩
   case round=>
    obtain⟨q,hq,rfl,hm2,hb2⟩:=hrel;have HM2:=lhd hm2;have HB4:=lhd hb2;clear hm2 hb2;by_cases hql:q<l.length
    ·obtain⟨b2,o2,rfl,f0,f1⟩:=(HD.out.below HB4.out).ch hql;have HTK:=lhd (zoX hql);have HWX:=lhd (HWK.out _ (List.getElem_mem hql));generalize l[q]=c at*;obtain⟨ct,cv⟩:=c;dsimp only at f0 f1 HTK HWX;have hby:Below wr.heap.size wr (wr.alloc (.cells #[.int .i64 ct,.string cv] 53)):=(Below.refl _ _).alloc (Nat.le_refl _) _;have HM3:=lhd (HM2.out.below hby HM2.out.lt);have HB5:=lhd (HB4.out.trans (hby.mono HB4.out.size));have hw2:=zhO q (by omega);clear hby;go_wp2_with (refine zqY _ rfl _ _ _ 118 rfl 4 Tryz.underlying118 (w.heap.size+1) (C0+q) _ rfl HM3.out (by unfold maxLen;omega) ct (.bool true) rfl rfl HWX.out ?_;intro w3 hm3 hg3;have HM4:=lhd (hm3.ext (zmH (T0++tms (l.take q)) ct));have HB6:=lhd (HB5.out.grown hg3 HB5.out.size (fun j hj=>by have:=HS1.out;injection hj with hj;omega));clear hm3 hg3 f0 f1)
     go_roundw;case rel=>exact⟨q+1,hql,by go_num,by rw[HTK.out,←List.append_assoc];exact HM4.out.more (by omega),HB6.out⟩
     case measure=>simp[intOf];omega
    ·obtain rfl:q=l.length:=by omega
     have hw3:=zhO k (by omega);go_wp2_with fail;go_roundw;case rel=>exact⟨k+1,hkl,by go_num,by rw[HAT.out,HCK.out];have:=HM2.out;rwa [List.take_length]at this,HB4.out⟩
     case measure=>simp[intOf];omega
  ·obtain rfl:k=t.G.length:=by omega
   have hmm:=HM.out;rw[List.take_length]at hmm;obtain⟨D,ho,hf⟩:=hmm
   have HPM:=lhd (zgK ho Tryz.underlying3 (zoQ t.G) (fun x hx=>by
    obtain⟨s,hs,c,hc,rfl⟩:=zoP.1 hx;exact HWF.out s hs c hc) (fun x hx=>by
    have h1:Maps.has D (.int .i64 x)=(zmF (allT t.G) x).isSome:=(hf x hx).1;rw[h1,zmG];unfold zoN;rw[zeJ];simp))
   have hsz:=ho.size_le;have hct:=HCT.out;have HSO:=lhd (zfP (w.heap.size+1) _ D vR wr ho (by unfold maxLen;omega) (by omega));have hlw:=HB.out.size;clear ho hf hsz hct;go_wp2_with fail;refine(zfO _ _).mono ?_;rintro e w2 ⟨rfl,rfl⟩;go_wp2_with fail;refine HSO.out.mono ?_;rintro e w3 ⟨v,ss,rfl,hS,hrow,hb3⟩;have HS:=lhd hS;have HR:=lhd hrow;have HB9:=lhd hb3;clear hS hrow hb3;go_wp2_with fail;go_ret;have hp:=HS.out.trans HPM.out.symm;have hrow:=HR.out;rw[mergeSort_of_perm_i hp,zoR,hp.length_eq]at hrow;have hlw1:=HS1.out;have hbw:=HB1.out.trans (HB.out.mono HB1.out.size);refine⟨v,rfl,zjJ hrow (by omega),?_⟩;have h2:Below w.heap.size wr (wr.alloc (.cells #[.map (some (w.heap.size+1))] 118)):=(Below.refl _ _).alloc (by omega) _;exact(hbw.trans h2).trans (HB9.out.mono (by omega))
theorem zeR {L:List (Sg×Value)} {k:Nat} (h:k<L.length):zcZ ((L.map Prod.fst).take (k+1))=zcZ ((L.map Prod.fst).take k)+L[k].1.2.2.length:=by
 have hk:k<(L.map Prod.fst).length:=by simpa using h
 rw[zc2 hk,List.getElem_map]
theorem zlG (v:Value) (L:List (Sg×Value)) (w:World) (hs:Sigs w v L) (hl:L.length≤100000) (hc:zcZ (L.map Prod.fst)≤1000000000):
 Calls Tryz.prog 67 #[v] w fun e w'=>e=.returned (.int .i64 (zcZ (L.map Prod.fst):Int))∧w=w':=by
 obtain⟨a,cap,rfl,hca,hm⟩:=hs.s.shape;unfold maxLen at hm;have HS:=lhd hs;have HC:=lhd hc;clear hs hc;go_enter Tryz.func67,Tryz.ntmps67;go_wp2_with fail;go_loopw [3,4] (fun n_ i wr=>∃k:Nat,k≤L.length∧i=.int .i64 k∧n_=.int .i64 (zcZ ((L.map Prod.fst).take k):Int)∧w=wr) (fun _ i _=>L.length-(intOf i).toNat)
 case atStart=>exact⟨0,Nat.zero_le _,rfl,rfl,rfl⟩
 case round=>
  obtain⟨k,hk,rfl,rfl,rfl⟩:=hrel;by_cases hlt:k<L.length
  ·obtain⟨b,o,rfl,d0,d1,d2,hd⟩:=HS.out.at hlt;have HT:=lhd (zeR hlt);have HCL:=lhd (Nat.le_trans (zc3 (G:=L.map Prod.fst) (k:=k+1)) HC.out);generalize L[k]=x at*;obtain⟨⟨kk,nn,l⟩,xv⟩:=x;dsimp only at d0 d1 d2 hd HT;obtain⟨xa,xc,rfl,-,-⟩:=hd.shape;have h1:=HT.out;have h2:=HCL.out;have hw1:=zhO k (by omega);have hw2:IntKind.i64.wrap ((zcZ ((L.map Prod.fst).take k):Int)+(l.length:Int))=((zcZ ((L.map Prod.fst).take (k+1)):Nat):Int):=by rw[h1];rw[IntWalk.i64_in _ (by omega)];omega
   clear h1 h2;obtain⟨c2,hc2⟩:∃c2,zcZ ((L.map Prod.fst).take (k+1))=c2:=⟨_,rfl⟩;rw[hc2]at hw2;have HC2:=lhd hc2;clear hc2;generalize zcZ ((L.map Prod.fst).take k)=c1 at*;clear HT HCL hd;go_wp2_with fail;go_roundw;case rel=>exact⟨k+1,hlt,by go_num,by rw[HC2.out],by first|trivial|rfl⟩
   case measure=>simp[intOf];omega
  ·obtain rfl:k=L.length:=by omega
   go_wp2_with fail;go_ret;refine⟨?_,rfl⟩;rw[List.take_of_length_le (by simp)];rfl
def parR (s:ByteArray):List UInt8×Int:=match zkG s with|none=>([],3)|some (neg,ds,ex)=>zoH (zn0 neg ds ex)
theorem zkN (s:ByteArray):zkL s=decide (parR s=(s.data.toList,0)):=by
 unfold zkL parR;cases zkG s with
 |none=>exact(decide_eq_false (by intro h;injection h with _ h;cases h)).symm
 |some p=>rfl
theorem zkW (s:ByteArray) (w:World) (hs:s.size≤maxLen):Calls Tryz.prog 227 #[.string s] w (zav (parR s) w):=by
 go_enter Tryz.func227,Tryz.ntmps227;go_wp2_with fail;refine(zkY s _ hs).mono ?_;rintro e w1 ⟨neg,ds,ex,ok,rfl,hrd,hbd,hb⟩;have HB:=lhd hb;clear hb;cases ok
 ·have HP:=lhd (show parR s=([],3)by
   unfold parR;rw[hrd];rfl)
  clear hrd hbd;go_wp2_with fail;go_ret2
  rw[HP.out];exact⟨_,rfl,rfl,HB.out.alloc HB.out.size _⟩
 ·have HP:=lhd (show parR s=zoH (zn0 neg ds.data.toList ex)by
   unfold parR;rw[hrd];rfl)
  obtain⟨b1,b2,b3⟩:=hbd rfl;clear hrd hbd;go_wp2_with fail;refine(zk0 neg ds ex _ b1 b2 b3).mono ?_;rintro e w2 ⟨o,rfl,ho,hb2⟩;have HO:=lhd ho;have HB2:=lhd (zem HB.out (zel hb2));clear ho hb2;go_wp2_with fail;go_ret2
  rw[HP.out];exact⟨o,rfl,HO.out,HB2.out⟩
theorem zaX (a b:ByteArray):(a.toList==b.toList)=decide (a.data.toList=b.data.toList):=by
 rw[ByteArray.toList_eq,ByteArray.toList_eq,Bool.eq_iff_iff,beq_iff_eq,decide_eq_true_iff]
theorem zk5 (s:ByteArray) (w:World) (hs:s.size≤maxLen):Calls Tryz.prog 176 #[.string s] w fun e w'=>e=.returned (.bool (zdf s))∧Below w.heap.size w w':=by
 rw[←zkM,zkN];have HP:=lhd (zkW s w hs);generalize parR s=r at HP⊢;obtain⟨t,x⟩:=r;go_enter Tryz.func176,Tryz.ntmps176;go_wp2_with fail;refine HP.out.mono ?_;rintro e w1 ⟨o,rfl,ho,hb⟩;dsimp only at ho⊢;have HB:=lhd hb;have HO:=lhd ho;clear hb ho;by_cases hx:x=0
 ·subst hx;have hbq:=zaX o s;rw[HO.out]at hbq;by_cases ht:t=s.data.toList
  ·have hq:(o.toList==s.toList)=true:=by rw[hbq];simpa using ht
   have HD:=lhd (show decide ((t,(0:Int))=(s.data.toList,0))=true by simpa using ht);clear hbq ht;go_wp2_with fail;go_ret;exact⟨zli HD.out.symm,HB.out⟩
  ·have hq:(o.toList==s.toList)=false:=by rw[hbq];simpa using ht
   have HD:=lhd (show decide ((t,(0:Int))=(s.data.toList,0))=false by simpa using ht);clear hbq ht;go_wp2_with fail;go_ret;exact⟨zli HD.out.symm,HB.out⟩
 ·have hxb:(x==0)=false:=by simpa using hx
  have HD:=lhd (show decide ((t,x)=(s.data.toList,(0:Int)))=false by simp[hx]);clear hx;go_wp2_with fail;go_ret;exact⟨zli HD.out.symm,HB.out⟩
theorem zk1 (k n:Int) (w:World):Calls Tryz.prog 129 #[.int .i64 k,.int .i64 n] w fun e w'=>e=.returned (.bool (vt k n))∧w=w':=by
 by_cases hk:k=0
 ·subst hk;by_cases h1:1≤n
  ·by_cases h2:n≤128
   ·have HV:=lhd (show vt 0 n=true by simp[vt,h1,h2]);go_enter Tryz.func129,Tryz.ntmps129;go_wp2_with fail;go_ret;exact⟨zli HV.out.symm,rfl⟩
   ·have HV:=lhd (show vt 0 n=false by simp[vt,h2]);go_enter Tryz.func129,Tryz.ntmps129;go_wp2_with fail;go_ret;exact⟨zli HV.out.symm,rfl⟩
  ·have HV:=lhd (show vt 0 n=false by simp[vt,h1]);have h1':n<1:=by omega
   clear h1;go_enter Tryz.func129,Tryz.ntmps129;go_wp2_with fail;go_ret;exact⟨zli HV.out.symm,rfl⟩
 ·have hkb:(k==0)=false:=by simpa using hk
  by_cases h1:0<k
  ·by_cases h2:k≤3
   ·by_cases h3:n=0
    ·subst h3;have HV:=lhd (show vt k 0=true by unfold vt;simp;omega);clear hk;go_enter Tryz.func129,Tryz.ntmps129;go_wp2_with fail;go_ret;exact⟨zli HV.out.symm,rfl⟩
    ·have HV:=lhd (show vt k n=false by simp[vt,h3,hk]);have h3b:(n==0)=false:=by simpa using h3
     clear hk h3;go_enter Tryz.func129,Tryz.ntmps129;go_wp2_with fail;go_ret;exact⟨zli HV.out.symm,rfl⟩
   ·have HV:=lhd (show vt k n=false by unfold vt;simp;omega);have h2':3<k:=by omega
    clear hk h2;go_enter Tryz.func129,Tryz.ntmps129;go_wp2_with fail;go_ret;exact⟨zli HV.out.symm,rfl⟩
  ·have HV:=lhd (show vt k n=false by unfold vt;simp;omega);have h1':k≤0:=by omega
   clear hk h1;go_enter Tryz.func129,Tryz.ntmps129;go_wp2_with fail;go_ret;exact⟨zli HV.out.symm,rfl⟩
theorem zqz {k n:Int} (h:vt k n=true):k=0∨k=1∨k=2∨k=3:=by
 unfold vt at h;simp at h;omega
theorem zle (k n:Int) (w:World):Calls Tryz.prog 134 #[.int .i64 k,.int .i64 n] w fun e w'=>e=.returned (.string (vi k n))∧Below w.heap.size w w':=by
 have HT:=lhd (zk1 k n w);cases hv:vt k n
 ·have HI:=lhd (show vi k n=⟨#[]⟩by simp[vi,hv]);rw[hv]at HT;clear hv;go_enter Tryz.func134,Tryz.ntmps134;go_wp2_with fail;refine HT.out.mono ?_;rintro e w1 ⟨rfl,rfl⟩;go_wp2_with fail;go_ret;exact⟨zll HI.out.symm,Below.refl _ _⟩
 ·rcases zqz hv with rfl|rfl|rfl|rfl
  ·have HI:=lhd (show vi 0 n=allR n 120 by simp[vi,hv]);rw[hv]at HT;clear hv;go_enter Tryz.func134,Tryz.ntmps134;go_wp2_with fail;refine HT.out.mono ?_;rintro e w1 ⟨rfl,rfl⟩;go_wp2_with fail;refine(zkO n 120 _).mono ?_;rintro e w2 ⟨rfl,hb⟩;have HB:=lhd hb;clear hb;go_wp2_with fail;go_ret;exact⟨zll HI.out.symm,HB.out⟩
  ·have HI:=lhd (show vi 1 n=⟨#[48]⟩by simp[vi,hv]);rw[hv]at HT;clear hv;go_enter Tryz.func134,Tryz.ntmps134;go_wp2_with fail;refine HT.out.mono ?_;rintro e w1 ⟨rfl,rfl⟩;go_wp2_with fail;go_ret;exact⟨zll HI.out.symm,Below.refl _ _⟩
  ·have HI:=lhd (show vi 2 n=⟨#[]⟩by simp[vi,hv]);rw[hv]at HT;clear hv;go_enter Tryz.func134,Tryz.ntmps134;go_wp2_with fail;refine HT.out.mono ?_;rintro e w1 ⟨rfl,rfl⟩;go_wp2_with fail;go_ret;exact⟨zll HI.out.symm,Below.refl _ _⟩
  ·have HI:=lhd (show vi 3 n=⟨#[]⟩by simp[vi,hv]);rw[hv]at HT;clear hv;go_enter Tryz.func134,Tryz.ntmps134;go_wp2_with fail;refine HT.out.mono ?_;rintro e w1 ⟨rfl,rfl⟩;go_wp2_with fail;go_ret;exact⟨zll HI.out.symm,Below.refl _ _⟩
theorem zlf (k n:Int) (s:ByteArray) (w:World) (hs:s.size≤maxLen):Calls Tryz.prog 131 #[.int .i64 k,.int .i64 n,.string s] w fun e w'=>e=.returned (.bool (vv k n s))∧Below w.heap.size w w':=by
 have HT:=lhd (zk1 k n w);have HM:=lhd hs;unfold maxLen at hs;cases hv:vt k n
 ·have HI:=lhd (show vv k n s=false by simp[vv,hv]);rw[hv]at HT;clear hv;go_enter Tryz.func131,Tryz.ntmps131;go_wp2_with fail;refine HT.out.mono ?_;rintro e w1 ⟨rfl,rfl⟩;go_wp2_with fail;go_ret;exact⟨zli HI.out.symm,Below.refl _ _⟩
 ·rcases zqz hv with rfl|rfl|rfl|rfl
  ·have HI:=lhd (show vv 0 n s=(bvIs s&&decide ((s.size:Int)=n))by simp[vv,hv]);rw[hv]at HT;clear hv;go_enter Tryz.func131,Tryz.ntmps131;go_wp2_with fail;refine HT.out.mono ?_;rintro e w1 ⟨rfl,rfl⟩;go_wp2_with fail;refine(zk3 n s _ HM.out).mono ?_;rintro e w2 ⟨rfl,hb⟩;have HB:=lhd hb;clear hb;go_wp2_with fail;go_ret;exact⟨zli HI.out.symm,HB.out⟩
  ·have HI:=lhd (show vv 1 n s=zdf s by simp[vv,hv]);rw[hv]at HT;clear hv;go_enter Tryz.func131,Tryz.ntmps131;go_wp2_with fail;refine HT.out.mono ?_;rintro e w1 ⟨rfl,rfl⟩;go_wp2_with fail;refine(zk5 s _ HM.out).mono ?_;rintro e w2 ⟨rfl,hb⟩;have HB:=lhd hb;clear hb;go_wp2_with fail;go_ret;exact⟨zli HI.out.symm,HB.out⟩
  ·have HI:=lhd (show vv 2 n s=decide (s.size≤64)by simp[vv,hv]);rw[hv]at HT;clear hv;go_enter Tryz.func131,Tryz.ntmps131;go_wp2_with fail;refine HT.out.mono ?_;rintro e w1 ⟨rfl,rfl⟩;go_wp2_with fail;go_ret;exact⟨zli (by rw[HI.out,Bool.eq_iff_iff];simp;try omega),Below.refl _ _⟩
  ·have HI:=lhd (show vv 3 n s=nilB s by simp[vv,hv]);rw[hv]at HT;clear hv;by_cases hz:s.size=0
   ·have HN:=lhd (show nilB s=true by simp[nilB,hz])
    obtain rfl:s=⟨#[]⟩:=by
     obtain⟨a⟩:=s;have:a=#[]:=Array.eq_empty_of_size_eq_zero hz;rw[this]
    clear hz;go_enter Tryz.func131,Tryz.ntmps131;go_wp2_with fail;refine HT.out.mono ?_;rintro e w1 ⟨rfl,rfl⟩;go_wp2_with fail;go_ret;exact⟨zli (by rw[HI.out,HN.out];try rfl),Below.refl _ _⟩
   ·have HN:=lhd (show nilB s=false by simp[nilB,hz]);have hne:=zoY s hz;clear hz;go_enter Tryz.func131,Tryz.ntmps131;go_wp2_with fail;refine HT.out.mono ?_;rintro e w1 ⟨rfl,rfl⟩;go_wp2_with fail;go_ret;exact⟨zli (by rw[HI.out,HN.out];try rfl),Below.refl _ _⟩
theorem zla (t:Int) (w:World) (h0:0≤t) (h1:t≤1099511627776):Calls Tryz.prog 130 #[.int .i64 t] w fun e w'=>e=.returned (.bool true)∧w=w':=by
 go_enter Tryz.func130,Tryz.ntmps130;go_wp2_with fail;go_ret;exact⟨zli (by first|rfl|simp;omega),rfl⟩
theorem zk9 (t:Int) (w:World) (h:t<0∨1099511627776<t):Calls Tryz.prog 130 #[.int .i64 t] w fun e w'=>e=.returned (.bool false)∧w=w':=by
 rcases h with h|h
 ·go_enter Tryz.func130,Tryz.ntmps130;go_wp2_with fail;go_ret;exact⟨zli (by first|rfl|simp;omega),rfl⟩
 ·have h0:0≤t:=by omega
  go_enter Tryz.func130,Tryz.ntmps130;go_wp2_with fail;go_ret;exact⟨zli (by first|rfl|simp;omega),rfl⟩
theorem zlc (k n:Int) (v:Value) (l:List Ch) (w:World) (hs:SlR w v l.length (chs l)) (hf:Fit l):
 Calls Tryz.prog 69 #[.agg #[.int .i64 k,.int .i64 n,v]] w fun e w'=>e=.returned (.bool (sv k n l))∧Below w.heap.size w w':=by
 obtain⟨a,cap,rfl,hc,hm⟩:=hs.shape;have hln:=hf.1;unfold maxLen at hm;have HT:=lhd (fun W=>zk1 k n W);cases hv:vt k n
 ·have E:=lhd (show sv k n l=false by simp[sv,hv]);rw[hv]at HT;clear hv;go_enter Tryz.func69,Tryz.ntmps69;go_wp2_with fail;refine(HT.out _).mono ?_;rintro e w1 ⟨rfl,rfl⟩;go_wp2_with fail;go_ret;exact⟨zli E.out.symm,(Below.refl _ _).alloc (Nat.le_refl _) _⟩
 by_cases h4:4096<l.length
 ·have E:=lhd (show sv k n l=false by simp[sv];omega);rw[hv]at HT;clear hv;go_enter Tryz.func69,Tryz.ntmps69;go_wp2_with fail;refine(HT.out _).mono ?_;rintro e w1 ⟨rfl,rfl⟩;go_wp2_with fail;go_ret;exact⟨zli E.out.symm,(Below.refl _ _).alloc (Nat.le_refl _) _⟩
 have e:sv k n l=svGo k n (-1) (vi k n) l:=by simp[sv,hv];omega
 rw[hv]at HT;have E:=lhd e;have HS:=lhd hs;have HF:=lhd hf;clear e hs hf hv;go_enter Tryz.func69,Tryz.ntmps69;go_wp2_with fail;refine(HT.out _).mono ?_;rintro e w1 ⟨rfl,rfl⟩;go_wp2_with fail;refine(zle k n _).mono ?_;rintro e w2 ⟨rfl,hb2⟩;have HB12:=lhd hb2;clear hb2;go_wp2_with fail
 go_loopw [3,4,5] (fun v_ a_ i wr=>∃(j:Nat) (at_:Int) (v:ByteArray),j≤l.length∧i=.int .i64 j∧a_=.int .i64 at_∧v_=.string v∧ -1≤at_∧svGo k n at_ v (l.drop j)=svGo k n (-1) (vi k n) l∧
  Below (w.alloc (.cells #[.int .i64 k,.int .i64 n,.slice a l.length cap] 45)).heap.size (w.alloc (.cells #[.int .i64 k,.int .i64 n,.slice a l.length cap] 45)) wr)
  (fun _ _ i _=>l.length-(intOf i).toNat)
 case atStart=>exact⟨0,-1,vi k n,Nat.zero_le _,rfl,rfl,rfl,by omega,rfl,HB12.out⟩
 case round=>
  obtain⟨j,at_,v,hj,rfl,rfl,rfl,hat,hgo,hb⟩:=hrel;obtain⟨c0,c1,c2⟩:=box3 hb;have hbw:=zel hb;have hsz0:w.heap.size<wr.heap.size:=by have:=hb.size;simp at this;omega
  have HGO:=lhd hgo;clear hgo;by_cases hlt:j<l.length
  ·obtain⟨b,o,rfl,d0,d1⟩:=(HS.out.below hbw).ch hlt
   have hfit:l[j].2.size≤maxLen:=by
    have:=HF.out.2 l[j] (List.getElem_mem hlt);unfold maxLen;omega
   have HGO2:Hid ((if l[j].1≤at_∨1099511627776<l[j].1 then false else if vv k n l[j].2=false then false else if k≠3∧l[j].2=v then false else svGo k n l[j].1 l[j].2 (l.drop (j+1)))=svGo k n (-1) (vi k n) l):=lhd (by
    have:=HGO.out;rw[List.drop_eq_getElem_cons hlt,svGo]at this;exact this)
   generalize l[j]=c at d0 d1 hfit HGO2;obtain⟨t,s⟩:=c;simp only at d0 d1 hfit;by_cases hA:t≤at_∨1099511627776<t
   ·have E2:=lhd (E.out.trans (show svGo k n (-1) (vi k n) l=false by rw[←HGO2.out,if_pos hA]));by_cases hin:t<0∨1099511627776<t
    ·have HIN:=lhd (fun W=>zk9 t W hin);clear hin hA;go_wp2_with fail;refine(HIN.out _).mono ?_;rintro e w3 ⟨rfl,rfl⟩;go_wp2_with fail;go_ret;exact⟨zli E2.out.symm,hbw.alloc hbw.size _⟩
    ·have HIN:=lhd (fun W=>zla t W (by omega) (by omega));have hA1:t≤at_:=by omega
     clear hin hA;go_wp2_with fail;refine(HIN.out _).mono ?_;rintro e w3 ⟨rfl,rfl⟩;go_wp2_with fail;go_ret;exact⟨zli E2.out.symm,hbw.alloc hbw.size _⟩
   ·have HIN:=lhd (fun W=>zla t W (by omega) (by omega));obtain⟨hA1,hA2⟩:at_<t∧t≤1099511627776:=by omega
    have HGO3:=lhd ((if_neg hA).symm.trans HGO2.out);clear hA;have HB:=lhd hb;have HBW:=lhd hbw;have HVal:=lhd (fun W=>zlf k n s W hfit);clear hb hbw;go_wp2_with fail;refine(HIN.out _).mono ?_;rintro e w3 ⟨rfl,rfl⟩;cases hV:vv k n s
    ·have E2:=lhd (E.out.trans (show svGo k n (-1) (vi k n) l=false by rw[←HGO3.out,if_pos hV]));rw[hV]at HVal;clear hV;go_wp2_with fail;refine(HVal.out _).mono ?_;rintro e w3 ⟨rfl,hb3⟩;go_wp2_with fail;go_ret;exact⟨zli E2.out.symm,zem HBW.out (zel hb3)⟩
    ·rw[hV]at HVal;have HVV:=lhd hV;clear hV;go_wp2_with fail;refine(HVal.out _).mono ?_;rintro e w3 ⟨rfl,hb3⟩;have hbx:=zem HBW.out (zel hb3);have hb4:Below (w.alloc (.cells #[.int .i64 k,.int .i64 n,.slice (some ⟨b,o,none⟩) l.length cap] 45)).heap.size (w.alloc (.cells #[.int .i64 k,.int .i64 n,.slice (some ⟨b,o,none⟩) l.length cap] 45)) w3:=zem HB.out (zel hb3);obtain⟨c0',c1',c2'⟩:=box3 hb4;have p0:w3.cell? ⟨wr.heap.size,0,none⟩=some (.int .i64 t):=(boxN hb3 0).1;have p1:w3.cell? ⟨wr.heap.size,1,none⟩=some (.string s):=(boxN hb3 1).1;have hsz:=hb3.size;have HB4:=lhd hb4;have HB3:=lhd hb3;clear c0 c1 c2 d0 d1 hb4 hb3;by_cases hk:k≠3∧s=v
     ·have E2:=lhd (E.out.trans (show svGo k n (-1) (vi k n) l=false by rw[←HGO3.out,if_neg (by rw[HVV.out];simp),if_pos hk]));have hk1:(k !=3)=true:=by rw[bne_iff_ne];exact hk.1
      obtain⟨-,rfl⟩:=hk;go_wp2_with fail;go_ret;exact⟨zli E2.out.symm,hbx⟩
     ·have E2:=lhd (show svGo k n t s (l.drop (j+1))=svGo k n (-1) (vi k n) l by rw[←HGO3.out,if_neg (by rw[HVV.out];simp),if_neg hk]);by_cases hk3:k=3
      ·subst hk3;go_wp2_with fail;go_quiet (fail);go_wp2_with fail;go_roundw;case rel=>exact⟨j+1,t,s,by omega,by go_num,rfl,rfl,by omega,E2.out,za6 HB4.out _⟩
       case measure=>simp[intOf];omega
      ·have hk1:(k !=3)=true:=by rw[bne_iff_ne];exact hk3
       have hsv:(s.toList==v.toList)=false:=za1 (fun e=>hk ⟨hk3,e⟩);clear hk hk3;go_wp2_with fail;go_quiet (fail);go_wp2_with fail;go_roundw;case rel=>exact⟨j+1,t,s,by omega,by go_num,rfl,rfl,by omega,E2.out,za6 HB4.out _⟩
       case measure=>simp[intOf];omega
  ·obtain rfl:j=l.length:=by omega
   have E2:=lhd (E.out.trans (show svGo k n (-1) (vi k n) l=true by rw[←HGO.out,List.drop_length];rfl));go_wp2_with fail;go_ret;exact⟨zli E2.out.symm,hbw⟩
theorem zkU (k n:Int) (v:Value) (l:List Ch) (w:World) (hs:SlR w v l.length (chs l)) (hl:l.length≤1000000):
 Calls Tryz.prog 136 #[.int .i64 k,.int .i64 n,v] w fun e w'=>∃v',e=.returned v'∧w'.ownsRow w.heap.size 53 2 v' (zih k n l).length (chs (zih k n l))∧Below w.heap.size w w':=by
 obtain⟨a,cap,rfl,hc,hm⟩:=hs.shape;have HS:=lhd hs;unfold maxLen at hm;obtain⟨i0,hi,iz0,iz1,iz2⟩:=info_parts (P:=Tryz.prog) zbX;clear hs;go_enter Tryz.func136,Tryz.ntmps136;go_wp2_with fail;refine(zle k n _).mono ?_;rintro e w1 ⟨rfl,hb⟩;have HO1:=lhd ((World.ownsRow_made w #[] 0 (Nat.le_refl _) (Nat.zero_le _) rfl:(w.alloc (.cells #[] 53)).ownsRow w.heap.size 53 2 (.slice (some ⟨w.heap.size,0,none⟩) 0 0) 0 []).kept (w':=w1) (row:=none) ⟨hb.os,hb.tape,hb.output,hb.size,fun i hi _=>hb.block i hi⟩ (.inr (by simp[Value.ownBlock])));have HB:=lhd (zel hb);clear hb;go_wp2_with fail
 go_loopw [7,8,9] (fun o_ v_ i wr=>∃(j:Nat) (v:ByteArray) (out:List Ch),j≤l.length∧i=.int .i64 j∧v_=.string v∧out.length≤j∧out++zh7 k v (l.drop j)=zih k n l∧wr.ownsRow w.heap.size 53 2 o_ out.length (chs out)∧Below w.heap.size w wr)
  (fun _ _ i _=>l.length-(intOf i).toNat)
 case atStart=>exact⟨0,vi k n,[],Nat.zero_le _,rfl,rfl,Nat.le_refl _,rfl,HO1.out,HB.out⟩
 case round=>
  obtain⟨j,v,out,hj,rfl,rfl,hol,hn,ho,hb⟩:=hrel;obtain⟨ao,co,rfl,hco,hmo⟩:=(SlR.of_own ho).shape;have hsz:=hb.size;have HO:=lhd ho;have HB2:=lhd hb;have HN:=lhd hn;clear ho hb hn HB HO1;by_cases hlt:j<l.length
  ·obtain⟨b,o,rfl,d0,d1⟩:=(HS.out.below HB2.out).ch hlt;obtain⟨b2,o2,he2,-,e1⟩:=HS.out.ch hlt;injection he2 with he2;injection he2 with he3 he4 _;subst he3 he4;have hblt:=zbT d0
   have HN2:Hid (out++(if(∃d∈(l.drop (j+1)).head?,d.1=l[j].1)∨(k≠3∧l[j].2=v)then zh7 k v (l.drop (j+1))else l[j]::zh7 k l[j].2 (l.drop (j+1)))=zih k n l):=lhd (by
    have:=HN.out;rw[List.drop_eq_getElem_cons hlt,zh7]at this;exact this)
   have hw1:=zhO j (by omega);have hw2:(0:Int)≤(j:Int)+1:=by omega
   have hw3:((j:Int)+1).toNat=j+1:=by omega
   by_cases hnx:j+1<l.length
   ·obtain⟨b',o',he,x0,-⟩:=(HS.out.below HB2.out).ch hnx;injection he with he;injection he with he1 he2 _;subst he1 he2;have HH:Hid ((l.drop (j+1)).head? =some l[j+1]):=lhd (by rw[List.head?_drop,List.getElem?_eq_getElem hnx]);generalize hc0:l[j]=c at d0 d1 e1 HN2;generalize l[j+1]=d at x0 HH;obtain⟨t,s⟩:=c;obtain⟨t',s'⟩:=d;simp only at d0 d1 e1 x0;clear hc0;have hnx':decide ((j:Int)+1<(l.length:Int))=true:=by simp;omega
    by_cases hsame:t'=t
    ·have HNS:Hid (out++zh7 k v (l.drop (j+1))=zih k n l):=lhd (by
      rw[←HN2.out,if_pos (.inl ⟨(t',s'),by rw[HH.out];rfl,hsame⟩)])
     have hsb:((t':Int)==t)=true:=by rw[beq_iff_eq];exact hsame
     clear hsame;go_wp2_with fail;go_quiet (fail);go_wp2_with fail;go_roundw;case rel=>exact⟨j+1,v,out,by omega,by go_num,rfl,by omega,HNS.out,HO.out,za6 HB2.out _⟩
     case measure=>simp[intOf];omega
    ·have hnh:¬ ∃d∈(l.drop (j+1)).head?,d.1=t:=by rw[HH.out];rintro⟨d,hd,he⟩;obtain rfl:=Option.some.inj hd;exact hsame he
     have hsb:((t':Int)==t)=false:=by rw[beq_eq_false_iff_ne];exact hsame
     have HNH:=lhd hnh;clear hsame hnh;by_cases hk3:k=3
     ·have HNS:Hid ((out++ [(t,s)])++zh7 k s (l.drop (j+1))=zih k n l):=lhd (by
       rw[←HN2.out,if_neg (fun h=>h.elim (fun h=>HNH.out h) (fun h=>h.1 hk3))];simp)
      have hkb:(k !=3)=false:=by rw[bne_eq_false_iff_eq];exact hk3
      clear hk3;go_wp2_with fail;go_quiet (fail);have hcell:=fun(W:World)=>World.news_of_block (w:=W.alloc (.cells #[.int .i64 t,.string s] 53)) (cs:=#[.int .i64 t,.string s]) (t:=53) (fr:=(0,0)) (by exact heap_alloc_new W _);have HC:=lhd hcell;clear hcell;go_wp2_with (at_builtin;refine wpList_append_own _ rfl _ _ 43 rfl w.heap.size 53 i0 (.agg #[.int .i64 0,.string ⟨#[]⟩]) 2 24 Tryz.underlying43 hi iz0 iz1 iz2 rfl (by decide) _ _ _ rfl (World.ownsRow.alloc (by exact HO.out) _) ⟨wr.heap.size,0,none⟩ 1 1 [.int .i64 t,.string s] rfl rfl (by exact HC.out _) (by simp[Value.oneCell']) (by unfold maxLen;omega) (by omega) (by simp;omega) ?_)
      intro v4 w4 ho4 hg4 _;have HO4:=lhd ho4;have hb4:Below w.heap.size w w4:=Below.grown ((za6 HB2.out _).alloc (by simpa using hsz) _) hg4 (by simp;omega) (fun q hq=>by have:=(HO.out.lt q hq).1;simp;omega);have d1':=(hb4.cell (p:=⟨b,o+j*2+1,none⟩) (zbT e1)).trans e1;have HB4:=lhd hb4;clear ho4 hg4 hb4;go_wp2_with fail;go_roundw;case rel=>exact⟨j+1,s,out++ [(t,s)],by omega,by go_num,rfl,by simp;omega,HNS.out,by rw[zck];simpa[chs,encC] using HO4.out,HB4.out⟩
      case measure=>simp[intOf];omega
     ·have hkb:(k !=3)=true:=by rw[bne_iff_ne];exact hk3
      by_cases hsv:s=v
      ·have HNS:Hid (out++zh7 k v (l.drop (j+1))=zih k n l):=lhd (by
        rw[←HN2.out,if_pos (.inr ⟨hk3,hsv⟩)])
       subst hsv;clear hk3;go_wp2_with fail;go_quiet (fail);go_wp2_with fail;go_roundw;case rel=>exact⟨j+1,s,out,by omega,by go_num,rfl,by omega,HNS.out,HO.out,za6 HB2.out _⟩
       case measure=>simp[intOf];omega
      ·have HNS:Hid ((out++ [(t,s)])++zh7 k s (l.drop (j+1))=zih k n l):=lhd (by
        rw[←HN2.out,if_neg (fun h=>h.elim (fun h=>HNH.out h) (fun h=>hsv h.2))];simp)
       have hsb:=za1 hsv;clear hk3 hsv;go_wp2_with fail;go_quiet (fail);have hcell:=fun(W:World)=>World.news_of_block (w:=W.alloc (.cells #[.int .i64 t,.string s] 53)) (cs:=#[.int .i64 t,.string s]) (t:=53) (fr:=(0,0)) (by exact heap_alloc_new W _);have HC:=lhd hcell;clear hcell;go_wp2_with (at_builtin;refine wpList_append_own _ rfl _ _ 43 rfl w.heap.size 53 i0 (.agg #[.int .i64 0,.string ⟨#[]⟩]) 2 24 Tryz.underlying43 hi iz0 iz1 iz2 rfl (by decide) _ _ _ rfl (World.ownsRow.alloc (by exact HO.out) _) ⟨wr.heap.size,0,none⟩ 1 1 [.int .i64 t,.string s] rfl rfl (by exact HC.out _) (by simp[Value.oneCell']) (by unfold maxLen;omega) (by omega) (by simp;omega) ?_)
       intro v4 w4 ho4 hg4 _;have HO4:=lhd ho4;have hb4:Below w.heap.size w w4:=Below.grown ((za6 HB2.out _).alloc (by simpa using hsz) _) hg4 (by simp;omega) (fun q hq=>by have:=(HO.out.lt q hq).1;simp;omega);have d1':=(hb4.cell (p:=⟨b,o+j*2+1,none⟩) (zbT e1)).trans e1;have HB4:=lhd hb4;clear ho4 hg4 hb4;go_wp2_with fail;go_roundw;case rel=>exact⟨j+1,s,out++ [(t,s)],by omega,by go_num,rfl,by simp;omega,HNS.out,by rw[zck];simpa[chs,encC] using HO4.out,HB4.out⟩
       case measure=>simp[intOf];omega
   ·have hnh:¬ ∃d∈(l.drop (j+1)).head?,d.1=l[j].1:=by rw[List.drop_eq_nil_of_le (by omega)];rintro⟨d,hd,-⟩;cases hd
    generalize hc0:l[j]=c at d0 d1 e1 HN2 hnh;obtain⟨t,s⟩:=c;simp only at d0 d1 e1;have HNH:=lhd hnh;have hnx':decide ((j:Int)+1<(l.length:Int))=false:=by simp;omega
    clear hc0 hnh hnx;by_cases hk3:k=3
    ·have HNS:Hid ((out++ [(t,s)])++zh7 k s (l.drop (j+1))=zih k n l):=lhd (by
      rw[←HN2.out,if_neg (fun h=>h.elim (fun h=>HNH.out h) (fun h=>h.1 hk3))];simp)
     have hkb:(k !=3)=false:=by rw[bne_eq_false_iff_eq];exact hk3
     clear hk3;go_wp2_with fail;go_quiet (fail);have hcell:=fun(W:World)=>World.news_of_block (w:=W.alloc (.cells #[.int .i64 t,.string s] 53)) (cs:=#[.int .i64 t,.string s]) (t:=53) (fr:=(0,0)) (by exact heap_alloc_new W _);have HC:=lhd hcell;clear hcell;go_wp2_with (at_builtin;refine wpList_append_own _ rfl _ _ 43 rfl w.heap.size 53 i0 (.agg #[.int .i64 0,.string ⟨#[]⟩]) 2 24 Tryz.underlying43 hi iz0 iz1 iz2 rfl (by decide) _ _ _ rfl (World.ownsRow.alloc (by exact HO.out) _) ⟨wr.heap.size,0,none⟩ 1 1 [.int .i64 t,.string s] rfl rfl (by exact HC.out _) (by simp[Value.oneCell']) (by unfold maxLen;omega) (by omega) (by simp;omega) ?_)
     intro v4 w4 ho4 hg4 _;have HO4:=lhd ho4;have hb4:Below w.heap.size w w4:=Below.grown ((za6 HB2.out _).alloc (by simpa using hsz) _) hg4 (by simp;omega) (fun q hq=>by have:=(HO.out.lt q hq).1;simp;omega);have d1':=(hb4.cell (p:=⟨b,o+j*2+1,none⟩) (zbT e1)).trans e1;have HB4:=lhd hb4;clear ho4 hg4 hb4;go_wp2_with fail;go_roundw;case rel=>exact⟨j+1,s,out++ [(t,s)],by omega,by go_num,rfl,by simp;omega,HNS.out,by rw[zck];simpa[chs,encC] using HO4.out,HB4.out⟩
     case measure=>simp[intOf];omega
    ·have hkb:(k !=3)=true:=by rw[bne_iff_ne];exact hk3
     by_cases hsv:s=v
     ·have HNS:Hid (out++zh7 k v (l.drop (j+1))=zih k n l):=lhd (by
       rw[←HN2.out,if_pos (.inr ⟨hk3,hsv⟩)])
      subst hsv;clear hk3;go_wp2_with fail;go_quiet (fail);go_wp2_with fail;go_roundw;case rel=>exact⟨j+1,s,out,by omega,by go_num,rfl,by omega,HNS.out,HO.out,za6 HB2.out _⟩
      case measure=>simp[intOf];omega
     ·have HNS:Hid ((out++ [(t,s)])++zh7 k s (l.drop (j+1))=zih k n l):=lhd (by
       rw[←HN2.out,if_neg (fun h=>h.elim (fun h=>HNH.out h) (fun h=>hsv h.2))];simp)
      have hsb:=za1 hsv;clear hk3 hsv;go_wp2_with fail;go_quiet (fail);have hcell:=fun(W:World)=>World.news_of_block (w:=W.alloc (.cells #[.int .i64 t,.string s] 53)) (cs:=#[.int .i64 t,.string s]) (t:=53) (fr:=(0,0)) (by exact heap_alloc_new W _);have HC:=lhd hcell;clear hcell;go_wp2_with (at_builtin;refine wpList_append_own _ rfl _ _ 43 rfl w.heap.size 53 i0 (.agg #[.int .i64 0,.string ⟨#[]⟩]) 2 24 Tryz.underlying43 hi iz0 iz1 iz2 rfl (by decide) _ _ _ rfl (World.ownsRow.alloc (by exact HO.out) _) ⟨wr.heap.size,0,none⟩ 1 1 [.int .i64 t,.string s] rfl rfl (by exact HC.out _) (by simp[Value.oneCell']) (by unfold maxLen;omega) (by omega) (by simp;omega) ?_)
      intro v4 w4 ho4 hg4 _;have HO4:=lhd ho4;have hb4:Below w.heap.size w w4:=Below.grown ((za6 HB2.out _).alloc (by simpa using hsz) _) hg4 (by simp;omega) (fun q hq=>by have:=(HO.out.lt q hq).1;simp;omega);have d1':=(hb4.cell (p:=⟨b,o+j*2+1,none⟩) (zbT e1)).trans e1;have HB4:=lhd hb4;clear ho4 hg4 hb4;go_wp2_with fail;go_roundw;case rel=>exact⟨j+1,s,out++ [(t,s)],by omega,by go_num,rfl,by simp;omega,HNS.out,by rw[zck];simpa[chs,encC] using HO4.out,HB4.out⟩
      case measure=>simp[intOf];omega
  ·obtain rfl:j=l.length:=by omega
   have HE:=lhd (show out=zih k n l by have:=HN.out;rw[List.drop_length]at this;simpa[zh7] using this);go_wp2_with fail;go_ret;exact⟨_,rfl,by rw[←HE.out];exact HO.out,HB2.out⟩
theorem zk4 (k n:Int) (v:Value) (l:List Ch) (w:World) (hs:SlR w v l.length (chs l)) (hl:l.length≤1000000):
 Calls Tryz.prog 132 #[.int .i64 k,.int .i64 n,v] w (zaq (zhm k n l) w):=by
 obtain⟨a,cap,rfl,hc,hm⟩:=hs.shape;have hbw:Below w.heap.size w (w.alloc (.cells #[.int .i64 0,.int .i64 0,.slice none 0 0] 45)):=(Below.refl _ _).alloc (Nat.le_refl _) _;have HN:=lhd (zkU k n _ l _ (hs.below hbw) hl);have hnl:(zih k n l).length≤l.length:=zh9 k l _;clear hs hbw;go_enter Tryz.func132,Tryz.ntmps132;go_wp2_with fail;refine HN.out.mono ?_;rintro e w1 ⟨v1,rfl,ho,hb⟩;obtain⟨a1,cap1,rfl,hc1,hm1⟩:=(SlR.of_own ho).shape;obtain⟨c0,c1,c2⟩:=box3 hb;obtain⟨f0,f1,f2⟩:=zbo hb;have hsz:=hb.size;have HB:=lhd (zel hb);have HO:=lhd ho;simp only[World.size_alloc]at hsz;have hsz0:w.heap.size<w1.heap.size:=by omega
 clear hb ho hsz;by_cases hbig:4096<(zih k n l).length
 ·have HR:=lhd (show zhm k n l=((0,0,[]),9)by unfold zhm;rw[if_pos hbig]);go_wp2_with fail;obtain⟨e0,e1,e2⟩:=set3 c0 c1 c2 (.int .i64 0) (.int .i64 0) (.slice none 0 0);have e0:=zbS e0 (.cells #[.int .i64 k,.int .i64 n,.slice a1 (zih k n l).length cap1] 45);have e1:=zbS e1 (.cells #[.int .i64 k,.int .i64 n,.slice a1 (zih k n l).length cap1] 45);have e2:=zbS e2 (.cells #[.int .i64 k,.int .i64 n,.slice a1 (zih k n l).length cap1] 45);refine bodyPost_ret (v:=.tuple #[.agg #[.int .i64 0,.int .i64 0,.slice none 0 0],.int .i64 9]) (by simp[results,Tryz.results132,go_sem,e0,e1,e2]) rfl ?_;rw[HR.out];exact zaq.zero 9 ((zbc HB.out _ _ _).alloc (by simp;omega) _)
 ·have HR:=lhd (show zhm k n l=((k,n,zih k n l),0)by unfold zhm;rw[if_neg hbig]);go_wp2_with fail;obtain⟨e0,e1,e2⟩:=set3 c0 c1 c2 (.int .i64 k) (.int .i64 n) (.slice a1 (zih k n l).length cap1);have e0:=zbS e0 (.cells #[.int .i64 k,.int .i64 n,.slice a1 (zih k n l).length cap1] 45);have e1:=zbS e1 (.cells #[.int .i64 k,.int .i64 n,.slice a1 (zih k n l).length cap1] 45);have e2:=zbS e2 (.cells #[.int .i64 k,.int .i64 n,.slice a1 (zih k n l).length cap1] 45);refine bodyPost_ret (v:=.tuple #[.agg #[.int .i64 k,.int .i64 n,.slice a1 (zih k n l).length cap1],.int .i64 0]) (by simp[results,Tryz.results132,go_sem,e0,e1,e2]) rfl ?_;rw[HR.out];exact⟨_,rfl,zjJ ((zjK HO.out (by simp) _ _ _).alloc _) (by simp),(zbc HB.out _ _ _).alloc (by simp;omega) _⟩
theorem zkR (k n k2 n2:Int) (v u:Value) (l m:List Ch) (w:World) (hs:SlR w v l.length (chs l)) (ht:SlR w u m.length (chs m)):
 Calls Tryz.prog 72 #[.agg #[.int .i64 k,.int .i64 n,v],.agg #[.int .i64 k2,.int .i64 n2,u]] w fun e w'=>e=.returned (.bool (sEq k n l k2 n2 m))∧Below w.heap.size w w':=by
 obtain⟨a,cap,rfl,hc,hm⟩:=hs.shape;obtain⟨a2,cap2,rfl,hc2,hm2⟩:=ht.shape;have hbw:Below w.heap.size w ((w.alloc (.cells #[.int .i64 k,.int .i64 n,.slice a l.length cap] 45)).alloc (.cells #[.int .i64 k2,.int .i64 n2,.slice a2 m.length cap2] 45)):=((Below.refl _ _).alloc (Nat.le_refl _) _).alloc (by simp) _;have HE:=lhd (zkZ _ _ l m _ (hs.below hbw) (ht.below hbw));have HB:=lhd hbw;clear hs ht hbw;by_cases hk:k=k2
 ·by_cases hn:n=n2
  ·have HR:=lhd (show sEq k n l k2 n2 m=zl8 l m by simp[sEq,hk,hn]);subst hk hn;go_enter Tryz.func72,Tryz.ntmps72;go_wp2_with fail;refine HE.out.mono ?_;rintro e w1 ⟨rfl,hb⟩;go_wp2_with fail;go_ret;exact⟨zli HR.out.symm,HB.out.trans (hb.mono HB.out.size)⟩
  ·have HR:=lhd (show sEq k n l k2 n2 m=false by simp[sEq,hk,hn]);have hnb:(n==n2)=false:=by rw[beq_eq_false_iff_ne];exact hn
   subst hk;clear hn;go_enter Tryz.func72,Tryz.ntmps72;go_wp2_with fail;go_ret;exact⟨zli HR.out.symm,HB.out⟩
 ·have HR:=lhd (show sEq k n l k2 n2 m=false by simp[sEq,hk]);have hkb:(k==k2)=false:=by rw[beq_eq_false_iff_ne];exact hk
  clear hk;go_enter Tryz.func72,Tryz.ntmps72;go_wp2_with fail;go_ret;exact⟨zli HR.out.symm,HB.out⟩
theorem zk2 (k n:Int) (v:Value) (l:List Ch) (t:Int) (w:World) (hs:SlR w v l.length (chs l)):
 Calls Tryz.prog 135 #[.agg #[.int .i64 k,.int .i64 n,v],.int .i64 t] w fun e w'=>e=.returned (.string (val (vi k n) l t))∧Below w.heap.size w w':=by
 obtain⟨a,cap,rfl,hc,hm⟩:=hs.shape;unfold maxLen at hm;have HS:=lhd hs;clear hs;go_enter Tryz.func135,Tryz.ntmps135;go_wp2_with fail;refine(zle k n _).mono ?_;rintro e w1 ⟨rfl,hb⟩;obtain⟨c0,c1,c2⟩:=box3 hb;have HS1:=lhd (HS.out.below (zel hb));have HB:=lhd (zel hb);clear hb HS;go_wp2_with fail;go_loop [5,6] (fun v_ i=>∃(j:Nat) (s:ByteArray),j≤l.length∧i=.int .i64 j∧v_=.string s∧val s (l.drop j) t=val (vi k n) l t) (fun _ i=>l.length-(intOf i).toNat)
 case atStart=>exact⟨0,_,Nat.zero_le _,rfl,rfl,rfl⟩
 case round=>
  obtain⟨j,s,hj,rfl,rfl,hgo⟩:=hrel;have HGO:=lhd hgo;clear hgo;by_cases hlt:j<l.length
  ·obtain⟨b,o,rfl,d0,d1⟩:=HS1.out.ch hlt
   have HGO2:=lhd (show val (if l[j].1≤t then l[j].2 else s) (l.drop (j+1)) t=val (vi k n) l t by
    rw[←HGO.out,List.drop_eq_getElem_cons hlt,zpG])
   generalize l[j]=c at d0 d1 HGO2;obtain⟨t',s'⟩:=c;simp only at d0 d1 HGO2;by_cases ht:t'≤t
   ·have HGO3:=lhd (show val s' (l.drop (j+1)) t=val (vi k n) l t by rw[←HGO2.out,if_pos ht]);go_wp2_with fail;go_round
    case rel=>exact⟨j+1,s',by omega,by go_num,rfl,HGO3.out⟩
    case measure=>simp[intOf];omega
   ·have HGO3:=lhd (show val s (l.drop (j+1)) t=val (vi k n) l t by rw[←HGO2.out,if_neg ht]);have ht':t<t':=by omega
    clear ht;go_wp2_with fail;go_round
    case rel=>exact⟨j+1,s,by omega,by go_num,rfl,HGO3.out⟩
    case measure=>simp[intOf];omega
  ·obtain rfl:j=l.length:=by omega
   have HE:=lhd (show s=val (vi k n) l t by rw[←HGO.out,List.drop_length];rfl);go_wp2_with fail;go_ret;exact⟨zll HE.out,HB.out⟩
theorem zkX (v:Value) (l:List Ch) (from_ to_:Int) (w:World) (hs:SlR w v l.length (chs l)) (hl:l.length≤1000000):
 Calls Tryz.prog 133 #[v,.int .i64 from_,.int .i64 to_] w fun e w'=>∃v',e=.returned v'∧w'.ownsRow w.heap.size 53 2 v' (zjP l from_ to_).length (chs (zjP l from_ to_))∧Below w.heap.size w w':=by
 obtain⟨a,cap,rfl,hc,hm⟩:=hs.shape;have HS:=lhd hs;unfold maxLen at hm;obtain⟨i0,hi,iz0,iz1,iz2⟩:=info_parts (P:=Tryz.prog) zbX;have HO1:=lhd (World.ownsRow_made w #[] 0 (Nat.le_refl _) (Nat.zero_le _) rfl:(w.alloc (.cells #[] 53)).ownsRow w.heap.size 53 2 (.slice (some ⟨w.heap.size,0,none⟩) 0 0) 0 []);have HB1:=lhd ((Below.refl w.heap.size w).alloc (Nat.le_refl _) (.cells #[] 53));clear hs;go_enter Tryz.func133,Tryz.ntmps133;go_wp2_with fail
 go_loopw [7,8] (fun o_ i wr=>∃(j:Nat) (out:List Ch),j≤l.length∧i=.int .i64 j∧out.length≤j∧out=zjP (l.take j) from_ to_∧wr.ownsRow w.heap.size 53 2 o_ out.length (chs out)∧Below w.heap.size w wr)
  (fun _ i _=>l.length-(intOf i).toNat)
 case atStart=>exact⟨0,[],Nat.zero_le _,rfl,Nat.le_refl _,rfl,HO1.out,HB1.out⟩
 case round=>
  obtain⟨j,out,hj,rfl,hol,hn,ho,hb⟩:=hrel;obtain⟨ao,co,rfl,hco,hmo⟩:=(SlR.of_own ho).shape;have hsz:=hb.size;have HO:=lhd ho;have HB2:=lhd hb;have HN:=lhd hn;clear ho hb hn HB1 HO1;by_cases hlt:j<l.length
  ·obtain⟨b,o,rfl,d0,d1⟩:=(HS.out.below HB2.out).ch hlt;have HN2:Hid (zjP (l.take (j+1)) from_ to_=out++(if from_≤l[j].1∧l[j].1≤to_ then [l[j]]else [])):=lhd (by rw[zjW l from_ to_ j hlt,HN.out]);generalize l[j]=c at d0 d1 HN2;obtain⟨t,s⟩:=c;simp only at d0 d1 HN2;by_cases h1:from_≤t∧t≤to_
   ·have HN3:=lhd (show out++ [(t,s)]=zjP (l.take (j+1)) from_ to_ by rw[HN2.out,if_pos h1]);obtain⟨h2,h3⟩:=h1;have hcell:=fun(W:World)=>World.news_of_block (w:=W.alloc (.cells #[.int .i64 t,.string s] 53)) (cs:=#[.int .i64 t,.string s]) (t:=53) (fr:=(0,0)) (by exact heap_alloc_new W _);have HC:=lhd hcell;clear hcell;go_wp2_with (at_builtin;refine wpList_append_own _ rfl _ _ 43 rfl w.heap.size 53 i0 (.agg #[.int .i64 0,.string ⟨#[]⟩]) 2 24 Tryz.underlying43 hi iz0 iz1 iz2 rfl (by decide) _ _ _ rfl (World.ownsRow.alloc (by exact HO.out) _) ⟨wr.heap.size,0,none⟩ 1 1 [.int .i64 t,.string s] rfl rfl (by exact HC.out _) (by simp[Value.oneCell']) (by unfold maxLen;omega) (by omega) (by simp;omega) ?_)
    intro v4 w4 ho4 hg4 _;have HO4:=lhd ho4;have HB4:=lhd (show Below w.heap.size w w4 from Below.grown (HB2.out.alloc (by simpa using hsz) _) hg4 (by simp;omega) (fun q hq=>by have:=(HO.out.lt q hq).1;simp;omega));clear ho4 hg4;go_wp2_with fail;go_roundw;case rel=>exact⟨j+1,out++ [(t,s)],by omega,by go_num,by simp;omega,HN3.out,by rw[zck];simpa[chs,encC] using HO4.out,HB4.out⟩
    case measure=>simp[intOf];omega
   ·have HN3:=lhd (show out=zjP (l.take (j+1)) from_ to_ by rw[HN2.out,if_neg h1,List.append_nil]);rcases(show t<from_∨(from_≤t∧to_<t)by omega)with h2|⟨h2,h3⟩
    all_goals
     clear h1;go_wp2_with fail;go_roundw;case rel=>exact⟨j+1,out,by omega,by go_num,by omega,HN3.out,HO.out,HB2.out⟩
     case measure=>simp[intOf];omega
  ·obtain rfl:j=l.length:=by omega
   have HE:=lhd (show out=zjP l from_ to_ by have:=HN.out;rwa [List.take_length]at this);go_wp2_with fail;go_ret;exact⟨_,rfl,by rw[←HE.out];exact HO.out,HB2.out⟩
end Go.Proofs.YtbiadennhnokhaaGreatDoor
