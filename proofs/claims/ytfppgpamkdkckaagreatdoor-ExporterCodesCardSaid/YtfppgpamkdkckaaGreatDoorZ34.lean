import Derived.Test.YtfppgpamkdkckaaGreatDoorZ00
import Derived.Test.YtfppgpamkdkckaaGreatDoorZ25
import Derived.Test.YtfppgpamkdkckaaGreatDoorZ26
import Derived.Test.YtfppgpamkdkckaaGreatDoorZ27
set_option maxRecDepth 100000
set_option maxHeartbeats 16000000
namespace Go.Proofs.YtfppgpamkdkckaaGreatDoor
open Go.RowKit
set_option linter.unusedSimpArgs false
def fewG (lim:Int):Int→List Sg→Bool
 |_,[]=>true
 |n,s::G=>!decide (lim<n+s.2.2.length)&&few s.2.2 lim&&fewG lim (n+s.2.2.length) G
def fewT (t:Tr) (lim:Int):Bool:=fewH t.S t.V&&(decide (t.G.length≤70)&&decide (t.P.length≤20)&&decide (t.dt.length+t.vn.length+t.cm.length≤700))&&fewG lim 0 t.G
theorem znj (t:Tr) (p:TP) (lim:Int) (w:World) (ht:TrM w t p) (hl:0≤lim∧lim≤1000) (htx:t.dt.length≤140737488355328∧t.vn.length≤140737488355328∧t.cm.length≤140737488355328):
 Calls Tryz.prog 13 #[p.v t,.int .i64 lim] w fun e w'=>e=.returned (.bool (fewT t lim))∧Below w.heap.size w w':=by
 obtain⟨a1,k1,e1,-,-⟩:=ht.s.shape;obtain⟨a2,k2,e2,-,-⟩:=ht.v.shape;obtain⟨a3,k3,e3,hk3,hm3⟩:=ht.g.s.shape;obtain⟨a4,k4,e4,-,-⟩:=ht.q.shape;have hGL:=ht.len;unfold maxLen at hm3;have hb1:Below w.heap.size w (w.alloc (.cells #[.int .i64 t.sc,.string (bsB t.dt),.string (bsB t.vn),.string (bsB t.cm),.slice a1 t.S.length k1,.slice a2 t.V.length k2,.slice a3 t.G.length k3,.slice a4 t.P.length k4,.int .i64 t.en] 32)):=(Below.refl _ _).alloc (Nat.le_refl _) _;have HX:=lhd (zan.fresh w #[.int .i64 t.sc,.string (bsB t.dt),.string (bsB t.vn),.string (bsB t.cm),.slice a1 t.S.length k1,.slice a2 t.V.length k2,.slice a3 t.G.length k3,.slice a4 t.P.length k4,.int .i64 t.en] 32);have HT:=lhd (ht.below hb1);have HB1:=lhd hb1;have hfh:=zni p.vs p.vv t.S t.V _ (ht.s.below hb1) (ht.v.below hb1);rw[e1,e2]at hfh;have HFH:=lhd hfh;have HE3:=lhd e3;have HGL:=lhd hGL;rw[hGL]at hk3;unfold TP.v;rw[e1,e2,e3,e4,hGL];have z1:(bsB t.dt).size=t.dt.length:=rfl;have z2:(bsB t.vn).size=t.vn.length:=rfl;have z3:(bsB t.cm).size=t.cm.length:=rfl;obtain⟨u1,u2,u3⟩:=htx;by_cases h0:fewH t.S t.V=true
 ·rw[h0]at HFH;by_cases h1:t.G.length≤70
  ·have b1:¬(70:Int)<(t.G.length:Int):=by omega
   by_cases h2:t.P.length≤20
   ·have b2:¬(20:Int)<(t.P.length:Int):=by omega
    by_cases h3:t.dt.length+t.vn.length+t.cm.length≤700
    ·have b3:¬(700:Int)<((bsB t.dt).size:Int)+(bsB t.vn).size+(bsB t.cm).size:=by omega
     have HFT:=lhd (show fewT t lim=fewG lim 0 t.G by unfold fewT;rw[h0,decide_eq_true h1,decide_eq_true h2,decide_eq_true h3];rfl);clear ht e1 e2 e3 e4 hGL hb1 hfh h0 h1 h2 h3;go_enter Tryz.func13,Tryz.ntmps13;go_wp2_with fail;refine(HFH.out).mono ?_;rintro e w2 ⟨rfl,rfl⟩;go_wp2_with fail;have hwz:w.heap.size<(w.alloc (.cells #[.int .i64 t.sc,.string (bsB t.dt),.string (bsB t.vn),.string (bsB t.cm),.slice a1 t.S.length k1,.slice a2 t.V.length k2,.slice a3 t.G.length k3,.slice a4 t.P.length k4,.int .i64 t.en] 32)).heap.size:=by simp
     generalize w.alloc (.cells #[.int .i64 t.sc,.string (bsB t.dt),.string (bsB t.vn),.string (bsB t.cm),.slice a1 t.S.length k1,.slice a2 t.V.length k2,.slice a3 t.G.length k3,.slice a4 t.P.length k4,.int .i64 t.en] 32)=w1 at*;have c6:=HX.out.cell (j:=6) rfl;clear b1 b2 b3 z1 z2 z3 u1 u2 u3;go_loopw [6,5] (fun i n_ wr=>∃(k:Nat) (n:Int),k≤t.G.length∧i=.int .i64 k∧n_=.int .i64 n∧0≤n∧n≤lim∧fewG lim n (t.G.drop k)=fewG lim 0 t.G∧wr=w1) (fun i _ _=>t.G.length-(intOf i).toNat)
     case atStart=>exact⟨0,0,Nat.zero_le _,rfl,rfl,by omega,by omega,rfl,rfl⟩
     case round=>
      obtain⟨k,n,hk,rfl,rfl,hn1,hn2,hgo,rfl⟩:=hrel;have HGO:=lhd hgo;clear hgo;by_cases hlt:k<t.G.length
      ·have hm:k<p.M.length:=by rw[HGL.out];exact hlt
       have hsg:=HT.out.g;rw[HE3.out]at hsg;obtain⟨b,o,rfl,s0,s1,s2,s3⟩:=hsg.at hm
       have hMk:p.M[k].1=t.G[k]:=by
        have h1:(p.M.map Prod.fst)[k]? =some p.M[k].1:=by rw[List.getElem?_map,List.getElem?_eq_getElem hm];rfl
        rw[HT.out.m,List.getElem?_eq_getElem hlt]at h1;exact(Option.some.inj h1).symm
       have HDR:=lhd (List.drop_eq_getElem_cons hlt);rw[hMk]at s3;generalize t.G[k]=x at*;obtain⟨kd,wd,cl⟩:=x;dsimp only at s3;generalize p.M[k].2=vx at*;obtain⟨xa,xc,rfl,hc1,hc2⟩:=s3.shape;unfold maxLen at hc2;have HFW:=lhd (znb (.slice xa cl.length xc) cl lim wr s3);have hgo2:=HGO.out;rw[HDR.out]at hgo2;have hgo3:(!decide (lim<n+(cl.length:Int))&&few cl lim&&fewG lim (n+(cl.length:Int)) (t.G.drop (k+1)))=fewG lim 0 t.G:=hgo2;clear s0 s1 s3 hsg hMk hm hgo2;by_cases hcl:cl.length≤140737488355328
       rotate_left
       ·have hfw:few cl lim=false:=by unfold few;rw[decide_eq_false (by omega),Bool.and_false]
        have HR:=lhd (show false=fewT t lim by rw[HFT.out,←hgo3,hfw,Bool.and_false];rfl);rw[hfw]at HFW;clear hgo3 hfw hcl;by_cases hq:lim<wrap64 (n+(cl.length:Int))
        ·go_wp2_with fail;go_ret;exact⟨znc HR.out,HB1.out⟩
        ·go_wp2_with fail;refine HFW.out.mono ?_;rintro e w2 ⟨rfl,rfl⟩;go_wp2_with fail;go_ret;exact⟨znc HR.out,HB1.out⟩
       by_cases h1:lim<n+(cl.length:Int)
       ·have HR:=lhd (show false=fewT t lim by rw[HFT.out,←hgo3,decide_eq_true h1];rfl);have bb:decide (lim<n+(cl.length:Int))=true:=by simpa using h1
        clear hgo3;go_wp2_with fail;go_ret;exact⟨znc HR.out,HB1.out⟩
       ·have bb:decide (lim<n+(cl.length:Int))=false:=by simpa using h1
        cases hfw:few cl lim with
        |false=>
         have HR:=lhd (show false=fewT t lim by rw[HFT.out,←hgo3,hfw,Bool.and_false];rfl);rw[hfw]at HFW;clear hgo3 hfw;go_wp2_with fail;refine HFW.out.mono ?_;rintro e w2 ⟨rfl,rfl⟩;go_wp2_with fail;go_ret;exact⟨znc HR.out,HB1.out⟩
        |true=>
         have HG2:=lhd (show fewG lim (n+(cl.length:Int)) (t.G.drop (k+1))=fewG lim 0 t.G by rw[←hgo3,hfw,bb];rfl);rw[hfw]at HFW;clear hgo3 hfw;go_wp2_with fail;refine HFW.out.mono ?_;rintro e w2 ⟨rfl,rfl⟩;go_wp2_with fail;go_roundw;case rel=>exact⟨k+1,n+(cl.length:Int),hlt,by go_num,by go_num,by omega,by omega,HG2.out,by trivial⟩
         case measure=>simp[intOf];omega
      ·obtain rfl:k=t.G.length:=by omega
       have HR:=lhd (show true=fewT t lim by rw[HFT.out,←HGO.out,List.drop_length];rfl);go_wp2_with fail;go_ret;exact⟨znc HR.out,HB1.out⟩
    ·have b3:(700:Int)<((bsB t.dt).size:Int)+(bsB t.vn).size+(bsB t.cm).size:=by omega
     have HR:=lhd (show false=fewT t lim by unfold fewT;rw[h0,decide_eq_true h1,decide_eq_true h2,decide_eq_false h3];rfl);clear ht e1 e2 e3 e4 hGL hb1 hfh h0 h1 h2 h3;go_enter Tryz.func13,Tryz.ntmps13;go_wp2_with fail;refine(HFH.out).mono ?_;rintro e w2 ⟨rfl,rfl⟩;go_wp2_with fail;go_ret;exact⟨znc HR.out,HB1.out⟩
   ·have b2:(20:Int)<(t.P.length:Int):=by omega
    have HR:=lhd (show false=fewT t lim by unfold fewT;rw[h0,decide_eq_true h1,decide_eq_false h2];rfl);clear ht e1 e2 e3 e4 hGL hb1 hfh h0 h1 h2;go_enter Tryz.func13,Tryz.ntmps13;go_wp2_with fail;refine(HFH.out).mono ?_;rintro e w2 ⟨rfl,rfl⟩;go_wp2_with fail;go_ret;exact⟨znc HR.out,HB1.out⟩
  ·have b1:(70:Int)<(t.G.length:Int):=by omega
   have HR:=lhd (show false=fewT t lim by unfold fewT;rw[h0,decide_eq_false h1];rfl);clear ht e1 e2 e3 e4 hGL hb1 hfh h0 h1;go_enter Tryz.func13,Tryz.ntmps13;go_wp2_with fail;refine(HFH.out).mono ?_;rintro e w2 ⟨rfl,rfl⟩;go_wp2_with fail;go_ret;exact⟨znc HR.out,HB1.out⟩
 ·have h00:fewH t.S t.V=false:=by simpa using h0
  rw[h00]at HFH;have HR:=lhd (show false=fewT t lim by unfold fewT;rw[h00];rfl);clear ht e1 e2 e3 e4 hGL hb1 hfh h0 h00;go_enter Tryz.func13,Tryz.ntmps13;go_wp2_with fail;refine(HFH.out).mono ?_;rintro e w2 ⟨rfl,rfl⟩;go_wp2_with fail;go_ret;exact⟨znc HR.out,HB1.out⟩
theorem zfl {lim:Int}:∀(G:List Sg) (n:Int),fewG lim n G=true→∀s∈G,few s.2.2 lim=true
 | [],_,_,s,hs=>by cases hs
 |x::G,n,h,s,hs=>by
  unfold fewG at h;rw[Bool.and_eq_true,Bool.and_eq_true]at h;rcases List.mem_cons.1 hs with rfl|hs
  ·exact h.1.2
  ·exact zfl G _ h.2 s hs
theorem zfo {l:List Ch} {lim:Int} (hl:lim≤1000) (h:few l lim=true):Fit l∧l.length≤1000:=by
 unfold few fewV at h;rw[Bool.and_eq_true,List.all_eq_true,decide_eq_true_iff]at h;refine⟨⟨by omega,fun c hc=>?_⟩,by omega⟩;have:=of_decide_eq_true (h.1 c hc);omega
theorem zfk {t:Tr} {lim:Int} (hl:lim≤1000) (h:fewT t lim=true):FB t∧t.G.length≤70:=by
 unfold fewT fewH at h;simp only[Bool.and_eq_true,List.all_eq_true,decide_eq_true_iff]at h;obtain⟨⟨⟨⟨hs,hv⟩,h1,h2⟩,⟨h3,h4⟩,h5⟩,h6⟩:=h;refine⟨⟨⟨by omega,by omega,by omega⟩,⟨by omega,by omega⟩,⟨fun s hs'=>by have:=hs s hs';omega,fun v hv'=>by have:=hv v hv';omega⟩,fun s hs'=>?_,by omega⟩,h3⟩;obtain⟨f1,f2⟩:=zfo hl (zfl _ _ h6 s hs');exact⟨f1,by omega⟩
theorem wf64 {n:Int} (h1: -9223372036854775808≤n) (h2:n≤9223372036854775807):(Lit.int .i64 n).wf=true:=by
 have e1:IntKind.i64.min= -9223372036854775808:=by decide
 have e2:IntKind.i64.max=9223372036854775807:=by decide
 unfold Lit.wf;rw[Bool.and_eq_true,decide_eq_true_iff,decide_eq_true_iff,e1,e2];omega
theorem zkw {n:Int} (h:(Lit.int .i64 n).wf=true): -9223372036854775808≤n∧n≤9223372036854775807:=by
 have e1:IntKind.i64.min= -9223372036854775808:=by decide
 have e2:IntKind.i64.max=9223372036854775807:=by decide
 unfold Lit.wf at h;rw[Bool.and_eq_true,decide_eq_true_iff,decide_eq_true_iff,e1,e2]at h;exact h
theorem zqa {k n:Int} {l:List Ch} (h:sv k n l=true):Fit l∧l.length≤4096:=by
 have h1:=(zp6.1 h).2.1;exact⟨⟨by omega,fun c hc=>by have:=ztm (zp7 h c hc).2.2;omega⟩,h1⟩
theorem ztB {s:Bs} (h:ztA s=true):s.length≤200:=by
 unfold ztA at h;rw[Bool.or_eq_true,decide_eq_true_iff,Bool.and_eq_true,decide_eq_true_iff]at h;rcases h with rfl|h
 ·simp
 ·exact h.2
theorem zji {s:Bs} (h:zjh s=true):s.length≤32:=by
 unfold zjh at h;simp only[Bool.and_eq_true,decide_eq_true_iff]at h;exact h.1.1.2
structure VF (a:Tr):Prop where
 fb:FB a
 ft:FitT a
 sg:∀x∈a.V,(Lit.int .i64 x.sg).wf=true
 tm:∀s∈a.G,∀c∈s.2.2,(Lit.int .i64 c.1).wf=true
 ct:zdp a.G≤4096
theorem zsD {a:Tr} (h:zsx a):VF a:=by
 obtain⟨P,en,hb⟩:=zbw h;obtain⟨hTN,hT,hs,hmap,hx,h16,hct,-,hin⟩:=hb.sigs;have hv:=zsy h;have hc:=zce.1 hv.c;have hP:a.P.length≤16:=by rw[congrArg Tr.P hb.eq];exact h16
 have ht:ztA a.dt=true∧ztA a.vn=true∧ztA a.cm=true:=by
  have h1:=hb.tx;unfold zqw at h1;split at h1
  ·cases h1
  split at h1
  ·rename_i h2
   simpa[and_assoc] using h2
  ·cases h1
 have hG:∀s∈a.G,Fit s.2.2∧s.2.2.length≤100000:=fun s hs'=>by
  have:=zqa (hs s hs');exact⟨this.1,by omega⟩
 have hn:=hc.n;have hm:=hc.m;have hN:=hv.n;refine⟨⟨⟨?_,?_,?_⟩,⟨by omega,by omega⟩,⟨fun s hs'=>?_,fun v hv'=>?_⟩,hG,by omega⟩,⟨by omega,by omega,by omega,by omega,fun s hs'=>(hG s hs').2⟩,fun x hx'=>?_,fun s hs' c hc'=>?_,hct⟩
 ·have:=ztB ht.1;omega
 ·have:=ztB ht.2.1;omega
 ·have:=ztB ht.2.2;omega
 ·have:=zji (hc.ns s hs');omega
 ·have:=zji (hc.nv v hv');omega
 ·have h1:=hb.ft;have h2:=(zdZ hb.dc).1 x;have h3:=(zdZ hb.dc).2.1;have h4:(zll a.S a.V).2.1=a.V:=by rw[hv.o]
  rw[h4]at h2;have:=h2 hx';exact wf64 (by omega) (by omega)
 ·have:=zp7 (hs s hs') c hc';exact wf64 (by omega) (by omega)
theorem zfm {lim:Int}:∀(G:List Sg) (n:Int),n≤lim→fewG lim n G=true→n+(zdp G:Int)≤lim
 | [],n,hn,_=>by simp[zdp];omega
 |x::G,n,hn,h=>by
  unfold fewG at h;rw[Bool.and_eq_true,Bool.and_eq_true,Bool.not_eq_true',decide_eq_false_iff_not,Int.not_lt]at h;have:=zfm G _ h.1.1 h.2;unfold zdp at this⊢;rw[List.map_cons,List.sum_cons];push_cast
  omega
theorem zfn {t:Tr} {lim:Int} (h0:0≤lim) (hl:lim≤1000) (h:fewT t lim=true) (hi1:∀x∈t.V,(Lit.int .i64 x.sg).wf=true) (hi2:∀s∈t.G,∀c∈s.2.2,(Lit.int .i64 c.1).wf=true):VF t:=by
 obtain⟨hF,hG⟩:=zfk hl h;refine⟨hF,⟨hF.l.1,hF.l.2,by omega,hF.p,fun s hs=>(hF.g s hs).2⟩,hi1,hi2,?_⟩;unfold fewT at h;simp only[Bool.and_eq_true]at h;have:=zfm _ _ h0 h.2;omega
open Go.RowKit Go.Sort
def zoo (l:List Int) (y:Int):Option Value:=if y∈l then some (.bool true)else none
theorem zoq (l:List Int) (x y:Int):(if y=x then some (Value.bool true)else zoo l y)=zoo (l++ [x]) y:=by
 unfold zoo;by_cases h:y=x
 ·subst h;simp
 ·rw[if_neg h];simp[h]
def tms (l:List Ch):List Int:=l.map Prod.fst
theorem zqP {l:List Ch} {k:Nat} (h:k<l.length):tms (l.take (k+1))=tms (l.take k)++ [l[k].1]:=by
 unfold tms;rw[List.take_succ_eq_append_getElem h,List.map_append];rfl
theorem zaK {G:List Sg} {k:Nat} (h:k<G.length):allT (G.take (k+1))=allT (G.take k)++tms G[k].2.2:=by
 unfold allT tms;rw[List.take_succ_eq_append_getElem h,List.flatMap_append];simp
theorem zop (l:List Int) (y:Int):(zoo l y).isSome=true↔y∈l:=by
 unfold zoo;by_cases h:y∈l
 ·simp[h]
 ·simp[h]
theorem zds {G:List Sg} {k:Nat}:zdp (G.take k)≤zdp G:=by
 unfold zdp;conv=>rhs;rw[←List.take_append_drop k G]
 rw[List.map_append,List.sum_append];omega
theorem zdr {G:List Sg} {k:Nat} (h:k<G.length):zdp (G.take (k+1))=zdp (G.take k)+G[k].2.2.length:=by
 unfold zdp;rw[List.take_succ_eq_append_getElem h,List.map_append,List.sum_append];simp
theorem zqY (t:Tr) (p:TP) (w:World) (ht:TrM w t p) (hv:VF t):
 Calls Tryz.prog 77 #[p.v t] w fun e W'=>∃v,e=.returned v∧W'.ownsRow w.heap.size 3 1 v (zqD t.G).length (ints (zqD t.G))∧Below w.heap.size w W':=by
 obtain⟨a1,k1,a2,k2,a3,k3,a4,k4,e,-,-,e3,-,hk3,hm3⟩:=ht.open;rw[e];unfold maxLen at hm3;have hb1:Below w.heap.size w (w.alloc (.cells (boxT t a1 a2 a3 a4 k1 k2 k3 k4) 32)):=(Below.refl _ _).alloc (Nat.le_refl _) _;have hsg:=ht.g.below hb1;rw[e3]at hsg;have HX:=lhd (zan.fresh w (boxT t a1 a2 a3 a4 k1 k2 k3 k4) 32);have HSG:=lhd hsg;have HLN:=lhd ht.len;have HMG:=lhd ht.m;have HCT:=lhd hv.ct;have hgl:=hv.ft.2.2.1;have HWF:=lhd hv.tm;have HB1:=lhd hb1;have hlt:w.heap.size<(w.alloc (.cells (boxT t a1 a2 a3 a4 k1 k2 k3 k4) 32)).heap.size:=by simp
 clear ht hv hb1 hsg e e3;have hmm:= @run_makeMap Tryz.prog;go_enter Tryz.func77,Tryz.ntmps77;go_wp2_with fail;generalize hw1:w.alloc (.cells (boxT t a1 a2 a3 a4 k1 k2 k3 k4) 32)=w1 at*;have HS1:=lhd (show w1.heap.size=w.heap.size+1 by rw[←hw1];simp);clear hmm hw1;have hal:Below w1.heap.size w1 (w1.alloc (.map #[] 0)):=(Below.refl _ _).alloc (Nat.le_refl _) _
 have HM0:=lhd (show KMap (zhd (P:=Tryz.prog) (K:=3) Tryz.underlying3) (w1.alloc (.map #[] 0)) (w.heap.size+1) 0 (fun _=>none)by
  have:=KMap.made (zhd (P:=Tryz.prog) (K:=3) Tryz.underlying3) w1;rwa [HS1.out]at this)
 have HB2:=lhd hal;have c6:=(HX.out.below hal hlt).cell (j:=6) rfl;clear hal;go_loopw [12] (fun i wr=>∃k:Nat,k≤t.G.length∧i=.int .i64 k∧KMap (zhd (P:=Tryz.prog) (K:=3) Tryz.underlying3) wr (w.heap.size+1) (zdp (t.G.take k)) (zoo (allT (t.G.take k)))∧Below w1.heap.size w1 wr) (fun i _=>t.G.length-(intOf i).toNat)
 case atStart=>exact⟨0,Nat.zero_le _,rfl,(HM0.out.ext (fun s=>by simp[zoo,allT])).more (by simp[zdp]),HB2.out⟩
 case round=>
  obtain⟨k,hk,rfl,hm,hb⟩:=hrel;have HM:=lhd hm;have HB:=lhd hb;clear hm hb;by_cases hkl:k<t.G.length
  ·have hmk:k<p.M.length:=by rw[HLN.out];exact hkl
   obtain⟨b,o,rfl,d0,d1,d2,hd⟩:=(HSG.out.below HB.out).at hmk
   have hGk:t.G[k]=p.M[k].1:=by
    have:(p.M.map Prod.fst)[k]? =t.G[k]? :=by rw[HMG.out]
    rw[List.getElem?_map,List.getElem?_eq_getElem hmk,List.getElem?_eq_getElem hkl]at this;exact(Option.some.inj this).symm
   have HAT:=lhd (zaK hkl);have HCK:=lhd (zdr hkl);have HCL:=lhd (Nat.le_trans (zds (G:=t.G) (k:=k+1)) HCT.out);have HWK:=lhd (HWF.out _ (List.getElem_mem hkl));rw[hGk]at HAT HCK HWK;clear hGk;have HD:=lhd (HSG.out.m _ (List.getElem_mem hmk));generalize p.M[k]=x at*;obtain⟨⟨kk,nn,l⟩,xv⟩:=x;dsimp only at d0 d1 d2 hd HAT HCK HWK HD;obtain⟨xa,xc,rfl,-,hxm⟩:=hd.shape;unfold maxLen at hxm;have hw':=zjk k (by omega);have hbx:Below wr.heap.size wr (wr.alloc (.cells #[.int .i64 kk,.int .i64 nn,.slice xa l.length xc] 60)):=(Below.refl _ _).alloc (Nat.le_refl _) _;have HBX:=lhd hbx;have HM1:=lhd (HM.out.below hbx HM.out.lt);have HB3:=lhd (HB.out.trans (hbx.mono HB.out.size));obtain⟨wo,rfl⟩:∃wo:World,wo=wr:=⟨_,rfl⟩;have hcq:zdp (t.G.take k)+l.length≤4096:=by rw[←HCK.out];exact HCL.out
   clear hd hbx;go_wp2_with fail;clear d0 d1 d2;generalize hT:allT (t.G.take k)=T0 at*;clear hT;generalize hC:zdp (t.G.take k)=C0 at*;clear hC;go_loopw [19] (fun i wr2=>∃q:Nat,q≤l.length∧i=.int .i64 q∧KMap (zhd (P:=Tryz.prog) (K:=3) Tryz.underlying3) wr2 (w.heap.size+1) (C0+q) (zoo (T0++tms (l.take q)))∧Below w1.heap.size w1 wr2) (fun i _=>l.length-(intOf i).toNat)
   case atStart=>exact⟨0,Nat.zero_le _,rfl,by simpa[tms] using HM1.out,HB3.out⟩
   case round=>
    obtain⟨q,hq,rfl,hm2,hb2⟩:=hrel;have HM2:=lhd hm2;have HB4:=lhd hb2;clear hm2 hb2;by_cases hql:q<l.length
    ·obtain⟨b2,o2,rfl,f0,f1⟩:=(HD.out.below HB4.out).ch hql;have HTK:=lhd (zqP hql);have HWX:=lhd (HWK.out _ (List.getElem_mem hql));generalize l[q]=c at*;obtain⟨ct,cv⟩:=c;dsimp only at f0 f1 HTK HWX;have hby:Below wr.heap.size wr (wr.alloc (.cells #[.int .i64 ct,.string cv] 57)):=(Below.refl _ _).alloc (Nat.le_refl _) _;have HM3:=lhd (HM2.out.below hby HM2.out.lt);have HB5:=lhd (HB4.out.trans (hby.mono HB4.out.size));have hw2:=zjk q (by omega);clear hby;go_wp2_with (refine ztQ _ rfl _ _ _ 135 rfl 4 Tryz.underlying135 (w.heap.size+1) (C0+q) _ rfl HM3.out (by unfold maxLen;omega) ct (.bool true) rfl rfl HWX.out ?_;intro w3 hm3 hg3;have HM4:=lhd (hm3.ext (zoq (T0++tms (l.take q)) ct));have HB6:=lhd (HB5.out.grown hg3 HB5.out.size (fun j hj=>by have:=HS1.out;injection hj with hj;omega));clear hm3 hg3 f0 f1)
     go_roundw;case rel=>exact⟨q+1,hql,by go_num,by rw[HTK.out,←List.append_assoc];exact HM4.out.more (by omega),HB6.out⟩
     case measure=>simp[intOf];omega
    ·obtain rfl:q=l.length:=by omega
     have hw3:=zjk k (by omega);go_wp2_with fail;go_roundw;case rel=>exact⟨k+1,hkl,by go_num,by rw[HAT.out,HCK.out];have:=HM2.out;rwa [List.take_length]at this,HB4.out⟩
     case measure=>simp[intOf];omega
  ·obtain rfl:k=t.G.length:=by omega
   have hmm:=HM.out;rw[List.take_length]at hmm;obtain⟨D,ho,hf⟩:=hmm
   have HPM:=lhd (keys_perm ho Tryz.underlying3 (zqH t.G) (fun x hx=>by
    obtain⟨s,hs,c,hc,rfl⟩:=zqG.1 hx;exact HWF.out s hs c hc) (fun x hx=>by
    have h1:Maps.has D (.int .i64 x)=(zoo (allT t.G) x).isSome:=(hf x hx).1;rw[h1,zop];unfold zqD;rw[zfL];simp))
   have hsz:=ho.size_le;have hct:=HCT.out;have HSO:=lhd (zgQ (w.heap.size+1) _ D vR wr ho (by unfold maxLen;omega) (by omega));have hlw:=HB.out.size;clear ho hf hsz hct;go_wp2_with fail;refine(zgP _ _).mono ?_;rintro e w2 ⟨rfl,rfl⟩;go_wp2_with fail;refine HSO.out.mono ?_;rintro e w3 ⟨v,ss,rfl,hS,hrow,hb3⟩;have HS:=lhd hS;have HR:=lhd hrow;have HB9:=lhd hb3;clear hS hrow hb3;go_wp2_with fail;go_ret;have hp:=HS.out.trans HPM.out.symm;have hrow:=HR.out;rw[mergeSort_of_perm_i hp,zqI,hp.length_eq]at hrow;have hlw1:=HS1.out;have hbw:=HB1.out.trans (HB.out.mono HB1.out.size);refine⟨v,rfl,zlI hrow (by omega),?_⟩;have h2:Below w.heap.size wr (wr.alloc (.cells #[.map (some (w.heap.size+1))] 135)):=(Below.refl _ _).alloc (by omega) _;exact(hbw.trans h2).trans (HB9.out.mono (by omega))
open Go.RowKit Go.WideMaps Go.Shelf
theorem zhh (a b:List Int):ints (a++b)=ints a++ints b:=by unfold ints;rw[List.map_append]
theorem zf0 (en:Int) {P:List Gp} {k:Nat} (h:k<P.length):zfX en (P.take (k+1))=zfX en (P.take k)++(P[k].1::(if P[k].2≤en then [P[k].2]else [])):=by
 unfold zfX;rw[List.take_succ_eq_append_getElem h,List.flatMap_append,List.flatMap_cons,List.flatMap_nil,List.append_nil]
theorem zfZ (en:Int):∀(P:List Gp),(zfX en P).length≤2*P.length
 | []=>by simp[zfX]
 |g::P=>by
  have:=zfZ en P;unfold zfX at this⊢;rw[List.flatMap_cons,List.length_append,List.length_cons,List.length_cons];have:(if g.2≤en then [g.2]else []).length≤1:=by split<;>simp
  omega
def zaB (t:Tr) (w:World) (e:Ending) (W':World):Prop:=∃b v,e=.returned (.func (.func 146) #[] #[.pointer (some ⟨b,0,none⟩)])∧w.heap.size≤b∧W'.heap[b]? =some (.cells #[v] 77 (0,0))∧W'.ownsRow w.heap.size 3 1 v (zqz t).length (ints (zqz t))∧Below w.heap.size w W'
theorem zjw {W:World} {nb:Nat} {x y:Value} {ty:TypeId} {fr:Nat×Nat} (h:W.heap[nb]? =some (.cells #[x,y] ty fr)):∀j u,[x,y][j]? =some u→W.cell? ((⟨nb,0,none⟩:Addr).add j)=some u:=by
 intro j u hj;have e:(⟨nb,0,none⟩:Addr).add j=⟨nb,0+j,none⟩:=addr_add _ _ _;rw[e,Lib.cell_of_heap h];match j,hj with
 |0,hj=>simpa using hj
 |1,hj=>simpa using hj
theorem zjv {W:World} {nb:Nat} {x:Value} {ty:TypeId} {fr:Nat×Nat} (h:W.heap[nb]? =some (.cells #[x] ty fr)):∀j u,[x][j]? =some u→W.cell? ((⟨nb,0,none⟩:Addr).add j)=some u:=by
 intro j u hj;have e:(⟨nb,0,none⟩:Addr).add j=⟨nb,0+j,none⟩:=addr_add _ _ _;rw[e,Lib.cell_of_heap h];match j,hj with
 |0,hj=>simpa using hj
theorem zda (a:Option Addr) (n c:Nat) (w:World):Calls Tryz.prog 79 #[.slice a n c] w fun e W'=>e=.returned (.func (.func 146) #[] #[.pointer (some ⟨w.heap.size,0,none⟩)])∧W'=w.alloc (.cells #[.slice a n c] 77):=by
 go_enter Tryz.func79,Tryz.ntmps79;go_wp2_with fail;go_ret;exact⟨rfl,rfl⟩
theorem ze8 (t:Tr) (p:TP) (w:World) (ht:TrM w t p) (hv:VF t):Calls Tryz.prog 34 #[p.v t] w (zaB t w):=by
 obtain⟨i0,hi0,iz0,iz1,iz2⟩:=info_parts (P:=Tryz.prog) zhg;have HTM:=lhd (fun(V:World) (hV:Below w.heap.size w V)=>zqY t p V (ht.below hV) hv);have hct:=zqF t.G;have hct2:=hv.ct;have hpl:=hv.fb.p;have HGP:=lhd ht.q;obtain⟨a1,k1,a2,k2,a3,k3,a4,k4,e,-,-,-,e4,-,-⟩:=ht.open;rw[e4]at HGP;rw[e];rw[e]at HTM;have hal:Below w.heap.size w (w.alloc (.cells (boxT t a1 a2 a3 a4 k1 k2 k3 k4) 32)):=(Below.refl _ _).alloc (Nat.le_refl _) _;have HB1:=lhd hal;have HX1:=lhd (heap_alloc_new w (.cells (boxT t a1 a2 a3 a4 k1 k2 k3 k4) 32));have HZ1:=lhd (show w.heap.size<(w.alloc (.cells (boxT t a1 a2 a3 a4 k1 k2 k3 k4) 32)).heap.size by simp);clear ht hv e e4 hal;go_enter Tryz.func34,Tryz.ntmps34;go_upto_region 1 with fail;generalize w.alloc (.cells (boxT t a1 a2 a3 a4 k1 k2 k3 k4) 32)=w1 at*
 have HSV:=lhd (show ∀V,Below w1.heap.size w1 V→(V.cell? ⟨w.heap.size,0,none⟩=some (.int .i64 t.sc)∧V.cell? ⟨w.heap.size,1,none⟩=some (.string (bsB t.dt))∧V.cell? ⟨w.heap.size,2,none⟩=some (.string (bsB t.vn))∧V.cell? ⟨w.heap.size,3,none⟩=some (.string (bsB t.cm))∧V.cell? ⟨w.heap.size,4,none⟩=some (.slice a1 t.S.length k1)∧V.cell? ⟨w.heap.size,5,none⟩=some (.slice a2 t.V.length k2)∧V.cell? ⟨w.heap.size,6,none⟩=some (.slice a3 t.G.length k3)∧V.cell? ⟨w.heap.size,7,none⟩=some (.slice a4 t.P.length k4)∧V.cell? ⟨w.heap.size,8,none⟩=some (.int .i64 t.en))from fun V hV=>by
  have hx:=(hV.block _ HZ1.out).trans HX1.out;refine⟨?_,?_,?_,?_,?_,?_,?_,?_,?_⟩<;>(rw[Lib.cell_of_heap hx];rfl))
 go_cut [3]from 6 to 11 (fun u wc=>wc.ownsRow w1.heap.size 3 1 u (zqD t.G++ [0,t.en]).length (ints (zqD t.G++ [0,t.en]))∧Below w1.heap.size w1 wc)
 case first=>
  refine ztS (S:=fun V=>V.cell? ⟨w.heap.size,0,none⟩=some (.int .i64 t.sc)∧V.cell? ⟨w.heap.size,1,none⟩=some (.string (bsB t.dt))∧V.cell? ⟨w.heap.size,2,none⟩=some (.string (bsB t.vn))∧V.cell? ⟨w.heap.size,3,none⟩=some (.string (bsB t.cm))∧V.cell? ⟨w.heap.size,4,none⟩=some (.slice a1 t.S.length k1)∧V.cell? ⟨w.heap.size,5,none⟩=some (.slice a2 t.V.length k2)∧V.cell? ⟨w.heap.size,6,none⟩=some (.slice a3 t.G.length k3)∧V.cell? ⟨w.heap.size,7,none⟩=some (.slice a4 t.P.length k4)∧V.cell? ⟨w.heap.size,8,none⟩=some (.int .i64 t.en)) [0,2,3,6] [false,false,false,false,false,false,false] (by kernel_rfl) (by kernel_rfl) (by rfl) (HSV.out _ (Below.refl _ _).drew) (fun hHeld hStat=>?_);have hbq:Below w1.heap.size w1 w1.drew:=(Below.refl _ _).drew;generalize w1.drew=wC at*;refine tkQ 0 (v:=?_) hStat hHeld rfl rfl ?_;refine tkV 2 (.pointer (some ⟨w.heap.size,8,none⟩)) hStat hHeld rfl rfl ?_;refine tkQ 3 (v:=?_) hStat hHeld rfl rfl ?_;refine wpAnyH_ready (rs:=[1,4]) (by kernel_rfl) (by simp) ?_;refine AllReadyH.cons (o:=_) rfl (fun K hK=>?_) (AllReadyH.cons (o:=_) rfl (fun K hK=>?_) AllReadyH.nil)
  ·go_simp;refine(HTM.out _ (HB1.out.trans (hbq.mono HB1.out.size))).mono ?_;rintro e w2 ⟨v,rfl,ho2,hb2⟩;have HOV:=lhd (zlD (zlI ho2 hbq.size) (Same0.of_below ((Below.refl w2.heap.size w2).alloc (Nat.le_refl _) (.cells #[.int .i64 0,.int .i64 t.en] 3))));have hbr:=zfj hbq hb2;clear hHeld;go_wp2_with fail;refine hK.out _ _ (HSV.out _ hbr) (fun hHeld=>?_);clear hK;try simp only[tkS]
   refine oneH 4 (fun K hK=>?_);go_simp;clear hHeld;have hbs:=hbr.alloc hbr.size (.cells #[.int .i64 0,.int .i64 t.en] 3);have HBV:=lhd hbs;have HNW:=lhd (heap_alloc_new w2 (.cells #[.int .i64 0,.int .i64 t.en] 3));refine hK.out _ _ (HSV.out _ hbs) (fun hHeld=>?_);clear hK;try simp only[tkS]
   generalize (w2.alloc (.cells #[.int .i64 0,.int .i64 t.en] 3))=w5 at*;refine oneH 5 (fun K hK=>?_);rw[if_pos (by rfl)];refine wp_append_own w5 _ _ 77 rfl w1.heap.size 3 i0 (.int .i64 0) 1 8 Tryz.underlying77 hi0 iz0 iz1 iz2 rfl (by decide) v _ _ rfl HOV.out ⟨_,0,none⟩ 2 2 [.int .i64 0,.int .i64 t.en] rfl rfl (zjw HNW.out) (by simp[Value.oneCell']) (by unfold maxLen;omega) (by omega) HBV.out.size ?_;intro v7 w7 ho7 hg7 _;have hb7:=HBV.out.grown hg7 HBV.out.size (fun j hj=>(HOV.out.lt j hj).1);refine hK.out _ _ (HSV.out _ hb7) (fun hHeld=>?_);clear hK;try simp only[tkS]
   refine tkQ 6 (v:=?_) hStat hHeld rfl rfl ?_;refine wpAnyH_done (by kernel_rfl) ?_ _;clear hHeld;go_wp2_with fail;go_meet
   case rel=>exact⟨by rw[List.length_append,zhh];exact ho7,hb7⟩
  ·go_simp;clear hHeld;have hbs:=hbq.alloc hbq.size (.cells #[.int .i64 0,.int .i64 t.en] 3);have HNX:=lhd (heap_alloc_new wC (.cells #[.int .i64 0,.int .i64 t.en] 3));refine hK.out _ _ (HSV.out _ hbs) (fun hHeld=>?_);clear hK;try simp only[tkS]
   generalize (wC.alloc (.cells #[.int .i64 0,.int .i64 t.en] 3))=w4 at*;refine oneH 1 (fun K hK=>?_);rw[if_pos (by rfl)];go_simp;refine(HTM.out _ (HB1.out.trans (hbs.mono HB1.out.size))).mono ?_;rintro e w5 ⟨v,rfl,ho2,hb2⟩;have HOV:=lhd (zlI ho2 hbs.size);have hbr:=zfj hbs hb2;have HNW:=lhd ((hb2.block _ (Array.getElem?_eq_some_iff.1 HNX.out).1).trans HNX.out);have HBV:=lhd hbr;clear hHeld;go_wp2_with fail;refine hK.out _ _ (HSV.out _ hbr) (fun hHeld=>?_);clear hK;try simp only[tkS]
   refine oneH 5 (fun K hK=>?_);rw[if_pos (by rfl)];refine wp_append_own w5 _ _ 77 rfl w1.heap.size 3 i0 (.int .i64 0) 1 8 Tryz.underlying77 hi0 iz0 iz1 iz2 rfl (by decide) v _ _ rfl HOV.out ⟨_,0,none⟩ 2 2 [.int .i64 0,.int .i64 t.en] rfl rfl (zjw HNW.out) (by simp[Value.oneCell']) (by unfold maxLen;omega) (by omega) HBV.out.size ?_;intro v7 w7 ho7 hg7 _;have hb7:=HBV.out.grown hg7 HBV.out.size (fun j hj=>(HOV.out.lt j hj).1);refine hK.out _ _ (HSV.out _ hb7) (fun hHeld=>?_);clear hK;try simp only[tkS]
   refine tkQ 6 (v:=?_) hStat hHeld rfl rfl ?_;refine wpAnyH_done (by kernel_rfl) ?_ _;clear hHeld;go_wp2_with fail;go_meet
   case rel=>exact⟨by rw[List.length_append,zhh];exact ho7,hb7⟩
 case rest=>
 obtain⟨ho,hb⟩:=hcut;have HO:=lhd ho;have HB:=lhd hb;clear ho hb;have c7:=(HSV.out _ HB.out).2.2.2.2.2.2.2.1;go_wp2_with fail;go_loopw [15,3] (fun i s wr=>∃k:Nat,k≤t.P.length∧i=.int .i64 k∧wr.ownsRow w1.heap.size 3 1 s (zqD t.G++ [0,t.en]++zfX t.en (t.P.take k)).length (ints (zqD t.G++ [0,t.en]++zfX t.en (t.P.take k)))∧Below w1.heap.size w1 wr) (fun i _ _=>t.P.length-(intOf i).toNat)
 case atStart=>exact⟨0,Nat.zero_le _,rfl,by simpa[zfX] using HO.out,HB.out⟩
 case round=>
  obtain⟨k,hk,rfl,ho,hb⟩:=hrel;have HO:=lhd ho;have HB:=lhd hb;clear ho hb;by_cases hlt:k<t.P.length
  ·have HG2:=lhd (zf0 t.en hlt);have hlen:=zfZ t.en (t.P.take k);rw[List.length_take,Nat.min_eq_left hk]at hlen;obtain⟨b,o,rfl,hcell⟩:=(HGP.out.below (HB1.out.trans (HB.out.mono HB1.out.size))).gps hlt;have HLN:=lhd hlen;generalize t.P[k]=x at*;generalize zfX t.en (t.P.take k)=gk at*;obtain⟨ga,gb⟩:=x;have d0:wr.cell? ⟨b,o+k*2,none⟩=some (.int .i64 ga):=hcell 0 _ rfl;have d1:wr.cell? ⟨b,o+k*2+1,none⟩=some (.int .i64 gb):=hcell 1 _ rfl;clear hcell hlen;have hw1:=zjk k (by omega);have c8:=(HSV.out _ HB.out).2.2.2.2.2.2.2.2;have hx1:Below wr.heap.size wr (wr.alloc (.cells #[.int .i64 ga,.int .i64 gb] 94)):=(Below.refl _ _).alloc (Nat.le_refl _) _;have hx2:Below wr.heap.size wr ((wr.alloc (.cells #[.int .i64 ga,.int .i64 gb] 94)).alloc (.cells #[.int .i64 ga] 3)):=hx1.alloc hx1.size _;have HO2:=lhd (zlD HO.out (Same0.of_below hx2));have HN:=lhd (zjv (heap_alloc_new (wr.alloc (.cells #[.int .i64 ga,.int .i64 gb] 94)) (.cells #[.int .i64 ga] 3)))
   have hgb:((wr.alloc (.cells #[.int .i64 ga,.int .i64 gb] 94)).alloc (.cells #[.int .i64 ga] 3)).heap[wr.heap.size]? =some (.cells #[.int .i64 ga,.int .i64 gb] 94 (0,0)):=by
    rw[((Below.refl _ (wr.alloc (.cells #[.int .i64 ga,.int .i64 gb] 94))).alloc (Nat.le_refl _) _).block _ (by simp)];exact heap_alloc_new wr _
   have HGB:=lhd hgb;have HBX:=lhd (HB.out.trans (hx2.mono HB.out.size));have hn1:(wr.alloc (.cells #[.int .i64 ga,.int .i64 gb] 94)).heap.size=wr.heap.size+1:=by simp
   rw[hn1]at HN;clear hx1 hx2 hgb hn1;have HLS:=lhd (show(zqD t.G++ [0,t.en]++gk).length=(zqD t.G).length+2+gk.length by simp;omega);generalize HL0e:(zqD t.G++ [0,t.en]++gk)=L0 at*;have HL0:=lhd (show ∀z,zqD t.G++ [0,t.en]++(gk++z)=L0++z from fun z=>by rw[←HL0e,List.append_assoc _ gk z]);clear HL0e;have hll:L0.length≤100000:=by rw[HLS.out];have:=HLN.out;omega
   go_wp2_with (at_builtin;refine wpList_append_own _ rfl _ _ 77 rfl w1.heap.size 3 i0 (.int .i64 0) 1 8 Tryz.underlying77 hi0 iz0 iz1 iz2 rfl (by decide) _ _ _ rfl HO2.out ⟨wr.heap.size+1,0,none⟩ 1 1 [.int .i64 ga] rfl rfl HN.out (by simp[Value.oneCell']) (by unfold maxLen;omega) (by omega) HBX.out.size ?_)
   intro v6 w6 ho6 hg6 _;have HO6:=lhd ho6;have HB6:=lhd (HBX.out.grown hg6 HBX.out.size (fun q hq=>(HO2.out.lt q hq).1));have hg6b:=(hg6.block wr.heap.size (Array.getElem?_eq_some_iff.1 HGB.out).1 (fun q=>by have:=(HO.out.lt _ q.symm).2;omega)).trans HGB.out;have c0:w6.cell? ⟨wr.heap.size,1,none⟩=some (.int .i64 gb):=by rw[Lib.cell_of_heap hg6b];rfl
   have c1:=(HSV.out _ HB6.out).2.2.2.2.2.2.2.2;have HG6:=lhd hg6b;clear ho6 hg6 hg6b;by_cases hge:gb≤t.en
   ·rw[if_pos hge]at HG2;have HX6:=lhd ((Below.refl w6.heap.size w6).alloc (Nat.le_refl _) (.cells #[.int .i64 gb] 3));have HO7:=lhd (zlD HO6.out (Same0.of_below HX6.out));have HN7:=lhd (zjv (heap_alloc_new w6 (.cells #[.int .i64 gb] 3)));have HBX7:=lhd (zfj HB6.out HX6.out);go_wp2_with (at_builtin;refine wpList_append_own _ rfl _ _ 77 rfl w1.heap.size 3 i0 (.int .i64 0) 1 8 Tryz.underlying77 hi0 iz0 iz1 iz2 rfl (by decide) _ _ _ rfl HO7.out ⟨w6.heap.size,0,none⟩ 1 1 [.int .i64 gb] rfl rfl HN7.out (by simp[Value.oneCell']) (by unfold maxLen;omega) (by omega) HBX7.out.size ?_)
    intro v7 w7 ho7 hg7 _;have HO8:=lhd ho7;have HB8:=lhd (HBX7.out.grown hg7 HBX7.out.size (fun q hq=>(HO7.out.lt q hq).1));clear ho7 hg7;go_wp2_with fail;go_roundw;case rel=>exact⟨k+1,hlt,by go_num,by rw[HG2.out,HL0.out,List.length_append,zhh];exact HO8.out,HB8.out⟩
    case measure=>simp[intOf];omega
   ·rw[if_neg hge]at HG2;go_wp2_with fail;go_roundw;case rel=>exact⟨k+1,hlt,by go_num,by rw[HG2.out,HL0.out,List.length_append,zhh];exact HO6.out,HB6.out⟩
    case measure=>simp[intOf];omega
  ·obtain rfl:k=t.P.length:=by omega
   have hlen:=zfZ t.en t.P;have ho:=HO.out;rw[List.take_length]at ho;have hlu:(zqJ t).length≤100000:=by unfold zqJ;simp;omega
   have hlz:(zqJ t).length≠0:=by unfold zqJ;simp
   rw[show zqD t.G++ [0,t.en]++zfX t.en t.P=zqJ t from rfl]at ho;rcases ho.2 with⟨-,e1⟩|⟨g,cap,cur,rfl,-⟩
   ·exact absurd e1 hlz
   have HSO:=lhd (zph w1.heap.size g cap (zqJ t) wr ho (by omega));clear hlen ho;go_wp2_with fail;refine HSO.out.mono ?_;rintro e w2 ⟨rfl,ho2,hg2⟩
   have hb2:=HB.out.grown hg2 HB.out.size (fun q hq=>by
    obtain rfl:g=q:=by simpa[Value.ownBlock] using hq
    exact(HO.out.lt _ rfl).1)
   have hzl:((zqJ t).mergeSort fun x y=>decide (x≤y)).length=(zqJ t).length:=List.length_mergeSort _;rw[←hzl]at ho2;have HTE:=lhd (show zqz t=Lib.compact ((zqJ t).mergeSort fun x y=>decide (x≤y))from rfl);generalize ((zqJ t).mergeSort fun x y=>decide (x≤y))=Z at*;have hco:=zc5 w1.heap.size g cap Z w2 ho2 (by omega);rw[hzl]at hco;have HCO:=lhd hco;have HB2:=lhd hb2;clear hco ho2 hg2 hb2 hzl;go_wp2_with fail;refine HCO.out.mono ?_;rintro e w3 ⟨⟨rfl,ho3⟩,hg3⟩
   have hb3:=HB2.out.grown hg3 HB2.out.size (fun q hq=>by
    obtain rfl:g=q:=by simpa[Value.ownBlock] using hq
    exact(HO.out.lt _ rfl).1)
   rw[←HTE.out]at ho3;have HCV:=lhd (zda (some ⟨g,0,none⟩) (Lib.compact Z).length cap w3);rw[←HTE.out]at HCV⊢;clear HTE HCO hg3;go_wp2_with fail;refine HCV.out.mono ?_;rintro e w4 ⟨rfl,rfl⟩;have hx4:=(Below.refl w3.heap.size w3).alloc (Nat.le_refl _) (.cells #[.slice (some ⟨g,0,none⟩) (zqz t).length cap] 77);have HO4:=lhd (zlI (zlD ho3 (Same0.of_below hx4)) HB1.out.size);have HN4:=lhd (heap_alloc_new w3 (.cells #[.slice (some ⟨g,0,none⟩) (zqz t).length cap] 77));have HB4:=lhd (HB1.out.trans ((zfj hb3 hx4).mono HB1.out.size));have hsz:=HB1.out.size;have hsz3:=hb3.size;clear ho3 hx4 hb3;go_wp2_with fail;go_ret;exact⟨_,_,rfl,by omega,HN4.out,HO4.out,HB4.out⟩
end Go.Proofs.YtfppgpamkdkckaaGreatDoor
