import Derived.Test.YtbiadennhnokhaaGreatDoorZ25
import Derived.Test.YtbiadennhnokhaaGreatDoorZ26
set_option maxRecDepth 100000
set_option maxHeartbeats 16000000
namespace Go.Proofs.YtbiadennhnokhaaGreatDoor
set_option linter.unusedSimpArgs false
theorem zeI {lim:Int}:∀(G:List Sg) (n:Int),fewG lim n G=true→∀s∈G,few s.2.2 lim=true
 | [],_,_,s,hs=>by cases hs
 |x::G,n,h,s,hs=>by
  unfold fewG at h;rw[Bool.and_eq_true,Bool.and_eq_true]at h;rcases List.mem_cons.1 hs with rfl|hs
  ·exact h.1.2
  ·exact zeI G _ h.2 s hs
theorem zeL {l:List Ch} {lim:Int} (hl:lim≤1000) (h:few l lim=true):Fit l∧l.length≤1000:=by
 unfold few fewV at h;rw[Bool.and_eq_true,List.all_eq_true,decide_eq_true_iff]at h;refine⟨⟨by omega,fun c hc=>?_⟩,by omega⟩;have:=of_decide_eq_true (h.1 c hc);omega
theorem zeH {t:Tr} {lim:Int} (hl:lim≤1000) (h:fewT t lim=true):FB t∧t.G.length≤70:=by
 unfold fewT fewH at h;simp only[Bool.and_eq_true,List.all_eq_true,decide_eq_true_iff]at h;obtain⟨⟨⟨⟨hs,hv⟩,h1,h2⟩,⟨h3,h4⟩,h5⟩,h6⟩:=h;refine⟨⟨⟨by omega,by omega,by omega⟩,⟨by omega,by omega⟩,⟨fun s hs'=>by have:=hs s hs';omega,fun v hv'=>by have:=hv v hv';omega⟩,fun s hs'=>?_,by omega⟩,h3⟩;obtain⟨f1,f2⟩:=zeL hl (zeI _ _ h6 s hs');exact⟨f1,by omega⟩
open Go.RowKit
theorem wf64 {n:Int} (h1: -9223372036854775808≤n) (h2:n≤9223372036854775807):(Lit.int .i64 n).wf=true:=by
 have e1:IntKind.i64.min= -9223372036854775808:=by decide
 have e2:IntKind.i64.max=9223372036854775807:=by decide
 unfold Lit.wf;rw[Bool.and_eq_true,decide_eq_true_iff,decide_eq_true_iff,e1,e2];omega
theorem zoQ {k n:Int} {l:List Ch} (h:sv k n l=true):Fit l∧l.length≤4096:=by
 have h1:=(zoI.1 h).2.1;exact⟨⟨by omega,fun c hc=>by have:=zqZ (zoJ h c hc).2.2;omega⟩,h1⟩
theorem zrh {s:Bs} (h:zrg s=true):s.length≤200:=by
 unfold zrg at h;rw[Bool.or_eq_true,decide_eq_true_iff,Bool.and_eq_true,decide_eq_true_iff]at h;rcases h with rfl|h
 ·simp
 ·exact h.2
theorem ziv {s:Bs} (h:ziu s=true):s.length≤32:=by
 unfold ziu at h;simp only[Bool.and_eq_true,decide_eq_true_iff]at h;exact h.1.1.2
structure VF (a:Tr):Prop where
 fb:FB a
 ft:FitT a
 sg:∀x∈a.V,(Lit.int .i64 x.sg).wf=true
 tm:∀s∈a.G,∀c∈s.2.2,(Lit.int .i64 c.1).wf=true
 ct:zda a.G≤4096
theorem zqy {a:Tr} (h:zqu a):VF a:=by
 obtain⟨P,en,hb⟩:=zb5 h;obtain⟨hTN,hT,hs,hmap,hx,h16,hct,-,hin⟩:=hb.sigs;have hv:=zqv h;have hc:=zcF.1 hv.c;have hP:a.P.length≤16:=by rw[congrArg Tr.P hb.eq];exact h16
 have ht:zrg a.dt=true∧zrg a.vn=true∧zrg a.cm=true:=by
  have h1:=hb.tx;unfold zpa at h1;split at h1
  ·cases h1
  split at h1
  ·rename_i h2
   simpa[and_assoc] using h2
  ·cases h1
 have hG:∀s∈a.G,Fit s.2.2∧s.2.2.length≤100000:=fun s hs'=>by
  have:=zoQ (hs s hs');exact⟨this.1,by omega⟩
 have hn:=hc.n;have hm:=hc.m;have hN:=hv.n;refine⟨⟨⟨?_,?_,?_⟩,⟨by omega,by omega⟩,⟨fun s hs'=>?_,fun v hv'=>?_⟩,hG,by omega⟩,⟨by omega,by omega,by omega,by omega,fun s hs'=>(hG s hs').2⟩,fun x hx'=>?_,fun s hs' c hc'=>?_,hct⟩
 ·have:=zrh ht.1;omega
 ·have:=zrh ht.2.1;omega
 ·have:=zrh ht.2.2;omega
 ·have:=ziv (hc.ns s hs');omega
 ·have:=ziv (hc.nv v hv');omega
 ·have h1:=hb.ft;have h2:=(zdF hb.dc).1 x;have h3:=(zdF hb.dc).2.1;have h4:(zj2 a.S a.V).2.1=a.V:=by rw[hv.o]
  rw[h4]at h2;have:=h2 hx';exact wf64 (by omega) (by omega)
 ·have:=zoJ (hs s hs') c hc';exact wf64 (by omega) (by omega)
theorem zeJ {lim:Int}:∀(G:List Sg) (n:Int),n≤lim→fewG lim n G=true→n+(zda G:Int)≤lim
 | [],n,hn,_=>by simp[zda];omega
 |x::G,n,hn,h=>by
  unfold fewG at h;rw[Bool.and_eq_true,Bool.and_eq_true,Bool.not_eq_true',decide_eq_false_iff_not,Int.not_lt]at h;have:=zeJ G _ h.1.1 h.2;unfold zda at this⊢;rw[List.map_cons,List.sum_cons];push_cast
  omega
theorem zeK {t:Tr} {lim:Int} (h0:0≤lim) (hl:lim≤1000) (h:fewT t lim=true) (hi1:∀x∈t.V,(Lit.int .i64 x.sg).wf=true) (hi2:∀s∈t.G,∀c∈s.2.2,(Lit.int .i64 c.1).wf=true):VF t:=by
 obtain⟨hF,hG⟩:=zeH hl h;refine⟨hF,⟨hF.l.1,hF.l.2,by omega,hF.p,fun s hs=>(hF.g s hs).2⟩,hi1,hi2,?_⟩;unfold fewT at h;simp only[Bool.and_eq_true]at h;have:=zeJ _ _ h0 h.2;omega
open Go.RowKit Go.Sort
end Go.Proofs.YtbiadennhnokhaaGreatDoor
