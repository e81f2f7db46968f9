import Derived.Test.YtfppgpamkdkckaaGreatDoorZ00
import Derived.Lib.AtoiAll
import Derived.Lib.Builder
import Derived.Lib.SmallJoins
import Derived.Test.YtfppgpamkdkckaaGreatDoorZ20
import Derived.Test.YtfppgpamkdkckaaGreatDoorZ23
set_option maxRecDepth 100000
set_option maxHeartbeats 16000000
namespace Go.Proofs.YtfppgpamkdkckaaGreatDoor
open Go.RowKit
set_option linter.unusedSimpArgs false
theorem TrM.sg {w:World} {t:Tr} {p:TP} (h:TrM w t p) {j:Nat} (hj:j<p.M.length):sgI t.G (j:Int)=p.M[j].1:=by
 unfold sgI;rw[←h.m];simp[List.getD,hj]
structure SrcB (t:Tr):Prop where
 f:∀s∈t.G,Fit s.2.2
 e: -1≤t.en∧t.en≤1099511627776
abbrev boxT (t:Tr) (a1 a2 a3 a4:Option Addr) (k1 k2 k3 k4:Nat):Array Value:=#[.int .i64 t.sc,.string (bsB t.dt),.string (bsB t.vn),.string (bsB t.cm),.slice a1 t.S.length k1,.slice a2 t.V.length k2,.slice a3 t.G.length k3,.slice a4 t.P.length k4,.int .i64 t.en]
theorem TrM.open {w:World} {t:Tr} {p:TP} (h:TrM w t p):∃a1 k1 a2 k2 a3 k3 a4 k4,p.v t=.agg (boxT t a1 a2 a3 a4 k1 k2 k3 k4)∧p.vs=.slice a1 t.S.length k1∧p.vv=.slice a2 t.V.length k2∧p.vg=.slice a3 p.M.length k3∧p.vp=.slice a4 t.P.length k4∧t.G.length≤k3∧k3≤maxLen:=by
 obtain⟨a1,k1,e1,-,-⟩:=h.s.shape;obtain⟨a2,k2,e2,-,-⟩:=h.v.shape;obtain⟨a3,k3,e3,h3,m3⟩:=h.g.s.shape;obtain⟨a4,k4,e4,-,-⟩:=h.q.shape;refine⟨a1,k1,a2,k2,a3,k3,a4,k4,?_,e1,e2,e3,e4,by rw[←h.len];exact h3,m3⟩;unfold TP.v;rw[e1,e2,e3,e4,h.len]
theorem zgs (v v2:Value) (S:List Sc) (V:List Vr) (w:World) (hs:SlR w v S.length (scs S)) (hv:SlR w v2 V.length (vrs V)) (hl:S.length≤1000∧V.length≤1000) (hn:(∀s∈S,s.1.length≤100000)∧∀x∈V,x.nm.length≤100000)
 (hsg:∀x∈V,(Lit.int .i64 x.sg).wf=true):Calls Tryz.prog 112 #[v,v2] w fun e w'=>e=.returned (.bool (hOk S V))∧Below w.heap.size w w':=by
 have HO:=lhd (zgr _ _ S V w hs hv hl hn hsg);have HS:=lhd hs;have HV:=lhd hv;obtain⟨a,cap,rfl,-,-⟩:=hs.shape;obtain⟨a2,cap2,rfl,-,-⟩:=hv.shape;clear hs hv hsg hn hl;by_cases hc:zb6 S V=0
 ·have e1:zll S V=(scF S,(vrF S V).1,(vrF S V).2,0):=by unfold zll;rw[if_neg (by rw[hc];simp)]
  have HK:=lhd (show hOk S V=(decide (scF S=S)&&decide ((vrF S V).1=V))by unfold hOk;rw[decide_eq_true hc,Bool.true_and]);rw[e1]at HO;generalize hOk S V=R at HK⊢;generalize (vrF S V).1=V1 at*;generalize (vrF S V).2=V2 at*;generalize scF S=S1 at*;clear hc e1;go_enter Tryz.func112,Tryz.ntmps112;go_wp2_with fail;refine HO.out.mono ?_;rintro e w1 ⟨v1,v2,v3,rfl,h1,h2,-,hb⟩;have HB:=lhd hb;have HE1:=lhd (zeF _ _ S1 S w1 (SlR.of_own h1) (HS.out.below hb));have H2:=lhd (SlR.of_own h2);obtain⟨b1,k1,rfl,-,-⟩:=(SlR.of_own h1).shape;obtain⟨b2,k2,rfl,-,-⟩:=(SlR.of_own h2).shape;clear h1 h2 hb HO;dsimp only;by_cases hE1:S1=S
  ·rw[decide_eq_true hE1,Bool.true_and]at HK;rw[decide_eq_true hE1]at HE1;clear hE1;go_wp2_with fail;refine HE1.out.mono ?_;rintro e w2 ⟨rfl,hb2⟩;have HE2:=lhd (zeG _ _ V1 V w2 (H2.out.below hb2) (HV.out.below (zfj HB.out hb2)));rw[←HK.out]at HE2;have HB2:=lhd (zfj HB.out hb2);clear hb2;go_wp2_with fail;refine HE2.out.mono ?_;rintro e w3 ⟨rfl,hb3⟩;go_wp2_with fail;go_ret;exact⟨znc rfl,zfj HB2.out hb3⟩
  ·rw[decide_eq_false hE1,Bool.false_and]at HK;rw[decide_eq_false hE1]at HE1;clear hE1;go_wp2_with fail;refine HE1.out.mono ?_;rintro e w2 ⟨rfl,hb2⟩;have HB2:=lhd (zfj HB.out hb2);clear hb2;go_wp2_with fail;go_ret;exact⟨znc HK.out.symm,HB2.out⟩
 ·have e1:zll S V=([],[],[],zb6 S V):=by unfold zll;rw[if_pos hc]
  have HK:=lhd (show hOk S V=false by unfold hOk;rw[decide_eq_false hc,Bool.false_and,Bool.false_and]);rw[e1]at HO;have hq:(zb6 S V==0)=false:=by rw[beq_eq_false_iff_ne];exact hc
  generalize hOk S V=R at HK⊢;generalize zb6 S V=q at*;clear hc e1;go_enter Tryz.func112,Tryz.ntmps112;go_wp2_with fail;refine HO.out.mono ?_;rintro e w1 ⟨v1,v2,v3,rfl,h1,h2,-,hb⟩;have HB:=lhd hb;obtain⟨b1,k1,rfl,-,-⟩:=(SlR.of_own h1).shape;obtain⟨b2,k2,rfl,-,-⟩:=(SlR.of_own h2).shape;clear h1 h2 hb HO;dsimp only;go_wp2_with fail;go_ret;exact⟨znc HK.out.symm,HB.out⟩
theorem zqW (n:Int) (w:World):Calls Tryz.prog 109 #[.int .i64 n] w fun e w'=>e=.returned (.int .i64 (zhW n))∧w=w':=by
 by_cases h3:n=3
 ·subst h3;go_enter Tryz.func109,Tryz.ntmps109;go_wp2_with fail;go_ret;exact⟨rfl,rfl⟩
 have b3:(n==3)=false:=by simpa using h3
 by_cases h4:n=4
 ·subst h4;go_enter Tryz.func109,Tryz.ntmps109;go_wp2_with fail;go_ret;exact⟨rfl,rfl⟩
 have b4:(n==4)=false:=by simpa using h4
 by_cases h6:n=6
 ·subst h6;go_enter Tryz.func109,Tryz.ntmps109;go_wp2_with fail;go_ret;exact⟨rfl,rfl⟩
 have b6:(n==6)=false:=by simpa using h6
 by_cases h0:n=0
 ·subst h0;go_enter Tryz.func109,Tryz.ntmps109;go_wp2_with fail;go_ret;exact⟨rfl,rfl⟩
 have b0:(n==0)=false:=by simpa using h0
 have HR:=lhd (show 0=zhW n by unfold zhW;rw[if_neg (by omega),if_neg h6,if_neg h0]);clear h3 h4 h6 h0;go_enter Tryz.func109,Tryz.ntmps109;go_wp2_with fail;go_ret;exact⟨by rw[←HR.out];rfl,rfl⟩
theorem zt6 (w:World):(zeroValue 68).run Tryz.prog w=.ok dclZ w:=by kernel_rfl
theorem zei {w:World} {b n:Nat} {f:BsM→Option Value} (h:SMap Tryz.prog 9 w b n f) {x:Bs} (hc:x.length≤140737488351232):
 (Instr.lookup 109 (.map (some b)) (.string (bsB x)) true).run Tryz.prog w=.ok (.tuple #[(f x).getD dclZ,.bool (f x).isSome]) w:=by
 have:=h.look (t:=109) Tryz.underlying9 Tryz.underlying109 (zt6 w) (bsB x) (by rw[zbt];unfold maxLen;omega);rw[zbq]at this;exact this
theorem zdB:(Tryz.prog.info? 68).map (fun i=>(i.zero,i.size,i.bytes))=some (some dclZ,10,96):=by kernel_rfl
theorem zlr {w:World} {b:Nat} {x:Value} {xs:List Value} (h:zan w b (x::xs)):∃C T fr,w.heap[b]? =some (.cells C T fr):=by
 have:=h.cell (j:=0) (v:=x) rfl;unfold World.cell? at this;split at this
 ·rename_i C T fr he
  exact⟨C,T,fr,he⟩
 ·cases this
section
variable {s : DS} {w : Wd} {cw : List Wd} {m : Nat} {t0 t1 t2 t3 tm : Bs} {p1 p2 p3 q1 q2 q3 : Int}
end
section
variable {c : DC} {s : DS} {vS vD vr : Value} {W V V' : World} {tx : Bs} {o1 o2 o3 : Int} {b o n cap : Nat} {cw : List Wd}
end
end Go.Proofs.YtfppgpamkdkckaaGreatDoor
