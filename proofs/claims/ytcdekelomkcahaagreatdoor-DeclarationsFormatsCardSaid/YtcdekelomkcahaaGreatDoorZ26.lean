import Derived.Test.YtcdekelomkcahaaGreatDoorZ00
import Derived.Test.YtcdekelomkcahaaGreatDoorZ23
set_option maxRecDepth 100000
set_option maxHeartbeats 16000000
namespace Go.Proofs.YtcdekelomkcahaaGreatDoor
def zgM (k c:Bs):Bs:=if c=[]then k++ [32,36,101,110,100,10]else k++(32::(c++ [32,36,101,110,100,10]))
def varR (x:Dcl):Bs:=zgM sVar (zhx varW x.ty++(32::(Lib.itoa (max 1 (if x.kind=1 then 64 else x.width))++(32::(x.code++(32::refT x))))))
def zl2 (s:Sc):Bs:=zgM zlC (zhx zl4 s.2.1++32::s.1)
def zff (S:List Sc) (D:List Dcl):Nat→Int→Bs
 |0,_=> []
 |f+1,p=>((D.filter fun x=>decide (x.sc=p)).flatMap varR)++(List.range S.length).flatMap fun i=>if parS S i=p then zl2 (S.getD i ([],0,0))++(zff S D f i++zgM zlE [])else []
def optR (k t:Bs):Bs:=if t=[]then []else zgM k t
def fmtR (d:DD):Bs:=optR zlw d.dt++(optR zlF d.vn++(optR zlv d.cm++(zgM zlD (zlU d.sc)++(zff d.S d.D (d.S.length+1) (-1)++zgM zlB []))))
theorem zgY:zgS []=[]:=rfl
theorem zgW (x:Bs) (l:List Bs):zgS (x::l)=x++(10::zgS l):=by
 show zgN x++zgS l=_;unfold zgN;simp
theorem zgV (a b:List Bs):zgS (a++b)=zgS a++zgS b:=by
 unfold zgS;rw[List.flatMap_append]
theorem zgP (k t:Bs) (h:t≠ []):zgM k t=zgS [secT [k,t]]:=by
 unfold zgM;rw[if_neg h,zgW,zgY];unfold secT;show _=(k++32::(t++32::sEnd))++ [10];simp[sEnd]
theorem zgO (k:Bs):zgM k []=zgS [secT [k]]:=by
 unfold zgM;rw[if_pos rfl,zgW,zgY];unfold secT;show _=(k++32::sEnd)++ [10];simp[sEnd]
theorem zi0 (k t:Bs):optR k t=zgS (optT k t):=by
 unfold optR optT;by_cases h:t=[]
 ·rw[if_pos h,if_pos h];rfl
 ·rw[if_neg h,if_neg h,zgP k t h]
theorem zoW {n:Nat} {x:Dcl} (h:VV n x):varR x=zgS [varT x]:=by
 have hz:max 1 (if x.kind=1 then 64 else x.width)=szD x:=by
  unfold szD;by_cases h0:x.kind=0
  ·have:=h.w0 h0;rw[if_pos h0,if_neg (by omega)];omega
  ·have:=h.w1 h0;rw[if_neg h0];by_cases h1:x.kind=1
   ·rw[if_pos h1,if_pos h1];rfl
   ·rw[if_neg h1,if_neg h1,this];rfl
 unfold varR;rw[hz,zgW,zgY];unfold zgM;rw[if_neg (by simp)];unfold varT secT;show _=(sVar++32::(zhx varW x.ty++32::(Lib.itoa (szD x)++32::(x.code++32::(refT x++32::sEnd)))))++ [10];simp[sEnd]
theorem zl6 (s:Sc):zl2 s=zgS [zl3 s]:=by
 unfold zl2 zgM;rw[if_neg (by simp),zgW,zgY];unfold zl3 secT;show _=(zlC++32::(zhx zl4 s.2.1++32::(s.1++32::sEnd)))++ [10];simp[sEnd]
theorem zfg {n:Nat} {S:List Sc} {D:List Dcl} (hD:∀x∈D,VV n x):∀(f:Nat) (p:Int),zff S D f p=zgS (inT S D f p)
 |0,_=>rfl
 |f+1,p=>by
  unfold zff inT;rw[zgV]
  have h1:∀(l:List Dcl),(∀x∈l,VV n x)→l.flatMap varR=zgS (l.map varT):=fun l=>by
   induction l with
   |nil=>intro _;rfl
   |cons x l ih=>
    intro h;rw[List.flatMap_cons,List.map_cons,zoW (h x List.mem_cons_self),ih fun y hy=>h y (List.mem_cons_of_mem _ hy),←zgV];rfl
  rw[h1 _ fun x hx=>hD x (List.mem_filter.1 hx).1];congr 1
  have h2:∀(l:List Nat),(l.flatMap fun i=>if parS S i=p then zl2 (S.getD i ([],0,0))++(zff S D f i++zgM zlE [])else [])=zgS (l.flatMap fun i=>if parS S i=p then zl3 (S.getD i ([],0,0))::(inT S D f i++ [secT [zlE]])else []):=fun l=>by
   induction l with
   |nil=>rfl
   |cons i l ih=>
    rw[List.flatMap_cons,List.flatMap_cons,ih,zgV];congr 1
    split
    ·rw[zl6,zfg hD f i,zgO,←zgV,←zgV];rfl
    ·rfl
  exact h2 _
theorem zel {d:DD} (h:VD d):fmtR d=fmtD d:=by
 have hs:zlU d.sc≠ []:=(zlW h.sc).2.2.1;unfold fmtR fmtD zgR;rw[zi0,zi0,zi0,zgP _ _ hs,zfg h.dv,zgO];rw[zgV,zgV,zgV,zgV,zgV];unfold optT;rw[if_neg hs]
theorem zek (d:DD):fmtD d≠ []:=by
 unfold fmtD zgR;rw[zgV,zgV,zgV,zgV,zgV,zgW];simp
open Go.RowKit
set_option linter.unusedSimpArgs false
theorem zeL (v v2:Value) (S:List Sc) (V:List Vr) (w:World) (hs:SlR w v S.length (scs S)) (hv:SlR w v2 V.length (vrs V)) (hl:S.length≤1000∧V.length≤1000) (hn:(∀s∈S,s.1.length≤100000)∧∀x∈V,x.nm.length≤100000)
 (hsg:∀x∈V,(Lit.int .i64 x.sg).wf=true):Calls Tryz.prog 69 #[v,v2] w fun e w'=>e=.returned (.bool (hOk S V))∧Below w.heap.size w w':=by
 have HO:=lhd (zeK _ _ S V w hs hv hl hn hsg);have HS:=lhd hs;have HV:=lhd hv;obtain⟨a,cap,rfl,-,-⟩:=hs.shape;obtain⟨a2,cap2,rfl,-,-⟩:=hv.shape;clear hs hv hsg hn hl;by_cases hc:zbF S V=0
 ·have e1:zi8 S V=(scF S,(vrF S V).1,(vrF S V).2,0):=by unfold zi8;rw[if_neg (by rw[hc];simp)]
  have HK:=lhd (show hOk S V=(decide (scF S=S)&&decide ((vrF S V).1=V))by unfold hOk;rw[decide_eq_true hc,Bool.true_and]);rw[e1]at HO;generalize hOk S V=R at HK⊢;generalize (vrF S V).1=V1 at*;generalize (vrF S V).2=V2 at*;generalize scF S=S1 at*;clear hc e1;go_enter Tryz.func69,Tryz.ntmps69;go_wp2_with fail;refine HO.out.mono ?_;rintro e w1 ⟨v1,v2,v3,rfl,h1,h2,-,hb⟩;have HB:=lhd hb;have HE1:=lhd (zdZ _ _ S1 S w1 (SlR.of_own h1) (HS.out.below hb));have H2:=lhd (SlR.of_own h2);obtain⟨b1,k1,rfl,-,-⟩:=(SlR.of_own h1).shape;obtain⟨b2,k2,rfl,-,-⟩:=(SlR.of_own h2).shape;clear h1 h2 hb HO;dsimp only;by_cases hE1:S1=S
  ·rw[decide_eq_true hE1,Bool.true_and]at HK;rw[decide_eq_true hE1]at HE1;clear hE1;go_wp2_with fail;refine HE1.out.mono ?_;rintro e w2 ⟨rfl,hb2⟩;have HE2:=lhd (zd0 _ _ V1 V w2 (H2.out.below hb2) (HV.out.below (zd5 HB.out hb2)));rw[←HK.out]at HE2;have HB2:=lhd (zd5 HB.out hb2);clear hb2;go_wp2_with fail;refine HE2.out.mono ?_;rintro e w3 ⟨rfl,hb3⟩;go_wp2_with fail;go_ret;exact⟨zle rfl,zd5 HB2.out hb3⟩
  ·rw[decide_eq_false hE1,Bool.false_and]at HK;rw[decide_eq_false hE1]at HE1;clear hE1;go_wp2_with fail;refine HE1.out.mono ?_;rintro e w2 ⟨rfl,hb2⟩;have HB2:=lhd (zd5 HB.out hb2);clear hb2;go_wp2_with fail;go_ret;exact⟨zle HK.out.symm,HB2.out⟩
 ·have e1:zi8 S V=([],[],[],zbF S V):=by unfold zi8;rw[if_pos hc]
  have HK:=lhd (show hOk S V=false by unfold hOk;rw[decide_eq_false hc,Bool.false_and,Bool.false_and]);rw[e1]at HO;have hq:(zbF S V==0)=false:=by rw[beq_eq_false_iff_ne];exact hc
  generalize hOk S V=R at HK⊢;generalize zbF S V=q at*;clear hc e1;go_enter Tryz.func69,Tryz.ntmps69;go_wp2_with fail;refine HO.out.mono ?_;rintro e w1 ⟨v1,v2,v3,rfl,h1,h2,-,hb⟩;have HB:=lhd hb;obtain⟨b1,k1,rfl,-,-⟩:=(SlR.of_own h1).shape;obtain⟨b2,k2,rfl,-,-⟩:=(SlR.of_own h2).shape;clear h1 h2 hb HO;dsimp only;go_wp2_with fail;go_ret;exact⟨zle HK.out.symm,HB.out⟩
end Go.Proofs.YtcdekelomkcahaaGreatDoor
