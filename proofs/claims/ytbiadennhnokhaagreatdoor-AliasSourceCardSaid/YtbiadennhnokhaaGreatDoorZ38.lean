import Derived.Test.YtbiadennhnokhaaGreatDoorZ00
import Derived.Test.YtbiadennhnokhaaGreatDoorZ35
import Derived.Test.YtbiadennhnokhaaGreatDoorZ36
set_option maxRecDepth 100000
set_option maxHeartbeats 16000000
namespace Go.Proofs.YtbiadennhnokhaaGreatDoor
open Go.RowKit
set_option linter.unusedSimpArgs false
def StI (w:World) (t:Tr) (p:TP) (k:Nat) (W:World):Prop:=(∀j<k,cod t j=0)∧∃q,BI w t p (stg t k) q W∧(k≤4→q.vp=.slice none 0 0)
def StE (w:World) (t:Tr) (p:TP) (k:Nat) (e:Ending) (W:World):Prop:=e=.returned (.int .i64 (cod t k))∧Below w.heap.size w W∧(cod t k=0→StI w t p (k+1) W)
theorem StI.texts {w W:World} {t:Tr} {p:TP} (h:StI w t p 0 W) (hF:FB t) (hg:Glm w):Calls Tryz.prog 53 #[.pointer (some ⟨w.heap.size,0,none⟩)] W (StE w t p 0):=by
 obtain⟨-,q,hb,hv⟩:=h;refine(zo8 w W t tr0 p q hb hg hF.tx).mono ?_;rintro e W' ⟨he,hbb,hc⟩;refine⟨he,hbb,fun h0=>?_⟩;obtain⟨q',hq,hz⟩:=hc h0;exact⟨fun j hj=>by(obtain rfl:j=0:=by omega);exact h0,q',hq,fun _=>hz.trans (hv (by omega))⟩
theorem StI.decl {w W:World} {t:Tr} {p:TP} (h:StI w t p 1 W) (ht:TrM w t p) (hF:FB t) (hw:∀x∈t.V,(Lit.int .i64 x.sg).wf=true):Calls Tryz.prog 54 #[.pointer (some ⟨w.heap.size,0,none⟩)] W (StE w t p 1):=by
 obtain⟨h0,q,hb,hv⟩:=h;refine(zo3 w W t _ p q hb ht rfl hF.l hF.n hw).mono ?_;rintro e W' ⟨he,hbb,hc⟩;refine⟨he,hbb,fun h1=>?_⟩;obtain⟨q',hq,hz⟩:=hc h1;refine⟨fun j hj=>?_,q',hq,fun _=>hz.trans (hv (by omega))⟩;rcases Nat.lt_succ_iff_lt_or_eq.1 hj with h2|rfl
 ·exact h0 j h2
 ·exact h1
theorem StI.types {w W:World} {t:Tr} {p:TP} (h:StI w t p 2 W) (hF:FB t):Calls Tryz.prog 55 #[.pointer (some ⟨w.heap.size,0,none⟩)] W (StE w t p 2):=by
 obtain⟨h0,q,hb,hv⟩:=h;obtain⟨d1,d2,d3⟩:=zdF (h0 1 (by omega));refine(zo9 w W t _ p q hb d1 (by show(zj2 t.S t.V).2.1.length≤1000;rw[d3];exact hF.l.2) (by show(sig1 t).length≤1000;omega)).mono ?_;rintro e W' ⟨he,hbb,hc⟩;refine⟨he,hbb,fun h1=>?_⟩;obtain⟨q',hq,hz⟩:=hc h1;refine⟨fun j hj=>?_,q',hq,fun _=>hz.trans (hv (by omega))⟩;rcases Nat.lt_succ_iff_lt_or_eq.1 hj with h2|rfl
 ·exact h0 j h2
 ·exact h1
theorem StI.normal {w W:World} {t:Tr} {p:TP} (h:StI w t p 3 W) (hF:FB t) (hg:Glob w):Calls Tryz.prog 56 #[.pointer (some ⟨w.heap.size,0,none⟩)] W (StE w t p 3):=by
 obtain⟨h0,q,hb,hv⟩:=h;obtain⟨d1,d2,d3⟩:=zdF (h0 1 (by omega));refine(zo5 w W t _ p q hb hg (fun s hs=>(zmP hF s hs).1) (by show(sig1 t).length≤1000;omega)).mono ?_;rintro e W' ⟨he,hbb,hc⟩;refine⟨he,hbb,fun h1=>?_⟩;obtain⟨q',hq,hz⟩:=hc h1;refine⟨fun j hj=>?_,q',hq,fun _=>hz.trans (hv (by omega))⟩;rcases Nat.lt_succ_iff_lt_or_eq.1 hj with h2|rfl
 ·exact h0 j h2
 ·exact h1
theorem StI.times {w W:World} {t:Tr} {p:TP} (h:StI w t p 4 W) (ht:TrM w t p) (hF:FB t):Calls Tryz.prog 57 #[.pointer (some ⟨w.heap.size,0,none⟩)] W (StE w t p 4):=by
 obtain⟨h0,q,hb,hv⟩:=h;obtain⟨d1,d2,d3⟩:=zdF (h0 1 (by omega));have hnl:(ziY (sig1 t)).length≤1000:=by unfold ziY;rw[List.length_map];omega
 refine(zo4 w W t _ p q hb ht (by rw[hv (by omega)];rfl) hF.p hnl (fun s hs=>by have:=(zi3 hF (h0 3 (by omega)) s hs).2.1;omega)).mono ?_;intro e W' hT;have hT:zaB w t p (stg t 4) (zpc t (ziY (sig1 t))) e W':=hT;unfold zaB at hT;cases hr:zpc t (ziY (sig1 t))with
 |none=>
  rw[hr]at hT;obtain⟨he,hbb,-⟩:=hT;have h4:cod t 4=2:=by rw[cod4,hr]
  exact⟨by rw[h4];exact he,hbb,fun h=>by rw[h4]at h;cases h⟩
 |some r=>
  rw[hr]at hT;obtain⟨he,hbb,hc⟩:=hT;have h4:cod t 4=0:=by rw[cod4,hr]
  refine⟨by rw[h4];exact he,hbb,fun _=>?_⟩;obtain⟨q',hq⟩:=hc rfl;refine⟨fun j hj=>?_,q',?_,fun h=>by omega⟩
  ·rcases Nat.lt_succ_iff_lt_or_eq.1 hj with h2|rfl
   ·exact h0 j h2
   ·exact h4
  ·have e5:stg t 5={stg t 4 with P:=r.1,en:=r.2}:=by
    obtain⟨P,en⟩:=r;show(match zpc t (ziY (sig1 t))with|none=>tr0|some (P,en)=>_)=_;rw[hr];rfl
   rw[e5];exact hq
theorem StI.clear {w W:World} {t:Tr} {p:TP} (h:StI w t p 5 W) (hF:FB t) (hg:Glob w):Calls Tryz.prog 58 #[.pointer (some ⟨w.heap.size,0,none⟩)] W (StE w t p 5):=by
 obtain⟨h0,q,hb,hv⟩:=h;obtain⟨d1,d2,d3⟩:=zdF (h0 1 (by omega));have h4:=h0 4 (by omega);rw[cod4]at h4;cases hr:zpc t (ziY (sig1 t))with
 |none=>rw[hr]at h4;exact absurd h4 (by decide)
 |some r=>
  obtain⟨P,en⟩:=r;obtain⟨f1,f2,f3⟩:=zpe hF (h0 3 (by omega)) hr
  have e5:stg t 5=⟨t.sc,t.dt,t.vn,t.cm,(zj2 t.S t.V).1,(zj2 t.S t.V).2.1,ziY (sig1 t),P,en⟩:=by
   show(match zpc t (ziY (sig1 t))with|none=>tr0|some (P,en)=>_)=_;rw[hr]
  rw[e5]at hb;have hnl:(ziY (sig1 t)).length≤1000:=by unfold ziY;rw[List.length_map];omega
  have c5:cod t 5=zcN P en (ziY (sig1 t)):=by rw[cod5,hr]
  refine(zo2 w W t _ p q hb hg (fun s hs=>?_) hnl f1 f2).mono ?_
  ·obtain⟨g1,g2,-⟩:=zi3 hF (h0 3 (by omega)) s hs;exact⟨g1,by omega,zjw _ _ _ _ f3 _ f1 g1 (by omega)⟩
  rintro e W' ⟨he,hbb,hc⟩;refine⟨by rw[c5];exact he,hbb,fun h1=>?_⟩;obtain⟨q',hq⟩:=hc (by rw[←c5];exact h1)
  have hall:∀j<6,cod t j=0:=fun j hj=>by
   rcases Nat.lt_succ_iff_lt_or_eq.1 hj with h2|rfl
   ·exact h0 j h2
   ·exact h1
  refine⟨hall,q',?_,fun h=>by omega⟩;obtain⟨-,P2,en2,hr2,hb2⟩:=zb8 hall;rw[hr]at hr2;injection hr2 with hr2;injection hr2 with e1 e2;subst e1 e2;show BI w t p (zb4 t).1 q' W';rw[hb2];exact hq
theorem zo7 (w W:World) (t:Tr) (p:TP) (h:StI w t p 0 W) (ht:TrM w t p) (hF:FB t) (hg:Glob w) (hm:Glm w) (hw:∀x∈t.V,(Lit.int .i64 x.sg).wf=true):
 Calls Tryz.prog 52 #[.slice (some ⟨w.heap.size+1,0,none⟩) 6 6] W (zay w t p (zb4 t).2 (zb4 t).1):=by
 have H0:=lhd h;have HT:=lhd ht;have HF:=lhd hF;have HG:=lhd hg;have HM:=lhd hm;have HW:=lhd hw;clear h ht hF hg hm hw;go_enter Tryz.func52,Tryz.ntmps52;go_wp2_with fail;go_loopw [8] (fun i wr=>∃k:Nat,k≤6∧i=.int .i64 k∧StI w t p k wr) (fun i _=>6-(intOf i).toNat)
 case atStart=>exact⟨0,by omega,rfl,H0.out⟩
 case round=>
  obtain⟨k,hk,rfl,hs⟩:=hrel;have HS:=lhd hs;obtain⟨-,q,hq,-⟩:=hs;have hkk:=hq.k;clear hq;rcases(show k=0∨k=1∨k=2∨k=3∨k=4∨k=5∨k=6 by omega)with rfl|rfl|rfl|rfl|rfl|rfl|rfl
  ·have d0:=hkk.cell (j:=0) rfl;clear hkk;have HK:=lhd (HS.out.texts HF.out HM.out);go_wp2_with fail;refine HK.out.mono ?_;rintro e w1 ⟨rfl,hbb,hnx⟩;by_cases hc:cod t 0=0
   ·have HN:=lhd (hnx hc);rw[hc];clear hbb hnx hc d0 HK HS;go_wp2_with fail;go_roundw;case rel=>exact⟨0+1,by omega,by go_num,HN.out⟩
    case measure=>simp[intOf]
   ·have bc:(cod t 0==0)=false:=by simpa using hc
    have HB:=lhd hbb;have HR:=lhd (zb6 (k:=0) (by omega) HS.out.1 hc);have HC:=lhd hc;clear hbb hnx hc d0 HK HS;go_wp2_with fail;go_ret;exact⟨zlF HR.out.symm,HB.out,fun h=>absurd (HR.out.symm.trans h) HC.out⟩
  ·have d0:=hkk.cell (j:=1) rfl;clear hkk;have HK:=lhd (HS.out.decl HT.out HF.out HW.out);go_wp2_with fail;refine HK.out.mono ?_;rintro e w1 ⟨rfl,hbb,hnx⟩;by_cases hc:cod t 1=0
   ·have HN:=lhd (hnx hc);rw[hc];clear hbb hnx hc d0 HK HS;go_wp2_with fail;go_roundw;case rel=>exact⟨1+1,by omega,by go_num,HN.out⟩
    case measure=>simp[intOf]
   ·have bc:(cod t 1==0)=false:=by simpa using hc
    have HB:=lhd hbb;have HR:=lhd (zb6 (k:=1) (by omega) HS.out.1 hc);have HC:=lhd hc;clear hbb hnx hc d0 HK HS;go_wp2_with fail;go_ret;exact⟨zlF HR.out.symm,HB.out,fun h=>absurd (HR.out.symm.trans h) HC.out⟩
  ·have d0:=hkk.cell (j:=2) rfl;clear hkk;have HK:=lhd (HS.out.types HF.out);go_wp2_with fail;refine HK.out.mono ?_;rintro e w1 ⟨rfl,hbb,hnx⟩;by_cases hc:cod t 2=0
   ·have HN:=lhd (hnx hc);rw[hc];clear hbb hnx hc d0 HK HS;go_wp2_with fail;go_roundw;case rel=>exact⟨2+1,by omega,by go_num,HN.out⟩
    case measure=>simp[intOf]
   ·have bc:(cod t 2==0)=false:=by simpa using hc
    have HB:=lhd hbb;have HR:=lhd (zb6 (k:=2) (by omega) HS.out.1 hc);have HC:=lhd hc;clear hbb hnx hc d0 HK HS;go_wp2_with fail;go_ret;exact⟨zlF HR.out.symm,HB.out,fun h=>absurd (HR.out.symm.trans h) HC.out⟩
  ·have d0:=hkk.cell (j:=3) rfl;clear hkk;have HK:=lhd (HS.out.normal HF.out HG.out);go_wp2_with fail;refine HK.out.mono ?_;rintro e w1 ⟨rfl,hbb,hnx⟩;by_cases hc:cod t 3=0
   ·have HN:=lhd (hnx hc);rw[hc];clear hbb hnx hc d0 HK HS;go_wp2_with fail;go_roundw;case rel=>exact⟨3+1,by omega,by go_num,HN.out⟩
    case measure=>simp[intOf]
   ·have bc:(cod t 3==0)=false:=by simpa using hc
    have HB:=lhd hbb;have HR:=lhd (zb6 (k:=3) (by omega) HS.out.1 hc);have HC:=lhd hc;clear hbb hnx hc d0 HK HS;go_wp2_with fail;go_ret;exact⟨zlF HR.out.symm,HB.out,fun h=>absurd (HR.out.symm.trans h) HC.out⟩
  ·have d0:=hkk.cell (j:=4) rfl;clear hkk;have HK:=lhd (HS.out.times HT.out HF.out);go_wp2_with fail;refine HK.out.mono ?_;rintro e w1 ⟨rfl,hbb,hnx⟩;by_cases hc:cod t 4=0
   ·have HN:=lhd (hnx hc);rw[hc];clear hbb hnx hc d0 HK HS;go_wp2_with fail;go_roundw;case rel=>exact⟨4+1,by omega,by go_num,HN.out⟩
    case measure=>simp[intOf]
   ·have bc:(cod t 4==0)=false:=by simpa using hc
    have HB:=lhd hbb;have HR:=lhd (zb6 (k:=4) (by omega) HS.out.1 hc);have HC:=lhd hc;clear hbb hnx hc d0 HK HS;go_wp2_with fail;go_ret;exact⟨zlF HR.out.symm,HB.out,fun h=>absurd (HR.out.symm.trans h) HC.out⟩
  ·have d0:=hkk.cell (j:=5) rfl;clear hkk;have HK:=lhd (HS.out.clear HF.out HG.out);go_wp2_with fail;refine HK.out.mono ?_;rintro e w1 ⟨rfl,hbb,hnx⟩;by_cases hc:cod t 5=0
   ·have HN:=lhd (hnx hc);rw[hc];clear hbb hnx hc d0 HK HS;go_wp2_with fail;go_roundw;case rel=>exact⟨5+1,by omega,by go_num,HN.out⟩
    case measure=>simp[intOf]
   ·have bc:(cod t 5==0)=false:=by simpa using hc
    have HB:=lhd hbb;have HR:=lhd (zb6 (k:=5) (by omega) HS.out.1 hc);have HC:=lhd hc;clear hbb hnx hc d0 HK HS;go_wp2_with fail;go_ret;exact⟨zlF HR.out.symm,HB.out,fun h=>absurd (HR.out.symm.trans h) HC.out⟩
  ·clear hkk;have HB:=lhd (zb8 HS.out.1);have HQ:=lhd (show ∃q,BI w t p (zb4 t).1 q wr by obtain⟨-,q,hq,-⟩:=HS.out;exact⟨q,hq⟩);go_wp2_with fail;go_ret;exact⟨zlF HB.out.1.symm,by obtain⟨q,hq⟩:=HQ.out;exact hq.b,fun _=>HQ.out⟩
end Go.Proofs.YtbiadennhnokhaaGreatDoor
