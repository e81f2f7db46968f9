import Derived.Test.YtbiadennhnokhaaGreatDoorZ00
import Derived.Test.YtbiadennhnokhaaGreatDoorZ23
set_option maxRecDepth 100000
set_option maxHeartbeats 16000000
namespace Go.Proofs.YtbiadennhnokhaaGreatDoor
set_option linter.unusedSimpArgs false
theorem zeo {lim:Int}:∀(G:List Sg) (n:Int),fewG lim n G=true→∀s∈G,few s.2.2 lim=true
 | [],_,_,s,hs=>by cases hs
 |x::G,n,h,s,hs=>by
  unfold fewG at h;rw[Bool.and_eq_true,Bool.and_eq_true]at h;rcases List.mem_cons.1 hs with rfl|hs
  ·exact h.1.2
  ·exact zeo G _ h.2 s hs
theorem zes {l:List Ch} {lim:Int} (hl:lim≤1000) (h:few l lim=true):Fit l∧l.length≤1000:=by
 unfold few fewV at h;rw[Bool.and_eq_true,List.all_eq_true,decide_eq_true_iff]at h;refine⟨⟨by omega,fun c hc=>?_⟩,by omega⟩;have:=of_decide_eq_true (h.1 c hc);omega
theorem zen {t:Tr} {lim:Int} (hl:lim≤1000) (h:fewT t lim=true):FB t∧t.G.length≤70:=by
 unfold fewT fewH at h;simp only[Bool.and_eq_true,List.all_eq_true,decide_eq_true_iff]at h;obtain⟨⟨⟨⟨hs,hv⟩,h1,h2⟩,⟨h3,h4⟩,h5⟩,h6⟩:=h;refine⟨⟨⟨by omega,by omega,by omega⟩,⟨by omega,by omega⟩,⟨fun s hs'=>by have:=hs s hs';omega,fun v hv'=>by have:=hv v hv';omega⟩,fun s hs'=>?_,by omega⟩,h3⟩;obtain⟨f1,f2⟩:=zes hl (zeo _ _ h6 s hs');exact⟨f1,by omega⟩
open Go.RowKit
theorem znA (t:Tr) (p:TP) (n tm:Int) (w:World) (ht:TrM w t p) (hs:SrcB t) (hg:Glob w):Calls Tryz.prog 367 #[p.v t,.int .i64 n,.int .i64 tm] w fun e W'=>e=.returned (.tuple #[.string (znz t n tm).1,.int .i64 (znz t n tm).2])∧Below w.heap.size w W':=by
 obtain⟨a1,k1,a2,k2,a3,k3,a4,k4,e,-,-,e3,-,hk3,hm3⟩:=ht.open;unfold maxLen at hm3;have hb1:Below w.heap.size w (w.alloc (.cells (boxT t a1 a2 a3 a4 k1 k2 k3 k4) 148)):=(Below.refl _ _).alloc (Nat.le_refl _) _;have hX:=zal.fresh w (boxT t a1 a2 a3 a4 k1 k2 k3 k4) 148;have hT:=ht.below hb1;have hlt:w.heap.size<(w.alloc (.cells (boxT t a1 a2 a3 a4 k1 k2 k3 k4) 148)).heap.size:=by simp
 have hH:=znB t p n tm 0 t.en _ hT;rw[e]at hH⊢;by_cases hh:hasS t n tm 0 t.en=true
 ·obtain⟨h0,h1,-⟩:=zfj.1 hh;obtain⟨j,rfl⟩:∃j:Nat,n=(j:Int):=⟨n.toNat,by omega⟩;have hj:j<p.M.length:=by rw[ht.len];omega
  have HR:=lhd (show znz t (j:Int) tm=atR p.M[j].1.1 p.M[j].1.2.1 p.M[j].1.2.2 tm by unfold znz;rw[if_pos hh,ht.sg hj]);have hj2:j<t.G.length:=by omega
  have HF:=lhd (show Fit p.M[j].1.2.2 from hs.f _ (by rw[←ht.m];exact List.mem_map.2 ⟨_,List.getElem_mem hj,rfl⟩));rw[hh]at hH;have hsg:=hT.g;rw[e3]at hsg;have HSG:=lhd hsg;have HB1:=lhd hb1;have HX:=lhd hX;have HH:=lhd hH;have HG:=lhd hg;clear ht hT hX hb1 hh h0 h1 e e3 hH hsg hg hs;obtain⟨R,hR⟩:∃R,R=znz t (j:Int) tm:=⟨_,rfl⟩;rw[←hR]at HR⊢;clear hR;go_enter Tryz.func367,Tryz.ntmps367;go_wp2_with fail;generalize w.alloc (.cells (boxT t a1 a2 a3 a4 k1 k2 k3 k4) 148)=w1 at*;refine HH.out.mono ?_;rintro e w2 ⟨rfl,hb2⟩;have HB2:=lhd (HB1.out.trans (hb2.mono HB1.out.size));have hX2:=HX.out.below hb2 hlt;obtain⟨b,o,rfl,d0,d1,d2,hd⟩:=(HSG.out.below hb2).at hj;have p0:=hX2.cell (j:=0) rfl;have p1:=hX2.cell (j:=1) rfl;have p2:=hX2.cell (j:=2) rfl;have p3:=hX2.cell (j:=3) rfl;have p4:=hX2.cell (j:=4) rfl;have p5:=hX2.cell (j:=5) rfl;have p6:=hX2.cell (j:=6) rfl;have p7:=hX2.cell (j:=7) rfl;have p8:=hX2.cell (j:=8) rfl;generalize p.M[j]=x at*;obtain⟨⟨k,m,l⟩,xv⟩:=x;dsimp only at d0 d1 d2 hd HF HR;obtain⟨xa,xc,rfl,-,-⟩:=hd.shape;have HC:=lhd (zm9 k m _ l tm w2 (HG.out.below HB2.out) hd HF.out);rw[←HR.out]at HC;clear hb2 hX2 hd HG HF HR;go_wp2_with fail;refine HC.out.mono ?_;rintro e w3 ⟨rfl,hb3⟩;have HB3:=lhd (HB2.out.trans (hb3.mono HB2.out.size));clear hb3 d0 d1 d2;go_wp2_with fail;go_ret2
  exact⟨rfl,HB3.out⟩
 ·have hf:hasS t n tm 0 t.en=false:=by simpa using hh
  have HR:=lhd (show znz t n tm=(⟨#[]⟩,2)by unfold znz;rw[if_neg hh]);rw[hf]at hH;rw[HR.out];have HB1:=lhd hb1;have HH:=lhd hH;clear ht hT hX hb1 hh hf e e3 hH hg hs;go_enter Tryz.func367,Tryz.ntmps367;go_wp2_with fail;refine HH.out.mono ?_;rintro e w2 ⟨rfl,hb2⟩;have HB2:=lhd (HB1.out.trans (hb2.mono HB1.out.size));clear hb2;go_wp2_with fail;go_ret2
  exact⟨rfl,HB2.out⟩
end Go.Proofs.YtbiadennhnokhaaGreatDoor
