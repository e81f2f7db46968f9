import Derived.Test.YtbiadennhnokhaaGreatDoorZ00
import Derived.Test.YtbiadennhnokhaaGreatDoorZ07
import Derived.Test.YtbiadennhnokhaaGreatDoorZ23
set_option maxRecDepth 100000
set_option maxHeartbeats 16000000
namespace Go.Proofs.YtbiadennhnokhaaGreatDoor
open Go.RowKit
set_option linter.unusedSimpArgs false
def hasS (t:Tr) (n tm lo hi:Int):Bool:=decide (0≤n)&&decide (n<(t.G.length:Int))&&decide (lo≤tm)&&decide (tm≤hi)
def zuk (t:Tr) (n:Int):Int×Int×Int:=if hasS t n 0 0 0=true then((sgI t.G n).1,(sgI t.G n).2.1,0)else(0,0,2)
theorem TrM.sg {w:World} {t:Tr} {p:TP} (h:TrM w t p) {j:Nat} (hj:j<p.M.length):sgI t.G (j:Int)=p.M[j].1:=by
 unfold sgI;rw[←h.m];simp[List.getD,hj]
theorem zfj {t:Tr} {n tm lo hi:Int}:hasS t n tm lo hi=true↔0≤n∧n<(t.G.length:Int)∧lo≤tm∧tm≤hi:=by
 unfold hasS;simp only[Bool.and_eq_true,decide_eq_true_iff,and_assoc]
structure SrcB (t:Tr):Prop where
 f:∀s∈t.G,Fit s.2.2
 e: -1≤t.en∧t.en≤1099511627776
abbrev boxT (t:Tr) (a1 a2 a3 a4:Option Addr) (k1 k2 k3 k4:Nat):Array Value:=#[.int .i64 t.sc,.string (bsB t.dt),.string (bsB t.vn),.string (bsB t.cm),.slice a1 t.S.length k1,.slice a2 t.V.length k2,.slice a3 t.G.length k3,.slice a4 t.P.length k4,.int .i64 t.en]
theorem TrM.open {w:World} {t:Tr} {p:TP} (h:TrM w t p):∃a1 k1 a2 k2 a3 k3 a4 k4,p.v t=.agg (boxT t a1 a2 a3 a4 k1 k2 k3 k4)∧p.vs=.slice a1 t.S.length k1∧p.vv=.slice a2 t.V.length k2∧p.vg=.slice a3 p.M.length k3∧p.vp=.slice a4 t.P.length k4∧t.G.length≤k3∧k3≤maxLen:=by
 obtain⟨a1,k1,e1,-,-⟩:=h.s.shape;obtain⟨a2,k2,e2,-,-⟩:=h.v.shape;obtain⟨a3,k3,e3,h3,m3⟩:=h.g.s.shape;obtain⟨a4,k4,e4,-,-⟩:=h.q.shape;refine⟨a1,k1,a2,k2,a3,k3,a4,k4,?_,e1,e2,e3,e4,by rw[←h.len];exact h3,m3⟩;unfold TP.v;rw[e1,e2,e3,e4,h.len]
theorem znB (t:Tr) (p:TP) (n tm lo hi:Int) (w:World) (ht:TrM w t p):
 Calls Tryz.prog 369 #[p.v t,.int .i64 n,.int .i64 tm,.int .i64 lo,.int .i64 hi] w fun e W'=>e=.returned (.bool (hasS t n tm lo hi))∧Below w.heap.size w W':=by
 obtain⟨a1,k1,a2,k2,a3,k3,a4,k4,e,-⟩:=ht.open;rw[e];have HB:=lhd (show Below w.heap.size w (w.alloc (.cells (boxT t a1 a2 a3 a4 k1 k2 k3 k4) 148))from(Below.refl _ _).alloc (Nat.le_refl _) _);clear ht e;by_cases h1:0≤n
 ·have b1:decide (0≤n)=true:=by simpa using h1
  by_cases h2:n<(t.G.length:Int)
  ·have b2:decide (n<(t.G.length:Int))=true:=by simpa using h2
   by_cases h3:lo≤tm
   ·have b3:decide (lo≤tm)=true:=by simpa using h3
    by_cases h4:tm≤hi
    ·have b4:decide (tm≤hi)=true:=by simpa using h4
     have HR:=lhd (show true=hasS t n tm lo hi by unfold hasS;rw[b1,b2,b3,b4];rfl);go_enter Tryz.func369,Tryz.ntmps369;go_wp2_with fail;go_ret;first|exact⟨zli HR.out,HB.out⟩|exact⟨rfl,HB.out⟩
    ·have b4:decide (tm≤hi)=false:=by simpa using h4
     have HR:=lhd (show false=hasS t n tm lo hi by unfold hasS;rw[b1,b2,b3,b4];rfl);go_enter Tryz.func369,Tryz.ntmps369;go_wp2_with fail;go_ret;first|exact⟨zli HR.out,HB.out⟩|exact⟨rfl,HB.out⟩
   ·have b3:decide (lo≤tm)=false:=by simpa using h3
    have HR:=lhd (show false=hasS t n tm lo hi by unfold hasS;rw[b1,b2,b3];rfl);go_enter Tryz.func369,Tryz.ntmps369;go_wp2_with fail;go_ret;first|exact⟨zli HR.out,HB.out⟩|exact⟨rfl,HB.out⟩
  ·have b2:decide (n<(t.G.length:Int))=false:=by simpa using h2
   have HR:=lhd (show false=hasS t n tm lo hi by unfold hasS;rw[b1,b2];rfl);go_enter Tryz.func369,Tryz.ntmps369;go_wp2_with fail;go_ret;first|exact⟨zli HR.out,HB.out⟩|exact⟨rfl,HB.out⟩
 ·have b1:decide (0≤n)=false:=by simpa using h1
  have HR:=lhd (show false=hasS t n tm lo hi by unfold hasS;rw[b1];rfl);go_enter Tryz.func369,Tryz.ntmps369;go_wp2_with fail;go_ret;first|exact⟨zli HR.out,HB.out⟩|exact⟨rfl,HB.out⟩
theorem zun (t:Tr) (p:TP) (w:World) (ht:TrM w t p):Calls Tryz.prog 366 #[p.v t] w fun e W'=>e=.returned (.int .i64 t.G.length)∧Below w.heap.size w W':=by
 obtain⟨a1,k1,a2,k2,a3,k3,a4,k4,e,-,-,e3,-,hk3,hm3⟩:=ht.open;unfold maxLen at hm3;have hb1:Below w.heap.size w (w.alloc (.cells (boxT t a1 a2 a3 a4 k1 k2 k3 k4) 148)):=(Below.refl _ _).alloc (Nat.le_refl _) _;have hX:=zal.fresh w (boxT t a1 a2 a3 a4 k1 k2 k3 k4) 148;have hT:=ht.below hb1;have hlt:w.heap.size<(w.alloc (.cells (boxT t a1 a2 a3 a4 k1 k2 k3 k4) 148)).heap.size:=by simp
 rw[e];have HB1:=lhd hb1;clear ht hT hX e e3 hb1;go_enter Tryz.func366,Tryz.ntmps366;go_wp2_with fail;go_ret;exact⟨rfl,HB1.out⟩
theorem zum (t:Tr) (p:TP) (n:Int) (w:World) (ht:TrM w t p):Calls Tryz.prog 363 #[p.v t,.int .i64 n] w fun e W'=>e=.returned (.tuple #[.int .i64 (zuk t n).1,.int .i64 (zuk t n).2.1,.int .i64 (zuk t n).2.2])∧Below w.heap.size w W':=by
 obtain⟨a1,k1,a2,k2,a3,k3,a4,k4,e,-,-,e3,-,hk3,hm3⟩:=ht.open;unfold maxLen at hm3;have hb1:Below w.heap.size w (w.alloc (.cells (boxT t a1 a2 a3 a4 k1 k2 k3 k4) 148)):=(Below.refl _ _).alloc (Nat.le_refl _) _;have hX:=zal.fresh w (boxT t a1 a2 a3 a4 k1 k2 k3 k4) 148;have hT:=ht.below hb1;have hlt:w.heap.size<(w.alloc (.cells (boxT t a1 a2 a3 a4 k1 k2 k3 k4) 148)).heap.size:=by simp
 have hH:=znB t p n 0 0 0 _ hT;rw[e]at hH⊢;by_cases hh:hasS t n 0 0 0=true
 ·obtain⟨h0,h1,-⟩:=zfj.1 hh;obtain⟨j,rfl⟩:∃j:Nat,n=(j:Int):=⟨n.toNat,by omega⟩;have hj:j<p.M.length:=by rw[ht.len];omega
  have HR:=lhd (show zuk t (j:Int)=(p.M[j].1.1,p.M[j].1.2.1,0)by unfold zuk;rw[if_pos hh,ht.sg hj]);have hj2:j<t.G.length:=by omega
  rw[hh]at hH;rw[HR.out];have hsg:=hT.g;rw[e3]at hsg;have HSG:=lhd hsg;have HB1:=lhd hb1;have HX:=lhd hX;have HH:=lhd hH;clear ht hT hX hb1 hh h0 h1 e e3 hH hsg;go_enter Tryz.func363,Tryz.ntmps363;go_wp2_with fail;generalize w.alloc (.cells (boxT t a1 a2 a3 a4 k1 k2 k3 k4) 148)=w1 at*;refine HH.out.mono ?_;rintro e w2 ⟨rfl,hb2⟩;have HB2:=lhd (HB1.out.trans (hb2.mono HB1.out.size));have hX2:=HX.out.below hb2 hlt;obtain⟨b,o,rfl,d0,d1,d2,hd⟩:=(HSG.out.below hb2).at hj;have p0:=hX2.cell (j:=0) rfl;have p1:=hX2.cell (j:=1) rfl;have p2:=hX2.cell (j:=2) rfl;have p3:=hX2.cell (j:=3) rfl;have p4:=hX2.cell (j:=4) rfl;have p5:=hX2.cell (j:=5) rfl;have p6:=hX2.cell (j:=6) rfl;have p7:=hX2.cell (j:=7) rfl;have p8:=hX2.cell (j:=8) rfl;clear hb2 hX2 d2 hd;go_wp2_with fail;go_quiet (fail);go_wp2_with fail;go_ret3
  exact⟨rfl,za6 HB2.out _⟩
 ·have hf:hasS t n 0 0 0=false:=by simpa using hh
  have HR:=lhd (show zuk t n=(0,0,2)by unfold zuk;rw[if_neg hh]);rw[hf]at hH;rw[HR.out];have HB1:=lhd hb1;have HH:=lhd hH;clear ht hT hX hb1 hh hf e e3 hH;go_enter Tryz.func363,Tryz.ntmps363;go_wp2_with fail;refine HH.out.mono ?_;rintro e w2 ⟨rfl,hb2⟩;have HB2:=lhd (HB1.out.trans (hb2.mono HB1.out.size));clear hb2;go_wp2_with fail;go_ret3
  exact⟨rfl,HB2.out⟩
open Go.Joins Go.ChangeShapes Go.WideShapes Go.RowKit Go.Deep
section
variable {H : Type} {enc : TypeId × Value → H} {w : World} {base : Nat} {spare : Nat → Bool} {held : Bool} {n : Nat} {v : Value} {z : DataW H × List MemPlace}
end
section
variable {H : Type} {enc : TypeId × Value → H} {w : World} {base : Nat} {spare : Nat → Bool} {held : Bool} {fuel : Nat} {cs : List Value} {x : DataW H × List MemPlace}
end
end Go.Proofs.YtbiadennhnokhaaGreatDoor
