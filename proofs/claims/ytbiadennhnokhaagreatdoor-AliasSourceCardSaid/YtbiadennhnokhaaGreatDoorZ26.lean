import Derived.Test.YtbiadennhnokhaaGreatDoorZ00
import Derived.Test.YtbiadennhnokhaaGreatDoorZ07
import Derived.Test.YtbiadennhnokhaaGreatDoorZ23
set_option maxRecDepth 100000
set_option maxHeartbeats 16000000
namespace Go.Proofs.YtbiadennhnokhaaGreatDoor
open Go.RowKit
set_option linter.unusedSimpArgs false
def fewG (lim:Int):Int→List Sg→Bool
 |_,[]=>true
 |n,s::G=>!decide (lim<n+s.2.2.length)&&few s.2.2 lim&&fewG lim (n+s.2.2.length) G
def fewT (t:Tr) (lim:Int):Bool:=fewH t.S t.V&&(decide (t.G.length≤70)&&decide (t.P.length≤20)&&decide (t.dt.length+t.vn.length+t.cm.length≤700))&&fewG lim 0 t.G
theorem zlK (t:Tr) (p:TP) (lim:Int) (w:World) (ht:TrM w t p) (hl:0≤lim∧lim≤1000) (htx:t.dt.length≤140737488355328∧t.vn.length≤140737488355328∧t.cm.length≤140737488355328):
 Calls Tryz.prog 13 #[p.v t,.int .i64 lim] w fun e w'=>e=.returned (.bool (fewT t lim))∧Below w.heap.size w w':=by
 obtain⟨a1,k1,e1,-,-⟩:=ht.s.shape;obtain⟨a2,k2,e2,-,-⟩:=ht.v.shape;obtain⟨a3,k3,e3,hk3,hm3⟩:=ht.g.s.shape;obtain⟨a4,k4,e4,-,-⟩:=ht.q.shape;have hGL:=ht.len;unfold maxLen at hm3;have hb1:Below w.heap.size w (w.alloc (.cells #[.int .i64 t.sc,.string (bsB t.dt),.string (bsB t.vn),.string (bsB t.cm),.slice a1 t.S.length k1,.slice a2 t.V.length k2,.slice a3 t.G.length k3,.slice a4 t.P.length k4,.int .i64 t.en] 27)):=(Below.refl _ _).alloc (Nat.le_refl _) _;have HX:=lhd (zas.fresh w #[.int .i64 t.sc,.string (bsB t.dt),.string (bsB t.vn),.string (bsB t.cm),.slice a1 t.S.length k1,.slice a2 t.V.length k2,.slice a3 t.G.length k3,.slice a4 t.P.length k4,.int .i64 t.en] 27);have HT:=lhd (ht.below hb1);have HB1:=lhd hb1;have hfh:=zlJ p.vs p.vv t.S t.V _ (ht.s.below hb1) (ht.v.below hb1);rw[e1,e2]at hfh;have HFH:=lhd hfh;have HE3:=lhd e3;have HGL:=lhd hGL;rw[hGL]at hk3;unfold TP.v;rw[e1,e2,e3,e4,hGL];have z1:(bsB t.dt).size=t.dt.length:=rfl;have z2:(bsB t.vn).size=t.vn.length:=rfl;have z3:(bsB t.cm).size=t.cm.length:=rfl;obtain⟨u1,u2,u3⟩:=htx;by_cases h0:fewH t.S t.V=true
 ·rw[h0]at HFH;by_cases h1:t.G.length≤70
  ·have b1:¬(70:Int)<(t.G.length:Int):=by omega
   by_cases h2:t.P.length≤20
   ·have b2:¬(20:Int)<(t.P.length:Int):=by omega
    by_cases h3:t.dt.length+t.vn.length+t.cm.length≤700
    ·have b3:¬(700:Int)<((bsB t.dt).size:Int)+(bsB t.vn).size+(bsB t.cm).size:=by omega
     have HFT:=lhd (show fewT t lim=fewG lim 0 t.G by unfold fewT;rw[h0,decide_eq_true h1,decide_eq_true h2,decide_eq_true h3];rfl);clear ht e1 e2 e3 e4 hGL hb1 hfh h0 h1 h2 h3;go_enter Tryz.func13,Tryz.ntmps13;go_wp2_with fail;refine(HFH.out).mono ?_;rintro e w2 ⟨rfl,rfl⟩;go_wp2_with fail;have hwz:w.heap.size<(w.alloc (.cells #[.int .i64 t.sc,.string (bsB t.dt),.string (bsB t.vn),.string (bsB t.cm),.slice a1 t.S.length k1,.slice a2 t.V.length k2,.slice a3 t.G.length k3,.slice a4 t.P.length k4,.int .i64 t.en] 27)).heap.size:=by simp
     generalize w.alloc (.cells #[.int .i64 t.sc,.string (bsB t.dt),.string (bsB t.vn),.string (bsB t.cm),.slice a1 t.S.length k1,.slice a2 t.V.length k2,.slice a3 t.G.length k3,.slice a4 t.P.length k4,.int .i64 t.en] 27)=w1 at*;have c6:=HX.out.cell (j:=6) rfl;clear b1 b2 b3 z1 z2 z3 u1 u2 u3;go_loopw [6,5] (fun i n_ wr=>∃(k:Nat) (n:Int),k≤t.G.length∧i=.int .i64 k∧n_=.int .i64 n∧0≤n∧n≤lim∧fewG lim n (t.G.drop k)=fewG lim 0 t.G∧wr=w1) (fun i _ _=>t.G.length-(intOf i).toNat)
     case atStart=>exact⟨0,0,Nat.zero_le _,rfl,rfl,by omega,by omega,rfl,rfl⟩
     case round=>
      obtain⟨k,n,hk,rfl,rfl,hn1,hn2,hgo,rfl⟩:=hrel;have HGO:=lhd hgo;clear hgo;by_cases hlt:k<t.G.length
      ·have hm:k<p.M.length:=by rw[HGL.out];exact hlt
       have hsg:=HT.out.g;rw[HE3.out]at hsg;obtain⟨b,o,rfl,s0,s1,s2,s3⟩:=hsg.at hm
       have hMk:p.M[k].1=t.G[k]:=by
        have h1:(p.M.map Prod.fst)[k]? =some p.M[k].1:=by rw[List.getElem?_map,List.getElem?_eq_getElem hm];rfl
        rw[HT.out.m,List.getElem?_eq_getElem hlt]at h1;exact(Option.some.inj h1).symm
       have HDR:=lhd (List.drop_eq_getElem_cons hlt);rw[hMk]at s3;generalize t.G[k]=x at*;obtain⟨kd,wd,cl⟩:=x;dsimp only at s3;generalize p.M[k].2=vx at*;obtain⟨xa,xc,rfl,hc1,hc2⟩:=s3.shape;unfold maxLen at hc2;have HFW:=lhd (zlr (.slice xa cl.length xc) cl lim wr s3);have hgo2:=HGO.out;rw[HDR.out]at hgo2;have hgo3:(!decide (lim<n+(cl.length:Int))&&few cl lim&&fewG lim (n+(cl.length:Int)) (t.G.drop (k+1)))=fewG lim 0 t.G:=hgo2;clear s0 s1 s3 hsg hMk hm hgo2;by_cases hcl:cl.length≤140737488355328
       rotate_left
       ·have hfw:few cl lim=false:=by unfold few;rw[decide_eq_false (by omega),Bool.and_false]
        have HR:=lhd (show false=fewT t lim by rw[HFT.out,←hgo3,hfw,Bool.and_false];rfl);rw[hfw]at HFW;clear hgo3 hfw hcl;by_cases hq:lim<wrap64 (n+(cl.length:Int))
        ·go_wp2_with fail;go_ret;exact⟨zlE HR.out,HB1.out⟩
        ·go_wp2_with fail;refine HFW.out.mono ?_;rintro e w2 ⟨rfl,rfl⟩;go_wp2_with fail;go_ret;exact⟨zlE HR.out,HB1.out⟩
       by_cases h1:lim<n+(cl.length:Int)
       ·have HR:=lhd (show false=fewT t lim by rw[HFT.out,←hgo3,decide_eq_true h1];rfl);have bb:decide (lim<n+(cl.length:Int))=true:=by simpa using h1
        clear hgo3;go_wp2_with fail;go_ret;exact⟨zlE HR.out,HB1.out⟩
       ·have bb:decide (lim<n+(cl.length:Int))=false:=by simpa using h1
        cases hfw:few cl lim with
        |false=>
         have HR:=lhd (show false=fewT t lim by rw[HFT.out,←hgo3,hfw,Bool.and_false];rfl);rw[hfw]at HFW;clear hgo3 hfw;go_wp2_with fail;refine HFW.out.mono ?_;rintro e w2 ⟨rfl,rfl⟩;go_wp2_with fail;go_ret;exact⟨zlE HR.out,HB1.out⟩
        |true=>
         have HG2:=lhd (show fewG lim (n+(cl.length:Int)) (t.G.drop (k+1))=fewG lim 0 t.G by rw[←hgo3,hfw,bb];rfl);rw[hfw]at HFW;clear hgo3 hfw;go_wp2_with fail;refine HFW.out.mono ?_;rintro e w2 ⟨rfl,rfl⟩;go_wp2_with fail;go_roundw;case rel=>exact⟨k+1,n+(cl.length:Int),hlt,by go_num,by go_num,by omega,by omega,HG2.out,by trivial⟩
         case measure=>simp[intOf];omega
      ·obtain rfl:k=t.G.length:=by omega
       have HR:=lhd (show true=fewT t lim by rw[HFT.out,←HGO.out,List.drop_length];rfl);go_wp2_with fail;go_ret;exact⟨zlE HR.out,HB1.out⟩
    ·have b3:(700:Int)<((bsB t.dt).size:Int)+(bsB t.vn).size+(bsB t.cm).size:=by omega
     have HR:=lhd (show false=fewT t lim by unfold fewT;rw[h0,decide_eq_true h1,decide_eq_true h2,decide_eq_false h3];rfl);clear ht e1 e2 e3 e4 hGL hb1 hfh h0 h1 h2 h3;go_enter Tryz.func13,Tryz.ntmps13;go_wp2_with fail;refine(HFH.out).mono ?_;rintro e w2 ⟨rfl,rfl⟩;go_wp2_with fail;go_ret;exact⟨zlE HR.out,HB1.out⟩
   ·have b2:(20:Int)<(t.P.length:Int):=by omega
    have HR:=lhd (show false=fewT t lim by unfold fewT;rw[h0,decide_eq_true h1,decide_eq_false h2];rfl);clear ht e1 e2 e3 e4 hGL hb1 hfh h0 h1 h2;go_enter Tryz.func13,Tryz.ntmps13;go_wp2_with fail;refine(HFH.out).mono ?_;rintro e w2 ⟨rfl,rfl⟩;go_wp2_with fail;go_ret;exact⟨zlE HR.out,HB1.out⟩
  ·have b1:(70:Int)<(t.G.length:Int):=by omega
   have HR:=lhd (show false=fewT t lim by unfold fewT;rw[h0,decide_eq_false h1];rfl);clear ht e1 e2 e3 e4 hGL hb1 hfh h0 h1;go_enter Tryz.func13,Tryz.ntmps13;go_wp2_with fail;refine(HFH.out).mono ?_;rintro e w2 ⟨rfl,rfl⟩;go_wp2_with fail;go_ret;exact⟨zlE HR.out,HB1.out⟩
 ·have h00:fewH t.S t.V=false:=by simpa using h0
  rw[h00]at HFH;have HR:=lhd (show false=fewT t lim by unfold fewT;rw[h00];rfl);clear ht e1 e2 e3 e4 hGL hb1 hfh h0 h00;go_enter Tryz.func13,Tryz.ntmps13;go_wp2_with fail;refine(HFH.out).mono ?_;rintro e w2 ⟨rfl,rfl⟩;go_wp2_with fail;go_ret;exact⟨zlE HR.out,HB1.out⟩
def hasS (t:Tr) (n tm lo hi:Int):Bool:=decide (0≤n)&&decide (n<(t.G.length:Int))&&decide (lo≤tm)&&decide (tm≤hi)
def znB (t:Tr) (n:Int):Int×Int×Int:=if hasS t n 0 0 0=true then((sgI t.G n).1,(sgI t.G n).2.1,0)else(0,0,2)
def znE (t:Tr) (n tm:Int):ByteArray×Int:=if hasS t n tm 0 t.en=true then atR (sgI t.G n).1 (sgI t.G n).2.1 (sgI t.G n).2.2 tm else(⟨#[]⟩,2)
def znC (t:Tr) (n tm:Int):Ch×Int:=if hasS t n tm (-1) t.en=true then ziG (sgI t.G n).1 (sgI t.G n).2.1 (sgI t.G n).2.2 tm else((0,⟨#[]⟩),2)
def znD (t:Tr) (n tm:Int):Ch×Int:=if hasS t n tm 0 (t.en+1)=true then zk9 (sgI t.G n).1 (sgI t.G n).2.1 (sgI t.G n).2.2 tm else((0,⟨#[]⟩),2)
def znF (t:Tr) (n a b:Int):List Ch×Int:=if hasS t n a 0 b=true∧b≤t.en then(winR (sgI t.G n).1 (sgI t.G n).2.1 (sgI t.G n).2.2 a b,0)else([],2)
theorem TrM.sg {w:World} {t:Tr} {p:TP} (h:TrM w t p) {j:Nat} (hj:j<p.M.length):sgI t.G (j:Int)=p.M[j].1:=by
 unfold sgI;rw[←h.m];simp[List.getD,hj]
theorem zfJ {t:Tr} {n tm lo hi:Int}:hasS t n tm lo hi=true↔0≤n∧n<(t.G.length:Int)∧lo≤tm∧tm≤hi:=by
 unfold hasS;simp only[Bool.and_eq_true,decide_eq_true_iff,and_assoc]
structure SrcB (t:Tr):Prop where
 f:∀s∈t.G,Fit s.2.2
 e: -1≤t.en∧t.en≤1099511627776
abbrev boxT (t:Tr) (a1 a2 a3 a4:Option Addr) (k1 k2 k3 k4:Nat):Array Value:=#[.int .i64 t.sc,.string (bsB t.dt),.string (bsB t.vn),.string (bsB t.cm),.slice a1 t.S.length k1,.slice a2 t.V.length k2,.slice a3 t.G.length k3,.slice a4 t.P.length k4,.int .i64 t.en]
theorem TrM.open {w:World} {t:Tr} {p:TP} (h:TrM w t p):∃a1 k1 a2 k2 a3 k3 a4 k4,p.v t=.agg (boxT t a1 a2 a3 a4 k1 k2 k3 k4)∧p.vs=.slice a1 t.S.length k1∧p.vv=.slice a2 t.V.length k2∧p.vg=.slice a3 p.M.length k3∧p.vp=.slice a4 t.P.length k4∧t.G.length≤k3∧k3≤maxLen:=by
 obtain⟨a1,k1,e1,-,-⟩:=h.s.shape;obtain⟨a2,k2,e2,-,-⟩:=h.v.shape;obtain⟨a3,k3,e3,h3,m3⟩:=h.g.s.shape;obtain⟨a4,k4,e4,-,-⟩:=h.q.shape;refine⟨a1,k1,a2,k2,a3,k3,a4,k4,?_,e1,e2,e3,e4,by rw[←h.len];exact h3,m3⟩;unfold TP.v;rw[e1,e2,e3,e4,h.len]
theorem znO (t:Tr) (p:TP) (n tm lo hi:Int) (w:World) (ht:TrM w t p):
 Calls Tryz.prog 369 #[p.v t,.int .i64 n,.int .i64 tm,.int .i64 lo,.int .i64 hi] w fun e W'=>e=.returned (.bool (hasS t n tm lo hi))∧Below w.heap.size w W':=by
 obtain⟨a1,k1,a2,k2,a3,k3,a4,k4,e,-⟩:=ht.open;rw[e];have HB:=lhd (show Below w.heap.size w (w.alloc (.cells (boxT t a1 a2 a3 a4 k1 k2 k3 k4) 148))from(Below.refl _ _).alloc (Nat.le_refl _) _);clear ht e;by_cases h1:0≤n
 ·have b1:decide (0≤n)=true:=by simpa using h1
  by_cases h2:n<(t.G.length:Int)
  ·have b2:decide (n<(t.G.length:Int))=true:=by simpa using h2
   by_cases h3:lo≤tm
   ·have b3:decide (lo≤tm)=true:=by simpa using h3
    by_cases h4:tm≤hi
    ·have b4:decide (tm≤hi)=true:=by simpa using h4
     have HR:=lhd (show true=hasS t n tm lo hi by unfold hasS;rw[b1,b2,b3,b4];rfl);go_enter Tryz.func369,Tryz.ntmps369;go_wp2_with fail;go_ret;first|exact⟨zlE HR.out,HB.out⟩|exact⟨rfl,HB.out⟩
    ·have b4:decide (tm≤hi)=false:=by simpa using h4
     have HR:=lhd (show false=hasS t n tm lo hi by unfold hasS;rw[b1,b2,b3,b4];rfl);go_enter Tryz.func369,Tryz.ntmps369;go_wp2_with fail;go_ret;first|exact⟨zlE HR.out,HB.out⟩|exact⟨rfl,HB.out⟩
   ·have b3:decide (lo≤tm)=false:=by simpa using h3
    have HR:=lhd (show false=hasS t n tm lo hi by unfold hasS;rw[b1,b2,b3];rfl);go_enter Tryz.func369,Tryz.ntmps369;go_wp2_with fail;go_ret;first|exact⟨zlE HR.out,HB.out⟩|exact⟨rfl,HB.out⟩
  ·have b2:decide (n<(t.G.length:Int))=false:=by simpa using h2
   have HR:=lhd (show false=hasS t n tm lo hi by unfold hasS;rw[b1,b2];rfl);go_enter Tryz.func369,Tryz.ntmps369;go_wp2_with fail;go_ret;first|exact⟨zlE HR.out,HB.out⟩|exact⟨rfl,HB.out⟩
 ·have b1:decide (0≤n)=false:=by simpa using h1
  have HR:=lhd (show false=hasS t n tm lo hi by unfold hasS;rw[b1];rfl);go_enter Tryz.func369,Tryz.ntmps369;go_wp2_with fail;go_ret;first|exact⟨zlE HR.out,HB.out⟩|exact⟨rfl,HB.out⟩
theorem znL (t:Tr) (p:TP) (w:World) (ht:TrM w t p):Calls Tryz.prog 366 #[p.v t] w fun e W'=>e=.returned (.int .i64 t.G.length)∧Below w.heap.size w W':=by
 obtain⟨a1,k1,a2,k2,a3,k3,a4,k4,e,-,-,e3,-,hk3,hm3⟩:=ht.open;unfold maxLen at hm3;have hb1:Below w.heap.size w (w.alloc (.cells (boxT t a1 a2 a3 a4 k1 k2 k3 k4) 148)):=(Below.refl _ _).alloc (Nat.le_refl _) _;have hX:=zas.fresh w (boxT t a1 a2 a3 a4 k1 k2 k3 k4) 148;have hT:=ht.below hb1;have hlt:w.heap.size<(w.alloc (.cells (boxT t a1 a2 a3 a4 k1 k2 k3 k4) 148)).heap.size:=by simp
 rw[e];have HB1:=lhd hb1;clear ht hT hX e e3 hb1;go_enter Tryz.func366,Tryz.ntmps366;go_wp2_with fail;go_ret;exact⟨rfl,HB1.out⟩
theorem znG (t:Tr) (p:TP) (w:World) (ht:TrM w t p):Calls Tryz.prog 361 #[p.v t] w fun e W'=>e=.returned (.int .i64 t.en)∧Below w.heap.size w W':=by
 obtain⟨a1,k1,a2,k2,a3,k3,a4,k4,e,-,-,e3,-,hk3,hm3⟩:=ht.open;unfold maxLen at hm3;have hb1:Below w.heap.size w (w.alloc (.cells (boxT t a1 a2 a3 a4 k1 k2 k3 k4) 148)):=(Below.refl _ _).alloc (Nat.le_refl _) _;have hX:=zas.fresh w (boxT t a1 a2 a3 a4 k1 k2 k3 k4) 148;have hT:=ht.below hb1;have hlt:w.heap.size<(w.alloc (.cells (boxT t a1 a2 a3 a4 k1 k2 k3 k4) 148)).heap.size:=by simp
 rw[e];have HB1:=lhd hb1;clear ht hT hX e e3 hb1;go_enter Tryz.func361,Tryz.ntmps361;go_wp2_with fail;go_ret;exact⟨rfl,HB1.out⟩
theorem znH (t:Tr) (p:TP) (w:World) (ht:TrM w t p) (hl:t.P.length≤1000):Calls Tryz.prog 362 #[p.v t] w fun e W'=>∃v,e=.returned (.tuple #[v,.int .i64 0])∧W'.ownsRow w.heap.size 57 2 v t.P.length (gps t.P)∧Below w.heap.size w W':=by
 obtain⟨a1,k1,a2,k2,a3,k3,a4,k4,e,-,-,-,e4,-⟩:=ht.open;rw[e];have hb1:Below w.heap.size w (w.alloc (.cells (boxT t a1 a2 a3 a4 k1 k2 k3 k4) 148)):=(Below.refl _ _).alloc (Nat.le_refl _) _
 have hc:=zdf p.vp t.P _ (ht.q.below hb1) (by omega) (fun u hu=>by
  obtain⟨g,-,hg⟩:=List.mem_flatMap.1 hu;simp only[gpC,List.mem_cons,List.not_mem_nil,or_false]at hg;rcases hg with rfl|rfl<;>rfl)
 rw[e4]at hc;have HC:=lhd hc;have HB1:=lhd hb1;clear ht hc hb1 e e4;go_enter Tryz.func362,Tryz.ntmps362;go_wp2_with fail;refine HC.out.mono ?_;rintro e w2 ⟨v,rfl,ho,hb2⟩;have HO:=lhd ho;have HB2:=lhd (HB1.out.trans (hb2.mono HB1.out.size));clear ho hb2;go_wp2_with fail;go_ret2
 exact⟨v,rfl,zko HO.out HB1.out.size,HB2.out⟩
theorem znI (t:Tr) (p:TP) (n:Int) (w:World) (ht:TrM w t p):Calls Tryz.prog 363 #[p.v t,.int .i64 n] w fun e W'=>e=.returned (.tuple #[.int .i64 (znB t n).1,.int .i64 (znB t n).2.1,.int .i64 (znB t n).2.2])∧Below w.heap.size w W':=by
 obtain⟨a1,k1,a2,k2,a3,k3,a4,k4,e,-,-,e3,-,hk3,hm3⟩:=ht.open;unfold maxLen at hm3;have hb1:Below w.heap.size w (w.alloc (.cells (boxT t a1 a2 a3 a4 k1 k2 k3 k4) 148)):=(Below.refl _ _).alloc (Nat.le_refl _) _;have hX:=zas.fresh w (boxT t a1 a2 a3 a4 k1 k2 k3 k4) 148;have hT:=ht.below hb1;have hlt:w.heap.size<(w.alloc (.cells (boxT t a1 a2 a3 a4 k1 k2 k3 k4) 148)).heap.size:=by simp
 have hH:=znO t p n 0 0 0 _ hT;rw[e]at hH⊢;by_cases hh:hasS t n 0 0 0=true
 ·obtain⟨h0,h1,-⟩:=zfJ.1 hh;obtain⟨j,rfl⟩:∃j:Nat,n=(j:Int):=⟨n.toNat,by omega⟩;have hj:j<p.M.length:=by rw[ht.len];omega
  have HR:=lhd (show znB t (j:Int)=(p.M[j].1.1,p.M[j].1.2.1,0)by unfold znB;rw[if_pos hh,ht.sg hj]);have hj2:j<t.G.length:=by omega
  rw[hh]at hH;rw[HR.out];have hsg:=hT.g;rw[e3]at hsg;have HSG:=lhd hsg;have HB1:=lhd hb1;have HX:=lhd hX;have HH:=lhd hH;clear ht hT hX hb1 hh h0 h1 e e3 hH hsg;go_enter Tryz.func363,Tryz.ntmps363;go_wp2_with fail;generalize w.alloc (.cells (boxT t a1 a2 a3 a4 k1 k2 k3 k4) 148)=w1 at*;refine HH.out.mono ?_;rintro e w2 ⟨rfl,hb2⟩;have HB2:=lhd (HB1.out.trans (hb2.mono HB1.out.size));have hX2:=HX.out.below hb2 hlt;obtain⟨b,o,rfl,d0,d1,d2,hd⟩:=(HSG.out.below hb2).at hj;have p0:=hX2.cell (j:=0) rfl;have p1:=hX2.cell (j:=1) rfl;have p2:=hX2.cell (j:=2) rfl;have p3:=hX2.cell (j:=3) rfl;have p4:=hX2.cell (j:=4) rfl;have p5:=hX2.cell (j:=5) rfl;have p6:=hX2.cell (j:=6) rfl;have p7:=hX2.cell (j:=7) rfl;have p8:=hX2.cell (j:=8) rfl;clear hb2 hX2 d2 hd;go_wp2_with fail;go_quiet (fail);go_wp2_with fail;go_ret3
  exact⟨rfl,zbz HB2.out _⟩
 ·have hf:hasS t n 0 0 0=false:=by simpa using hh
  have HR:=lhd (show znB t n=(0,0,2)by unfold znB;rw[if_neg hh]);rw[hf]at hH;rw[HR.out];have HB1:=lhd hb1;have HH:=lhd hH;clear ht hT hX hb1 hh hf e e3 hH;go_enter Tryz.func363,Tryz.ntmps363;go_wp2_with fail;refine HH.out.mono ?_;rintro e w2 ⟨rfl,hb2⟩;have HB2:=lhd (HB1.out.trans (hb2.mono HB1.out.size));clear hb2;go_wp2_with fail;go_ret3
  exact⟨rfl,HB2.out⟩
def stTy (k:Int):Int:=if k=0 then 17 else if k=1 then 3 else if k=2 then 6 else 0
def stV1 (i:Nat) (s:Sg):Vr:=⟨[97+UInt8.ofNat i],stTy s.1,-1,i,false,0,0⟩
def stVs:Nat→List Sg→List Vr
 |_,[]=> []
 |i,s::B=>stV1 i s::stVs (i+1) B
def stT (t:Tr) (B:List Sg):Tr:=⟨0,[],[],[],[],stVs 0 B,B,t.P,t.en⟩
theorem zod (s:Sg):∀(B:List Sg) (i:Nat),stVs i (B++ [s])=stVs i B++ [stV1 (i+B.length) s]
 | [],_=>rfl
 |b::B,i=>by
  rw[List.cons_append,stVs,zod s B (i+1),stVs,List.length_cons,show i+1+B.length=i+(B.length+1)by omega];rfl
theorem zoa:∀(B:List Sg) (i:Nat),(stVs i B).length=B.length
 | [],_=>rfl
 |b::B,i=>by rw[stVs,List.length_cons,zoa B (i+1)];rfl
theorem zob:∀{B:List Sg} {i:Nat} {v:Vr},v∈stVs i B→∃(j:Nat) (s:Sg),B[j]? =some s∧v=stV1 (i+j) s
 | [],_,v,h=>by cases h
 |b::B,i,v,h=>by
  rcases List.mem_cons.1 h with rfl|h
  ·exact⟨0,b,rfl,rfl⟩
  ·obtain⟨j,s,h1,h2⟩:=zob h;exact⟨j+1,s,by simpa using h1,by rw[h2,show i+1+j=i+(j+1)by omega]⟩
theorem zn9:∀(B:List Sg) (i:Nat),(stVs i B).map zqE=(List.range' i B.length).map fun j=>((-1,[97+UInt8.ofNat j],false,0,0):VrK)
 | [],_=>rfl
 |b::B,i=>by rw[stVs,List.map_cons,zn9 B (i+1),List.length_cons,List.range'_succ];rfl
theorem zoc:∀(B:List Sg) (i:Nat),seqN i (stVs i B)=some (i+B.length)
 | [],_=>rfl
 |b::B,i=>by
  rw[stVs,seqN,if_neg (show ¬(i:Int)<(stV1 i b).sg from by show ¬(i:Int)<(i:Int);omega),if_pos (show(stV1 i b).sg=(i:Int)from rfl),zoc B (i+1),List.length_cons,show i+1+B.length=i+(B.length+1)by omega]
theorem zha:∀n,n≤8→((List.range' 0 n).map fun j=>((-1,[97+UInt8.ofNat j],false,0,0):VrK)).Nodup:=by
 intro n hn;have:n=0∨n=1∨n=2∨n=3∨n=4∨n=5∨n=6∨n=7∨n=8:=by omega
 rcases this with rfl|rfl|rfl|rfl|rfl|rfl|rfl|rfl|rfl<;>decide+kernel
theorem ziw:∀i,i<8→ziu [97+UInt8.ofNat i]=true:=by decide+kernel
theorem zn8 (k:Int):0≤stTy k∧stTy k≤18:=by
 unfold stTy;by_cases h0:k=0
 ·rw[if_pos h0];decide
 by_cases h1:k=1
 ·rw[if_neg h0,if_pos h1];decide
 by_cases h2:k=2
 ·rw[if_neg h0,if_neg h1,if_pos h2];decide
 ·rw[if_neg h0,if_neg h1,if_neg h2];decide
theorem zhe {k n:Int} (h:vt k n=true):zhd (stTy k)=k:=by
 have:k=0∨k=1∨k=2∨k=3:=by
  unfold vt at h;simp only[Bool.or_eq_true,Bool.and_eq_true,decide_eq_true_iff]at h;omega
 rcases this with rfl|rfl|rfl|rfl<;>decide
theorem znT:∀(B:List Sg) (i:Nat),Srt (fun v:Vr=>v.sc) (stVs i B)
 | [],_=>List.Pairwise.nil
 |b::B,i=>by
  refine List.Pairwise.cons (fun v hv=>?_) (znT B (i+1));obtain⟨j,s,-,rfl⟩:=zob hv;exact Int.le_refl _
theorem zcy {B:List Sg} (hl:B.length≤8):zcw [] (stVs 0 B)=0:=by
 have hm:∀v∈stVs 0 B,∃(j:Nat) (s:Sg),j<8∧v=stV1 j s:=fun v hv=>by
  obtain⟨j,s,h1,h2⟩:=zob hv;have:=(List.getElem?_eq_some_iff.1 h1).1;exact⟨j,s,by omega,by rw[h2,Nat.zero_add]⟩
 unfold zcw;rw[if_neg (by rw[zoa];simp;omega),if_neg,if_neg (by simp),if_neg,if_neg,if_neg,if_neg]
 ·rw[Bool.or_eq_true];rintro(h|h)
  ·simp[uniq]at h
  ·have h2:=(zpJ (key:=zqE) (l:=stVs 0 B)).2 (by rw[zn9];exact zha _ hl);rw[h2]at h;cases h
 ·rw[List.any_eq_true];rintro⟨v,hv,h⟩;obtain⟨j,s,-,rfl⟩:=hm v hv;revert h
  unfold zlj stV1;simp
 ·rw[List.any_nil,Bool.false_or,List.any_eq_true];rintro⟨v,hv,h⟩;obtain⟨j,s,-,rfl⟩:=hm v hv;have:=zn8 s.1;rw[Bool.or_eq_true,decide_eq_true_iff,decide_eq_true_iff]at h;have h:stTy s.1<0∨18<stTy s.1:=h;omega
 ·rw[List.any_nil,Bool.false_or,List.any_eq_true];rintro⟨v,hv,h⟩;obtain⟨j,s,hj,rfl⟩:=hm v hv;rw[show(stV1 j s).nm=[97+UInt8.ofNat j]from rfl,ziw j hj]at h;cases h
 ·unfold zdD;rw[Bool.not_eq_false,List.zipIdx_nil,List.all_nil,Bool.true_and,List.all_eq_true];intro v hv;obtain⟨j,s,-,rfl⟩:=hm v hv;simp[stV1]
theorem zmD {G:List Sg} {j:Nat} {s:Sg} (h:G[j]? =some s):sgI G (j:Int)=s:=by
 unfold sgI;rw[Int.toNat_natCast,List.getD,h];rfl
theorem zdb {c:Nat}:∀{B:List Sg},(∀s∈B,s.2.2.length≤c)→zda B≤B.length*c
 | [],_=>by simp[zda]
 |b::B,h=>by
  have ih:=zdb (B:=B) fun s hs=>h s (List.mem_cons_of_mem _ hs);have h1:=h b List.mem_cons_self;unfold zda at ih⊢;rw[List.map_cons,List.sum_cons,List.length_cons,Nat.succ_mul];omega
theorem zn7 {t:Tr} (ht:zqu t) {B:List Sg} (hm:∀s∈B,s∈t.G) (hl:B.length≤8) (hc:∀s∈B,s.2.2.length≤500):zqu (stT t B):=by
 have h:=ValidR.of ht;refine ValidR.valid ⟨by show ¬((0:Int)< -15∨2<(0:Int));omega,show(zrg []&&zrg []&&zrg [])=true from by decide,⟨B.length,?_⟩,by show B.length≤64;omega,h.lo,h.hi,h.p,?_,?_,fun s hs=>h.s s (hm s hs),h.g,fun g hg s hs=>h.q g hg s (hm s hs),?_,?_⟩
 ·refine⟨zcy hl,fun i hi=>by simp[stT]at hi,znT B 0,?_⟩;have:=zoc B 0;rwa [Nat.zero_add]at this
 ·intro v hv;obtain⟨j,s,h1,rfl⟩:=zob hv;have hj:=(List.getElem?_eq_some_iff.1 h1).1;rw[Nat.zero_add];refine⟨by show(j:Int)<(B.length:Int);omega,?_⟩;unfold fitE;rw[show(stV1 j s).sg=(j:Int)from rfl,show(stT t B).G=B from rfl,zmD h1];have hk:=zhe (zoI.1 (h.s s (hm s (List.mem_of_getElem? h1)))).1;rw[if_neg,if_neg (by simp[stV1])];rintro(h|h)
  ·exact h hk.symm
  ·simp[stV1]at h
 ·have h1:=zoc B 0;rw[Nat.zero_add]at h1;refine zmt (stVs 0 B) 0 B.length (fun v hv=>?_) h1;obtain⟨j,s,-,rfl⟩:=zob hv;show(0:Int)≤((0+j:Nat):Int);omega
 ·have:=zdb hc;show zda B≤4096;omega
 ·refine zhu B (-1) (by have:=h.lo;show(-1:Int)≤t.en;omega) fun s hs c hcc=>?_;have:=(zht t.G (-1)).2 s (hm s hs) c hcc;have:=h.ls;show c.1≤t.en;omega
open Go.Joins Go.ChangeShapes Go.WideShapes Go.RowKit Go.Deep
abbrev wfI (x:Int):Prop:=(Lit.int .i64 x).wf=true
section
variable {H : Type} {enc : TypeId × Value → H} {w : World} {base : Nat} {spare : Nat → Bool} {held : Bool} {n : Nat} {v : Value} {z : DataW H × List MemPlace}
theorem zhF (h:DataW.trod enc Tryz.prog w base spare held n 3 [v]=some z):∃x:Int,v=.int .i64 x∧wfI x:=by
 obtain⟨x,e,-,hw⟩:=DataW.trod_int Tryz.underlying3 h;injection e with e;exact⟨x,e,hw⟩
end
theorem zpb {cs:List Value} (h:cs.length=3):∃a b c,cs=[a,b,c]:=by
 match cs,h with
 | [a,b,c],_=>exact⟨a,b,c,rfl⟩
theorem two {cs:List Value} (h:cs.length=2):∃a b,cs=[a,b]:=by
 match cs,h with
 | [a,b],_=>exact⟨a,b,rfl⟩
theorem zmA {cs:List Value} (h:cs.length=7):∃a b c d e f g,cs=[a,b,c,d,e,f,g]:=by
 match cs,h with
 | [a,b,c,d,e,f,g],_=>exact⟨a,b,c,d,e,f,g,rfl⟩
theorem nine {cs:List Value} (h:cs.length=9):∃a b c d e f g i j,cs=[a,b,c,d,e,f,g,i,j]:=by
 match cs,h with
 | [a,b,c,d,e,f,g,i,j],_=>exact⟨a,b,c,d,e,f,g,i,j,rfl⟩
section
variable {H : Type} {enc : TypeId × Value → H} {w : World} {base : Nat} {spare : Nat → Bool} {held : Bool} {fuel : Nat} {cs : List Value} {x : DataW H × List MemPlace}
theorem zjP (h:DataW.trod enc Tryz.prog w base spare held fuel 22 cs=some x) (hz:∀m∈x.1.weights Tryz.prog 22,m≤reachBytes):
 ∃(v:Value) (l:List Sc),cs=[v]∧SlR w v l.length (scs l)∧∀r∈l,r.1.length≤140737488351232∧wfI r.2.1∧wfI r.2.2:=
 zjN (encT:=scC) (k:=3) (fun _=>rfl) (by decide) (Q:=fun r:Sc=>r.1.length≤140737488351232∧wfI r.2.1∧wfI r.2.2) Tryz.underlying22 (by kernel_rfl) (fun n cs' y hl ht hy=>by
  obtain⟨a,b,c,rfl⟩:=zpb hl;obtain⟨n0,z0,h0,w0⟩:=fld Tryz.underlying55 ht hy 0 rfl (show Tryz.prog.cellsOf 9=1 by kernel_rfl) rfl;obtain⟨n1,z1,h1,-⟩:=fld Tryz.underlying55 ht hy 1 rfl (show Tryz.prog.cellsOf 3=1 by kernel_rfl) rfl;obtain⟨n2,z2,h2,-⟩:=fld Tryz.underlying55 ht hy 2 rfl (show Tryz.prog.cellsOf 3=1 by kernel_rfl) rfl;obtain⟨x0,rfl,q0⟩:=zhG h0 w0;obtain⟨x1,rfl,q1⟩:=zhF h1;obtain⟨x2,rfl,q2⟩:=zhF h2;exact⟨(x0,x1,x2),rfl,q0,q1,q2⟩) h hz
theorem zjS (h:DataW.trod enc Tryz.prog w base spare held fuel 23 cs=some x) (hz:∀m∈x.1.weights Tryz.prog 23,m≤reachBytes):
 ∃(v:Value) (l:List Vr),cs=[v]∧SlR w v l.length (vrs l)∧∀r∈l,r.nm.length≤140737488351232∧wfI r.ty∧wfI r.sc∧wfI r.sg∧wfI r.mb∧wfI r.lb:=
 zjN (encT:=vrC) (k:=7) (fun _=>rfl) (by decide) (Q:=fun r:Vr=>r.nm.length≤140737488351232∧wfI r.ty∧wfI r.sc∧wfI r.sg∧wfI r.mb∧wfI r.lb) Tryz.underlying23 (by kernel_rfl) (fun n cs' y hl ht hy=>by
  obtain⟨a,b,c,d,e,f,g,rfl⟩:=zmA hl;obtain⟨n0,z0,h0,w0⟩:=fld Tryz.underlying42 ht hy 0 rfl (show Tryz.prog.cellsOf 9=1 by kernel_rfl) rfl;obtain⟨n1,z1,h1,-⟩:=fld Tryz.underlying42 ht hy 1 rfl (show Tryz.prog.cellsOf 3=1 by kernel_rfl) rfl;obtain⟨n2,z2,h2,-⟩:=fld Tryz.underlying42 ht hy 2 rfl (show Tryz.prog.cellsOf 3=1 by kernel_rfl) rfl;obtain⟨n3,z3,h3,-⟩:=fld Tryz.underlying42 ht hy 3 rfl (show Tryz.prog.cellsOf 3=1 by kernel_rfl) rfl;obtain⟨n4,z4,h4,-⟩:=fld Tryz.underlying42 ht hy 4 rfl (show Tryz.prog.cellsOf 4=1 by kernel_rfl) rfl;obtain⟨n5,z5,h5,-⟩:=fld Tryz.underlying42 ht hy 5 rfl (show Tryz.prog.cellsOf 3=1 by kernel_rfl) rfl;obtain⟨n6,z6,h6,-⟩:=fld Tryz.underlying42 ht hy 6 rfl (show Tryz.prog.cellsOf 3=1 by kernel_rfl) rfl;obtain⟨x0,rfl,q0⟩:=zhG h0 w0;obtain⟨x1,rfl,q1⟩:=zhF h1;obtain⟨x2,rfl,q2⟩:=zhF h2;obtain⟨x3,rfl,q3⟩:=zhF h3;obtain⟨x4,rfl⟩:=zhE h4;obtain⟨x5,rfl,q5⟩:=zhF h5;obtain⟨x6,rfl,q6⟩:=zhF h6;exact⟨⟨x0,x1,x2,x3,x4,x5,x6⟩,rfl,q0,q1,q2,q3,q5,q6⟩) h hz
theorem zjO (h:DataW.trod enc Tryz.prog w base spare held fuel 25 cs=some x) (hz:∀m∈x.1.weights Tryz.prog 25,m≤reachBytes):
 ∃(v:Value) (l:List Gp),cs=[v]∧SlR w v l.length (gps l)∧∀r∈l,wfI r.1∧wfI r.2:=
 zjN (encT:=gpC) (k:=2) (fun _=>rfl) (by decide) (Q:=fun r:Gp=>wfI r.1∧wfI r.2) Tryz.underlying25 (by kernel_rfl) (fun n cs' y hl ht hy=>by
  obtain⟨a,b,rfl⟩:=two hl;obtain⟨n0,z0,h0,-⟩:=fld Tryz.underlying57 ht hy 0 rfl (show Tryz.prog.cellsOf 3=1 by kernel_rfl) rfl;obtain⟨n1,z1,h1,-⟩:=fld Tryz.underlying57 ht hy 1 rfl (show Tryz.prog.cellsOf 3=1 by kernel_rfl) rfl;obtain⟨x0,rfl,q0⟩:=zhF h0;obtain⟨x1,rfl,q1⟩:=zhF h1;exact⟨(x0,x1),rfl,q0,q1⟩) h hz
theorem zjM (h:DataW.trod enc Tryz.prog w base spare held fuel 43 cs=some x) (hz:∀m∈x.1.weights Tryz.prog 43,m≤reachBytes):
 ∃(v:Value) (l:List Ch),cs=[v]∧SlR w v l.length (chs l)∧∀r∈l,wfI r.1∧r.2.size≤140737488351232:=
 zjN (encT:=encC) (k:=2) (fun _=>rfl) (by decide) (Q:=fun r:Ch=>wfI r.1∧r.2.size≤140737488351232) Tryz.underlying43 (by kernel_rfl) (fun n cs' y hl ht hy=>by
  obtain⟨a,b,rfl⟩:=two hl;obtain⟨n0,z0,h0,-⟩:=fld Tryz.underlying53 ht hy 0 rfl (show Tryz.prog.cellsOf 3=1 by kernel_rfl) rfl;obtain⟨n1,z1,h1,w1⟩:=fld Tryz.underlying53 ht hy 1 rfl (show Tryz.prog.cellsOf 9=1 by kernel_rfl) rfl;obtain⟨x0,rfl,q0⟩:=zhF h0;obtain⟨x1,rfl,q1⟩:=zhG h1 w1;exact⟨(x0,bsB x1),rfl,q0,q1⟩) h hz
theorem zjQ (h:DataW.trod enc Tryz.prog w base spare held fuel 24 cs=some x) (hz:∀m∈x.1.weights Tryz.prog 24,m≤reachBytes):
 ∃(v:Value) (L:List (Sg×Value)),cs=[v]∧Sigs w v L∧∀r∈L,wfI r.1.1∧wfI r.1.2.1∧∀c∈r.1.2.2,wfI c.1∧c.2.size≤140737488351232:=by
 obtain⟨v,L,rfl,hs,hq⟩:=zjN (w:=w) (encT:=sgC) (k:=3) (fun _=>rfl) (by decide) (Q:=fun r:Sg×Value=>SlR w r.2 r.1.2.2.length (chs r.1.2.2)∧wfI r.1.1∧wfI r.1.2.1∧∀c∈r.1.2.2,wfI c.1∧c.2.size≤140737488351232) Tryz.underlying24 (by kernel_rfl) (fun n cs' y hl ht hy=>by
  obtain⟨a,b,c,rfl⟩:=zpb hl;obtain⟨n0,z0,h0,-⟩:=fld Tryz.underlying45 ht hy 0 rfl (show Tryz.prog.cellsOf 3=1 by kernel_rfl) rfl;obtain⟨n1,z1,h1,-⟩:=fld Tryz.underlying45 ht hy 1 rfl (show Tryz.prog.cellsOf 3=1 by kernel_rfl) rfl;obtain⟨n2,z2,h2,w2⟩:=fld Tryz.underlying45 ht hy 2 rfl (show Tryz.prog.cellsOf 43=1 by kernel_rfl) rfl;obtain⟨x0,rfl,q0⟩:=zhF h0;obtain⟨x1,rfl,q1⟩:=zhF h1;obtain⟨u,l,e2,hsl,q2⟩:=zjM h2 w2;injection e2 with e2 _;subst e2;exact⟨((x0,x1,l),_),rfl,hsl,q0,q1,q2⟩) h hz
 exact⟨v,L,rfl,⟨hs,fun x hx=>(hq x hx).1⟩,fun r hr=>(hq r hr).2⟩
structure InT (t:Tr):Prop where
 tx:t.dt.length≤140737488351232∧t.vn.length≤140737488351232∧t.cm.length≤140737488351232
 i:wfI t.sc∧wfI t.en
 s:∀r∈t.S,r.1.length≤140737488351232∧wfI r.2.1∧wfI r.2.2
 v:∀r∈t.V,r.nm.length≤140737488351232∧wfI r.ty∧wfI r.sc∧wfI r.sg∧wfI r.mb∧wfI r.lb
 g:∀r∈t.G,wfI r.1∧wfI r.2.1∧∀c∈r.2.2,wfI c.1∧c.2.size≤140737488351232
 p:∀r∈t.P,wfI r.1∧wfI r.2
theorem zjR (h:DataW.trod enc Tryz.prog w base spare held fuel 27 cs=some x) (hz:∀m∈x.1.weights Tryz.prog 27,m≤reachBytes) (hl:cs.length=9):
 ∃(t:Tr) (p:TP),cs=[.int .i64 t.sc,.string (bsB t.dt),.string (bsB t.vn),.string (bsB t.cm),p.vs,p.vv,p.vg,p.vp,.int .i64 t.en]∧TrM w t p∧InT t:=by
 obtain⟨a,b,c,d,e,f,g,i,j,rfl⟩:=nine hl;obtain⟨n0,z0,h0,w0⟩:=fld Tryz.underlying27 h hz 0 rfl (show Tryz.prog.cellsOf 3=1 by kernel_rfl) rfl;obtain⟨n1,z1,h1,w1⟩:=fld Tryz.underlying27 h hz 1 rfl (show Tryz.prog.cellsOf 9=1 by kernel_rfl) rfl;obtain⟨n2,z2,h2,w2⟩:=fld Tryz.underlying27 h hz 2 rfl (show Tryz.prog.cellsOf 9=1 by kernel_rfl) rfl;obtain⟨n3,z3,h3,w3⟩:=fld Tryz.underlying27 h hz 3 rfl (show Tryz.prog.cellsOf 9=1 by kernel_rfl) rfl;obtain⟨n4,z4,h4,w4⟩:=fld Tryz.underlying27 h hz 4 rfl (show Tryz.prog.cellsOf 22=1 by kernel_rfl) rfl;obtain⟨n5,z5,h5,w5⟩:=fld Tryz.underlying27 h hz 5 rfl (show Tryz.prog.cellsOf 23=1 by kernel_rfl) rfl;obtain⟨n6,z6,h6,w6⟩:=fld Tryz.underlying27 h hz 6 rfl (show Tryz.prog.cellsOf 24=1 by kernel_rfl) rfl;obtain⟨n7,z7,h7,w7⟩:=fld Tryz.underlying27 h hz 7 rfl (show Tryz.prog.cellsOf 25=1 by kernel_rfl) rfl;obtain⟨n8,z8,h8,-⟩:=fld Tryz.underlying27 h hz 8 rfl (show Tryz.prog.cellsOf 3=1 by kernel_rfl) rfl;obtain⟨x0,rfl,q0⟩:=zhF h0;obtain⟨x1,rfl,q1⟩:=zhG h1 w1;obtain⟨x2,rfl,q2⟩:=zhG h2 w2;obtain⟨x3,rfl,q3⟩:=zhG h3 w3;obtain⟨v4,l4,e4,s4,q4⟩:=zjP h4 w4;injection e4 with e4 _;obtain⟨v5,l5,e5,s5,q5⟩:=zjS h5 w5;injection e5 with e5 _;obtain⟨v6,l6,e6,s6,q6⟩:=zjQ h6 w6;injection e6 with e6 _;obtain⟨v7,l7,e7,s7,q7⟩:=zjO h7 w7;injection e7 with e7 _;obtain⟨x8,rfl,q8⟩:=zhF h8;subst e4 e5 e6 e7
 exact⟨⟨x0,x1,x2,x3,l4,l5,l6.map Prod.fst,l7,x8⟩,⟨_,_,_,_,l6⟩,rfl,⟨s4,s5,s6,s7,rfl⟩,⟨q1,q2,q3⟩,⟨q0,q8⟩,q4,q5,fun r hr=>by
  obtain⟨y,hy,rfl⟩:=List.mem_map.1 hr;exact q6 y hy,q7⟩
theorem za9 {base':Nat} {v:Value} {d:DataW H} {ps:List MemPlace} (hk:Value.okWide Tryz.prog w .any base' 27 v) (h:DataW.Trod enc Tryz.prog w base spare held 27 v d ps) (hz:∀m∈d.weights Tryz.prog 27,m≤reachBytes):
 ∃(t:Tr) (p:TP),v=p.v t∧TrM w t p∧InT t:=by
 obtain⟨cs,rfl,hsz⟩:=okWide_struct Tryz.underlying27 hk;obtain⟨fuel,hf⟩:=h;have hcl:(Value.agg cs).cells=cs:=by simp[Value.cells]
 rw[hcl]at hf
 have hn:cs.toList.length=9:=by
  rw[Array.length_toList,hsz];kernel_rfl
 obtain⟨t,p,e,ht,hi⟩:=zjR hf hz hn;refine⟨t,p,?_,ht,hi⟩;unfold TP.v;exact congrArg Value.agg (Array.toList_inj.1 e)
end
end Go.Proofs.YtbiadennhnokhaaGreatDoor
