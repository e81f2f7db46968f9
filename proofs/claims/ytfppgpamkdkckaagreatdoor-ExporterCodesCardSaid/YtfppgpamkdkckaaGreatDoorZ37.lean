import Derived.Test.YtfppgpamkdkckaaGreatDoorZ00
import Derived.Test.YtfppgpamkdkckaaGreatDoorZ25
import Derived.Test.YtfppgpamkdkckaaGreatDoorZ27
import Derived.Test.YtfppgpamkdkckaaGreatDoorZ29
set_option maxRecDepth 100000
set_option maxHeartbeats 16000000
namespace Go.Proofs.YtfppgpamkdkckaaGreatDoor
open Go.RowKit Go.WideMaps Go.Shelf
attribute [local go_sem] Oper.semAt_some
set_option linter.unusedSimpArgs false
abbrev putC (okb yb:Nat):Value:=.func (.func 82) #[] #[.pointer (some ⟨okb,0,none⟩),.pointer (some ⟨yb,0,none⟩)]
theorem zfv (W:World) (lp:Nat):∃W5,W5=((((W.alloc (.cells #[.func (.yield lp) #[] #[]] 134)).alloc (.map #[] 0)).alloc (.cells #[.map (some (W.heap.size+1))] 135)).alloc (.cells #[.bool true] 4)).alloc (.cells #[putC (W.heap.size+1+1+1) W.heap.size] 136)∧
 MB W5 lp W.heap.size (W.heap.size+1+1+1) (W.heap.size+1+1) (W.heap.size+1+1+1+1) (W.heap.size+1)∧KMap encI W5 (W.heap.size+1) 0 (fun _=>none)∧Below W.heap.size W W5:=by
 refine⟨_,rfl,⟨?_,?_,?_,?_⟩,?_,?_⟩
 ·show(((((W.heap.push _).push _).push _).push _).push _)[_]? =_;simp only[Array.getElem?_push,Array.size_push];repeat (first|rw[if_pos trivial]|rw[if_neg (by omega)]|rw[if_pos (by omega)])
 ·show(((((W.heap.push _).push _).push _).push _).push _)[_]? =_;simp only[Array.getElem?_push,Array.size_push];repeat (first|rw[if_pos trivial]|rw[if_neg (by omega)]|rw[if_pos (by omega)])
 ·show(((((W.heap.push _).push _).push _).push _).push _)[_]? =_;simp only[Array.getElem?_push,Array.size_push];repeat (first|rw[if_pos trivial]|rw[if_neg (by omega)]|rw[if_pos (by omega)])
 ·show(((((W.heap.push _).push _).push _).push _).push _)[_]? =_;simp only[Array.getElem?_push,Array.size_push];repeat (first|rw[if_pos trivial]|rw[if_neg (by omega)]|rw[if_pos (by omega)])
 ·have:=KMap.made encI (W.alloc (.cells #[.func (.yield lp) #[] #[]] 134));rw[World.size_alloc]at this;refine this.same ?_;show(((((W.heap.push _).push _).push _).push _).push _)[_]? =((W.heap.push _).push _)[_]?;simp only[Array.getElem?_push,Array.size_push];repeat (first|rw[if_pos trivial]|rw[if_neg (by omega)]|rw[if_pos (by omega)])
 ·exact(((((Below.refl _ W).alloc (Nat.le_refl _) _).alloc (by simp<;>omega) _).alloc (by simp<;>omega) _).alloc (by simp<;>omega) _).alloc (by simp<;>omega) _
theorem ziW (t:Tr) (x:Int):momE t x=(0,x,[],[])::((if x=0 then(4,0,[],[])::upX (p1E (inP t.P x)) t.G t.G.length else [])++((if onE t.P x=true then(3,0,[],[])::upX (p2E x) t.G t.G.length else [])++
 (upX (p3E x (decide (x=0)) (onE t.P x) (inP t.P x)) t.G t.G.length++(if offE t.P x=true then [(2,0,[],[])]else [])))):=rfl
theorem zrK (f:Nat→Sg→List Rc) (G:List Sg) (k:Nat):upX f G (k+1)=upX f G k++f k (G.getD k (0,0,[])):=by
 unfold upX;rw[List.range_succ,List.flatMap_append,List.flatMap_cons,List.flatMap_nil,List.append_nil]
theorem zrJ (f:Nat→Sg→List Rc) (G:List Sg) (k:Nat):∀m,∃R,upX f G (k+m)=upX f G k++R
 |0=>⟨[],by simp⟩
 |m+1=>by
  obtain⟨R,h⟩:=zrJ f G k m;exact⟨R++f (k+m) (G.getD (k+m) (0,0,[])),by rw[←Nat.add_assoc,zrK,h,List.append_assoc]⟩
theorem zrG (f:Nat→Sg→List Rc) {G:List Sg} {k:Nat} (h:k<G.length):∃R,upX f G G.length=upX f G k++(f k G[k]++R):=by
 obtain⟨R,hR⟩:=zrJ f G (k+1) (G.length-(k+1));rw[show k+1+(G.length-(k+1))=G.length by omega,zrD f h]at hR;exact⟨R,by rw[hR,List.append_assoc]⟩
def c1E (G:List Sg) (k i:Nat):Bool:=decide (i<k)&&!decide ((G.getD i (0,0,[])).1=3)
def c2E (G:List Sg) (k i:Nat):Bool:=decide (i<k)&&decide ((G.getD i (0,0,[])).1=0)
theorem zbK {G:List Sg} {k:Nat} (h:k<G.length) (hk:G[k].1≠3) (i:Nat):c1E G (k+1) i=(c1E G k i||decide (i=k)):=by
 unfold c1E;by_cases hi:i=k
 ·subst hi;rw[show G.getD i (0,0,[])=G[i]by simp[h]];simp[hk]
 ·rw[show decide (i<k+1)=decide (i<k)by by_cases h:i<k<;>simp[h]<;>omega];simp[hi]
theorem zbL {G:List Sg} {k:Nat} (h:k<G.length) (hk:G[k].1=3) (i:Nat):c1E G (k+1) i=c1E G k i:=by
 unfold c1E;by_cases hi:i=k
 ·subst hi;rw[show G.getD i (0,0,[])=G[i]by simp[h]];simp[hk]
 ·rw[show decide (i<k+1)=decide (i<k)by by_cases h:i<k<;>simp[h]<;>omega]
theorem zbM {G:List Sg} {k:Nat} (h:k<G.length) (hk:G[k].1=0) (i:Nat):c2E G (k+1) i=(c2E G k i||decide (i=k)):=by
 unfold c2E;by_cases hi:i=k
 ·subst hi;rw[show G.getD i (0,0,[])=G[i]by simp[h]];simp[hk]
 ·rw[show decide (i<k+1)=decide (i<k)by by_cases h:i<k<;>simp[h]<;>omega];simp[hi]
theorem zbN {G:List Sg} {k:Nat} (h:k<G.length) (hk:G[k].1≠0) (i:Nat):c2E G (k+1) i=c2E G k i:=by
 unfold c2E;by_cases hi:i=k
 ·subst hi;rw[show G.getD i (0,0,[])=G[i]by simp[h]];simp[hk]
 ·rw[show decide (i<k+1)=decide (i<k)by by_cases h:i<k<;>simp[h]<;>omega]
theorem zbS {G:List Sg} {k:Nat} (h:k<G.length) (z on:Bool):((z&&c1E G G.length k)||(on&&c2E G G.length k))=gotE z on G[k]:=by
 unfold c1E c2E gotE;rw[show G.getD k (0,0,[])=G[k]by simp[h]];simp[h]
theorem zlN {off:Bool} {n:Nat} {s:Sg} (h:s.1=3):p1E off n s=[]:=if_pos h
theorem zlO {off:Bool} {n:Nat} {s:Sg} (h:s.1≠3) (h2:s.1=0∧off=true):p1E off n s=[chE n (vi s.1 s.2.1)]:=by unfold p1E;rw[if_neg h,if_pos h2]
theorem zlL {off:Bool} {n:Nat} {s:Sg} (h:s.1≠3) (h2:¬(s.1=0∧off=true)):p1E off n s=[chE n (atR s.1 s.2.1 s.2.2 0).1]:=by unfold p1E;rw[if_neg h,if_neg h2]
theorem ze7 (n:Nat) (hn:2≤n) (t:Tr) (M:List (Sg×Value)) (x:Int) (a1 a2 a3 a4:Option Addr) (k1 k2 k3 k4:Nat) (tb xb lp:Nat) (w0 W:World) (J:Nat→World→Prop)
 (hG:Glob w0) (hsg:Sigs w0 (.slice a3 t.G.length k3) M) (hM:M.map Prod.fst=t.G) (hgp:SlR w0 (.slice a4 t.P.length k4) t.P.length (gps t.P)) (hF:∀s∈t.G,Fit s.2.2) (hl:t.G.length≤1000) (hx:0≤x∧x≤1099511627776)
 (htb:W.heap[tb]? =some (.cells (boxT t a1 a2 a3 a4 k1 k2 k3 k4) 32 (0,0))) (hxb:W.heap[xb]? =some (.cells #[.int .i64 x] 3 (0,0))) (hbW:Below w0.heap.size w0 W)
 (hJ:∀k X Y,J k X→TurnM w0.heap.size 4 X Y→J k Y)
 (hY:∀k W1,J k W1→k<(momE t x).length→YieldAt Fence.wide (n-1) Tryz.prog lp (encR (momE t x) k) W1 fun e W'=>e=.returned (.bool true)∧J (k+1) W'∧Kq w0.heap.size W1 W') (h0:J 0 W):
 Calls Tryz.prog 81 #[.func (.yield lp) #[] #[],.pointer (some ⟨tb,0,none⟩),.pointer (some ⟨xb,0,none⟩)] W fun e W'=>(∃v,e=.returned v)∧J (momE t x).length W':=by
 obtain⟨W5,hW5,hmb0,hkm,hb5⟩:=zfv W lp
 have hMO:MO J (boxT t a1 a2 a3 a4 k1 k2 k3 k4) x tb xb lp W.heap.size (W.heap.size+1+1+1) (W.heap.size+1+1) (W.heap.size+1+1+1+1) (W.heap.size+1) w0 W5 0 0 (fun _=>none):=
  ⟨hbW.trans (hb5.mono hbW.size),(hb5.block _ (Array.getElem?_eq_some_iff.1 htb).1).trans htb,(hb5.block _ (Array.getElem?_eq_some_iff.1 hxb).1).trans hxb,hmb0,hkm,hJ _ _ _ h0 (.below hbW.size hb5)⟩
 obtain⟨yb,hyb⟩:∃b,b=W.heap.size:=⟨_,rfl⟩;obtain⟨mb,hmb⟩:∃b,b=W.heap.size+1:=⟨_,rfl⟩;obtain⟨gb,hgb⟩:∃b,b=W.heap.size+1+1:=⟨_,rfl⟩;obtain⟨okb,hokb⟩:∃b,b=W.heap.size+1+1+1:=⟨_,rfl⟩;obtain⟨pb,hpb⟩:∃b,b=W.heap.size+1+1+1+1:=⟨_,rfl⟩;rw[←hpb,←hokb,←hgb,←hmb,←hyb]at hMO;have hob:w0.heap.size≤okb∧w0.heap.size≤mb:=by have:=hbW.size;omega
 have HPUT:=lhd (fun(A R:List Rc) (r:Rc) (V:World) (cnt:Nat) (f:Int→Option Value) (hL:momE t x=A++r::R) (h:MO J (boxT t a1 a2 a3 a4 k1 k2 k3 k4) x tb xb lp yb okb gb pb mb w0 V A.length cnt f)=>h.put hn hL hJ hY hob.1);have HCHG:=lhd (fun(A R:List Rc) (i:Nat) (v:ByteArray) (V:World) (cnt:Nat) (f:Int→Option Value) (hL:momE t x=A++chE i v::R) (hi:i≤1000) (hc:cnt≤1000000) (h:MO J (boxT t a1 a2 a3 a4 k1 k2 k3 k4) x tb xb lp yb okb gb pb mb w0 V A.length cnt f)=>h.change hn hL hJ hY hob hi hc);have HLT:=lhd (fun(V V':World) (k cnt:Nat) (f:Int→Option Value) (h:MO J (boxT t a1 a2 a3 a4 k1 k2 k3 k4) x tb xb lp yb okb gb pb mb w0 V k cnt f) (hb:Below V.heap.size V V')=>h.later hJ hb);have HGL:=lhd hG;have HSG:=lhd hsg;have HMG:=lhd hM;have HGP:=lhd hgp;have HFT:=lhd hF;have HB0:=lhd hbW.size;obtain⟨L,hL⟩:∃L,L=momE t x:=⟨_,rfl⟩;have HL:=lhd (hL.trans (ziW t x));rw[←hL];rw[←hL]at HPUT HCHG;have HMO:=lhd hMO;have hmm:= @run_makeMap Tryz.prog;clear hG hsg hM hgp hF hJ hY h0 hmb0 hkm hb5 hbW htb hxb hMO hL hob;go_enter Tryz.func81,Tryz.ntmps81;go_upto_region 5 with fail;rw[←hW5,←hpb,←hokb,←hgb,←hmb,←hyb];clear hW5 hpb hokb hgb hmb hyb hmm;obtain⟨A0,hA0⟩:∃A:List Rc,A=[]:=⟨_,rfl⟩;have HM1:=lhd (show MO J (boxT t a1 a2 a3 a4 k1 k2 k3 k4) x tb xb lp yb okb gb pb mb w0 W5 0 0 (fun _=>none)from HMO.out);have hcT:W5.cell? ⟨tb,7,none⟩=some (.slice a4 t.P.length k4):=by rw[Lib.cell_of_heap HM1.out.t];rfl
 have hcX:=(zkV HM1.out.x).1;have HOF:=lhd (zqX _ t.P x W5 (HGP.out.below HM1.out.b));obtain⟨off,hoff⟩:∃b,b=inP t.P x:=⟨_,rfl⟩;rw[←hoff]at HOF HL;clear hoff hA0;go_wp2_with fail;refine HOF.out.mono ?_;rintro e W6 ⟨rfl,hb6⟩;have HM6:=lhd (HLT.out _ _ _ _ _ HM1.out hb6);have hcX:=(zkV HM6.out.x).1;have hcP:=(zkV HM6.out.q.p).1;have HP1:=lhd (HPUT.out [] _ (0,x,[],[]) W6 0 _ HL.out HM6.out);unfold rcV at HP1;clear hb6 hcT HM1 HOF HMO;go_wp2_with fail;refine HP1.out.mono ?_;rintro e W7 ⟨rfl,hm7⟩;have HM7:=lhd hm7;have hcX:=(zkV HM7.out.x).1;clear hm7 HP1 HM6 hcP;obtain⟨z,hz⟩:∃z,z=decide (x=0):=⟨_,rfl⟩;obtain⟨D,hD⟩:∃D:List Rc,D=(if x=0 then(4,0,[],[])::upX (p1E off) t.G t.G.length else []):=⟨_,rfl⟩;obtain⟨O,hO⟩:∃O:List Rc,O=(if onE t.P x=true then(3,0,[],[])::upX (p2E x) t.G t.G.length else []):=⟨_,rfl⟩;obtain⟨Q3,hQ3⟩:∃Q:List Rc,Q=upX (p3E x (decide (x=0)) (onE t.P x) off) t.G t.G.length:=⟨_,rfl⟩;obtain⟨E4,hE4⟩:∃E:List Rc,E=(if offE t.P x=true then [(2,0,[],[])]else []):=⟨_,rfl⟩;rw[←hD,←hO,←hQ3,←hE4]at HL;have HDD:=lhd hD;have HOO:=lhd hO;have HQ:=lhd hQ3;have HE:=lhd hE4;have HZ:=lhd hz;clear hD hO hQ3 hE4 hz;go_upto_if 28 with fail
 clear hcX;go_cut []from 9 to 64 (fun wc=>∃(cnt:Nat) (f:Int→Option Value),cnt≤t.G.length∧(∀i:Nat,f i=gv (z&&c1E t.G t.G.length i))∧MO J (boxT t a1 a2 a3 a4 k1 k2 k3 k4) x tb xb lp yb okb gb pb mb w0 wc ((0,x,[],[])::D).length cnt f)
 case first=>
  by_cases hx0:x=0
  rotate_left
  ·have hb:(x==0)=false:=by rw[beq_eq_false_iff_ne];exact hx0
   have HR:=lhd (show ∃(cnt:Nat) (f:Int→Option Value),cnt≤t.G.length∧(∀i:Nat,f i=gv (z&&c1E t.G t.G.length i))∧MO J (boxT t a1 a2 a3 a4 k1 k2 k3 k4) x tb xb lp yb okb gb pb mb w0 W7 ((0,x,[],[])::D).length cnt f from
    ⟨0,fun _=>none,Nat.zero_le _,fun i=>by rw[HZ.out,decide_eq_false hx0];rfl,by rw[HDD.out,if_neg hx0];exact HM7.out⟩)
   clear hx0;go_wp2_with fail;go_meet
   case rel=>exact HR.out
  have hb:(x==0)=true:=by rw[hx0];rfl
  have HL1:=lhd (show L=[(0,x,[],[])]++(4,0,[],[])::(upX (p1E off) t.G t.G.length++(O++(Q3++E4)))by rw[HL.out,HDD.out,if_pos hx0];rfl);have HP2:=lhd (HPUT.out [(0,x,[],[])] _ (4,0,[],[]) W7 0 _ HL1.out HM7.out);have hcP:=(zkV HM7.out.q.p).1;unfold rcV at HP2;have HX0:=lhd hx0;clear hx0;go_wp2_with fail;refine HP2.out.mono ?_;rintro e W8 ⟨rfl,hm8⟩;have HM8:=lhd hm8;have hc6:W8.cell? ⟨tb,6,none⟩=some (.slice a3 t.G.length k3):=by rw[Lib.cell_of_heap HM8.out.t];rfl
  clear hm8 HP2 hcP HM7;go_wp2_with fail;clear hc6;go_loopw [35] (fun vi wr=>∃(k cnt:Nat) (f:Int→Option Value),k≤t.G.length∧vi=.int .i64 k∧cnt≤k∧(∀i:Nat,f i=gv (c1E t.G k i))∧MO J (boxT t a1 a2 a3 a4 k1 k2 k3 k4) x tb xb lp yb okb gb pb mb w0 wr ((0,x,[],[])::(4,0,[],[])::upX (p1E off) t.G k).length cnt f) (fun vi _=>t.G.length-(intOf vi).toNat)
  case atStart=>exact⟨0,0,fun _=>none,Nat.zero_le _,rfl,Nat.le_refl _,fun i=>by unfold c1E gv;simp,HM8.out⟩
  case round=>
   obtain⟨k,cnt,f,hk,rfl,hcn,hf,hmo⟩:=hrel;have HM:=lhd hmo;have HF:=lhd hf;clear hmo hf HM8;by_cases hkl:k<t.G.length
   ·skip
    have hmk:k<M.length:=by rw[←HMG.out,List.length_map]at hkl;exact hkl
    have hml:M.length=t.G.length:=by rw[←HMG.out,List.length_map]
    have hsg2:=HSG.out.below HM.out.b;rw[←hml]at hsg2;obtain⟨b,o,rfl,d0,d1,d2,hd⟩:=hsg2.at hmk
    have hGk:t.G[k]=M[k].1:=by
     have:(M.map Prod.fst)[k]? =t.G[k]? :=by rw[HMG.out]
     rw[List.getElem?_map,List.getElem?_eq_getElem hmk,List.getElem?_eq_getElem hkl]at this;exact(Option.some.inj this).symm
    clear hsg2;obtain⟨R1,hR1⟩:=zrG (p1E off) hkl;rw[hGk]at hR1;have HC1:=lhd (fun h=>zbK (G:=t.G) hkl (by rw[hGk];exact h));have HC2:=lhd (fun h=>zbL (G:=t.G) hkl (by rw[hGk];exact h));have HUS:=lhd (show upX (p1E off) t.G (k+1)=upX (p1E off) t.G k++p1E off k M[k].1 by rw[zrD (p1E off) hkl,hGk]);have HFK:=lhd (HFT.out _ (List.getElem_mem hkl));rw[hGk]at HFK;clear hGk;have HD:=lhd (fun(V:World) (hV:Below wr.heap.size wr V)=>hd.below hV);generalize M[k]=xs at*;obtain⟨⟨kk,nn,l⟩,xv⟩:=xs;dsimp only at*;obtain⟨xa,xc,rfl,-,hxm⟩:=hd.shape;unfold maxLen at hxm;have hw':=zjk k (by omega);have hk0i:(0:Int)≤(k:Int):=by omega
    have hk1i:(k:Int)<(t.G.length:Int):=by omega
    clear hd hmk hml;have HR1:=lhd hR1;clear hR1;have hbx:Below wr.heap.size wr (wr.alloc (.cells #[.int .i64 kk,.int .i64 nn,.slice xa l.length xc] 60)):=(Below.refl _ _).alloc (Nat.le_refl _) _;have HMB:=lhd (HLT.out _ _ _ _ _ HM.out hbx);have HX:=lhd (zan.fresh wr #[.int .i64 kk,.int .i64 nn,.slice xa l.length xc] 60);have HBX:=lhd hbx;have HZX:=lhd (show wr.heap.size<(wr.alloc (.cells #[.int .i64 kk,.int .i64 nn,.slice xa l.length xc] 60)).heap.size by simp);clear hbx;go_upto_region 13 with fail;generalize wr.alloc (.cells #[.int .i64 kk,.int .i64 nn,.slice xa l.length xc] 60)=wx at*;obtain⟨bx,hbx⟩:∃b,b=wr.heap.size:=⟨_,rfl⟩;rw[←hbx]at HX HZX⊢;clear d0 d1 d2 hbx;have hc0:=HX.out.cell (j:=0) rfl;by_cases hk3:kk=3
    ·have hb3:(kk==3)=true:=by rw[hk3];rfl
     have HR:=lhd (show((0,x,[],[])::(4,0,[],[])::upX (p1E off) t.G (k+1))=((0,x,[],[])::(4,0,[],[])::upX (p1E off) t.G k)by rw[HUS.out,zlN hk3,List.append_nil]);have HF2:=lhd (show ∀i:Nat,f i=gv (c1E t.G (k+1) i)from fun i=>by rw[HC2.out hk3 i];exact HF.out i);clear hk3 HC1 HC2 HR1 HUS;go_wp2_with fail;go_roundw;case rel=>exact⟨k+1,cnt,f,hkl,by go_num,by omega,HF2.out,by rw[HR.out];exact HMB.out⟩
     case measure=>simp[intOf];omega
    have hb3:(kk==3)=false:=by rw[beq_eq_false_iff_ne];exact hk3
    have hc1:=HX.out.cell (j:=1) rfl;have hc2:=HX.out.cell (j:=2) rfl;by_cases hk0:kk=0∧off=true
    ·obtain⟨rfl,rfl⟩:=hk0;have HP1:=lhd (zlO (off:=true) (n:=k) (s:=(0,nn,l)) (by show(0:Int)≠3;decide) ⟨rfl,rfl⟩);have HI:=lhd (zr1 0 nn wx);clear hb3 hk3 hc2;go_wp2_with fail;refine HI.out.mono ?_;rintro e wy ⟨rfl,hby⟩;have HMY:=lhd (HLT.out _ _ _ _ _ HMB.out hby);have HEQ:=lhd (show((0,x,[],[])::(4,0,[],[])::upX (p1E true) t.G (k+1))=((0,x,[],[])::(4,0,[],[])::upX (p1E true) t.G k)++ [chE k (vi 0 nn)]by rw[HUS.out,HP1.out];rfl);have HLK:=lhd (show L=((0,x,[],[])::(4,0,[],[])::upX (p1E true) t.G k)++chE k (vi 0 nn)::(R1++(O++(Q3++E4)))by rw[HL1.out,HR1.out,HP1.out];simp);have HCC:=lhd (HCHG.out _ _ k (vi 0 nn) wy cnt f HLK.out (by omega) (by omega) HMY.out);have HF2:=lhd (zgi HF.out (fun i=>HC1.out (by first|exact hk3|(show(0:Int)≠3;decide)) i));clear hby;go_wp2_with fail;refine HCC.out.mono ?_;rintro e wz ⟨rfl,hmz⟩;have HMZ:=lhd hmz;clear hmz;go_wp2_with fail;go_roundw;case rel=>exact⟨k+1,cnt+1,_,hkl,by go_num,by omega,HF2.out,by rw[HEQ.out];exact HMZ.out⟩
     case measure=>simp[intOf];omega
    ·have HP1:=lhd (zlL (off:=off) (n:=k) (s:=(kk,nn,l)) hk3 hk0);have HA:=lhd (fun(V:World) (hV:Below wx.heap.size wx V)=>ze4 kk nn (.slice xa l.length xc) l 0 V (HGL.out.below (HMB.out.b.trans (hV.mono HMB.out.b.size))) (HD.out _ (zfj HBX.out hV)) HFK.out);have HA1:=lhd (HA.out _ (Below.refl _ _));clear HA;by_cases hk00:kk=0
     ·have hb0:(kk==0)=true:=by rw[hk00];rfl
      obtain rfl:off=false:=by
       cases off with
       |false=>rfl
       |true=>exact absurd ⟨hk00,rfl⟩ hk0
      clear hk00 hk0;go_wp2_with fail;refine HA1.out.mono ?_;rintro e wy ⟨rfl,hby⟩;have HMY:=lhd (HLT.out _ _ _ _ _ HMB.out hby);have HEQ:=lhd (show((0,x,[],[])::(4,0,[],[])::upX (p1E false) t.G (k+1))=((0,x,[],[])::(4,0,[],[])::upX (p1E false) t.G k)++ [chE k ((atR kk nn l 0).1)]by rw[HUS.out,HP1.out];rfl);have HLK:=lhd (show L=((0,x,[],[])::(4,0,[],[])::upX (p1E false) t.G k)++chE k ((atR kk nn l 0).1)::(R1++(O++(Q3++E4)))by rw[HL1.out,HR1.out,HP1.out];simp);have HCC:=lhd (HCHG.out _ _ k ((atR kk nn l 0).1) wy cnt f HLK.out (by omega) (by omega) HMY.out);have HF2:=lhd (zgi HF.out (fun i=>HC1.out (by first|exact hk3|(show(0:Int)≠3;decide)) i));clear hby;go_wp2_with fail;refine HCC.out.mono ?_;rintro e wz ⟨rfl,hmz⟩;have HMZ:=lhd hmz;clear hmz;go_wp2_with fail;go_roundw;case rel=>exact⟨k+1,cnt+1,_,hkl,by go_num,by omega,HF2.out,by rw[HEQ.out];exact HMZ.out⟩
      case measure=>simp[intOf];omega
     ·have hb0:(kk==0)=false:=by rw[beq_eq_false_iff_ne];exact hk00
      clear hk00 hk0;go_wp2_with fail;refine HA1.out.mono ?_;rintro e wy ⟨rfl,hby⟩;have HMY:=lhd (HLT.out _ _ _ _ _ HMB.out hby);have HEQ:=lhd (show((0,x,[],[])::(4,0,[],[])::upX (p1E off) t.G (k+1))=((0,x,[],[])::(4,0,[],[])::upX (p1E off) t.G k)++ [chE k ((atR kk nn l 0).1)]by rw[HUS.out,HP1.out];rfl);have HLK:=lhd (show L=((0,x,[],[])::(4,0,[],[])::upX (p1E off) t.G k)++chE k ((atR kk nn l 0).1)::(R1++(O++(Q3++E4)))by rw[HL1.out,HR1.out,HP1.out];simp);have HCC:=lhd (HCHG.out _ _ k ((atR kk nn l 0).1) wy cnt f HLK.out (by omega) (by omega) HMY.out);have HF2:=lhd (zgi HF.out (fun i=>HC1.out (by first|exact hk3|(show(0:Int)≠3;decide)) i));clear hby;go_wp2_with fail;refine HCC.out.mono ?_;rintro e wz ⟨rfl,hmz⟩;have HMZ:=lhd hmz;clear hmz;go_wp2_with fail;go_roundw;case rel=>exact⟨k+1,cnt+1,_,hkl,by go_num,by omega,HF2.out,by rw[HEQ.out];exact HMZ.out⟩
      case measure=>simp[intOf];omega
   ·obtain rfl:k=t.G.length:=by omega
    have HR:=lhd (show ∃(cnt:Nat) (f:Int→Option Value),cnt≤t.G.length∧(∀i:Nat,f i=gv (z&&c1E t.G t.G.length i))∧MO J (boxT t a1 a2 a3 a4 k1 k2 k3 k4) x tb xb lp yb okb gb pb mb w0 wr ((0,x,[],[])::D).length cnt f from
     ⟨cnt,f,hcn,fun i=>by rw[HZ.out,decide_eq_true HX0.out,Bool.true_and];exact HF.out i,by rw[HDD.out,if_pos HX0.out];exact HM.out⟩)
    go_wp2_with fail;go_meet
    case rel=>exact HR.out
 case rest=>
 obtain⟨cnt1,f1,hcn1,hf1,hmo1⟩:=hcut;obtain⟨w7,rfl⟩:∃w7,w7=wc:=⟨_,rfl⟩;have HMA:=lhd hmo1;have HFA:=lhd hf1;clear hmo1 hf1;have hc7:w7.cell? ⟨tb,7,none⟩=some (.slice a4 t.P.length k4):=by rw[Lib.cell_of_heap HMA.out.t];rfl
 have hcX:=(zkV HMA.out.x).1;have HCON:=lhd (zde xb (fun g:Int×Int=>decide (g.2=x)) _ t.P w7 (HGP.out.below HMA.out.b) (fun g _ V hV=>ze6 xb x g V ((hV.cell (p:=⟨xb,0,none⟩) (zbU hcX)).trans hcX)));obtain⟨on,hon⟩:∃on,on=onE t.P x:=⟨_,rfl⟩;have hany:(t.P.any fun g:Int×Int=>decide (g.2=x))=on:=hon.symm;rw[hany]at HCON;rw[←hon]at HOO HQ;clear hany hcX hon;go_wp2_with fail;refine HCON.out.mono ?_;rintro e w8 ⟨rfl,hb8⟩;have HM8:=lhd (HLT.out _ _ _ _ _ HMA.out hb8);clear hb8 hc7 HCON;go_upto_if 68 with fail
 go_cut []from 9 to 89 (fun wc=>∃(cnt:Nat) (f:Int→Option Value),cnt≤2*t.G.length∧(∀i:Nat,f i=gv ((z&&c1E t.G t.G.length i)||(on&&c2E t.G t.G.length i)))∧MO J (boxT t a1 a2 a3 a4 k1 k2 k3 k4) x tb xb lp yb okb gb pb mb w0 wc ((0,x,[],[])::(D++O)).length cnt f)
 case first=>
  cases on
  ·have HR:=lhd (show ∃(cnt:Nat) (f:Int→Option Value),cnt≤2*t.G.length∧(∀i:Nat,f i=gv ((z&&c1E t.G t.G.length i)||(false&&c2E t.G t.G.length i)))∧MO J (boxT t a1 a2 a3 a4 k1 k2 k3 k4) x tb xb lp yb okb gb pb mb w0 w8 ((0,x,[],[])::(D++O)).length cnt f from
    ⟨cnt1,f1,by omega,fun i=>by rw[Bool.false_and,Bool.or_false];exact HFA.out i,by rw[HOO.out,if_neg (by decide),List.append_nil];exact HM8.out⟩)
   go_wp2_with fail;go_meet
   case rel=>exact HR.out
  have HL1:=lhd (show L=((0,x,[],[])::D)++(3,0,[],[])::(upX (p2E x) t.G t.G.length++(Q3++E4))by rw[HL.out,HOO.out,if_pos rfl];rfl);have HP2:=lhd (HPUT.out ((0,x,[],[])::D) _ (3,0,[],[]) w8 _ _ HL1.out HM8.out);have hcP:=(zkV HM8.out.q.p).1;unfold rcV at HP2;go_wp2_with fail;refine HP2.out.mono ?_;rintro e W9 ⟨rfl,hm9⟩;have HM9:=lhd hm9;have hc6:W9.cell? ⟨tb,6,none⟩=some (.slice a3 t.G.length k3):=by rw[Lib.cell_of_heap HM9.out.t];rfl
  clear hm9 HP2 hcP HM8;go_wp2_with fail;clear hc6;go_loopw [75] (fun vi wr=>∃(k cnt:Nat) (f:Int→Option Value),k≤t.G.length∧vi=.int .i64 k∧cnt≤t.G.length+k∧(∀i:Nat,f i=gv ((z&&c1E t.G t.G.length i)||c2E t.G k i))∧MO J (boxT t a1 a2 a3 a4 k1 k2 k3 k4) x tb xb lp yb okb gb pb mb w0 wr (((0,x,[],[])::D)++(3,0,[],[])::upX (p2E x) t.G k).length cnt f) (fun vi _=>t.G.length-(intOf vi).toNat)
  case atStart=>exact⟨0,cnt1,f1,Nat.zero_le _,rfl,by omega,fun i=>by rw[show c2E t.G 0 i=false by unfold c2E;simp,Bool.or_false];exact HFA.out i,HM9.out⟩
  case round=>
   obtain⟨k,cnt,f,hk,rfl,hcn,hf,hmo⟩:=hrel;have HM:=lhd hmo;have HF:=lhd hf;clear hmo hf HM9;by_cases hkl:k<t.G.length
   ·skip
    have hmk:k<M.length:=by rw[←HMG.out,List.length_map]at hkl;exact hkl
    have hml:M.length=t.G.length:=by rw[←HMG.out,List.length_map]
    have hsg2:=HSG.out.below HM.out.b;rw[←hml]at hsg2;obtain⟨b,o,rfl,d0,d1,d2,hd⟩:=hsg2.at hmk
    have hGk:t.G[k]=M[k].1:=by
     have:(M.map Prod.fst)[k]? =t.G[k]? :=by rw[HMG.out]
     rw[List.getElem?_map,List.getElem?_eq_getElem hmk,List.getElem?_eq_getElem hkl]at this;exact(Option.some.inj this).symm
    clear hsg2;obtain⟨R1,hR1⟩:=zrG (p2E x) hkl;rw[hGk]at hR1;have HC1:=lhd (fun h=>zbM (G:=t.G) hkl (by rw[hGk];exact h));have HC2:=lhd (fun h=>zbN (G:=t.G) hkl (by rw[hGk];exact h));have HUS:=lhd (show upX (p2E x) t.G (k+1)=upX (p2E x) t.G k++p2E x k M[k].1 by rw[zrD (p2E x) hkl,hGk]);have HFK:=lhd (HFT.out _ (List.getElem_mem hkl));rw[hGk]at HFK;clear hGk;have HD:=lhd (fun(V:World) (hV:Below wr.heap.size wr V)=>hd.below hV);generalize M[k]=xs at*;obtain⟨⟨kk,nn,l⟩,xv⟩:=xs;dsimp only at*;obtain⟨xa,xc,rfl,-,hxm⟩:=hd.shape;unfold maxLen at hxm;have hw':=zjk k (by omega);have hk0i:(0:Int)≤(k:Int):=by omega
    have hk1i:(k:Int)<(t.G.length:Int):=by omega
    clear hd hmk hml;have HR1:=lhd hR1;clear hR1;have hbx:Below wr.heap.size wr (wr.alloc (.cells #[.int .i64 kk,.int .i64 nn,.slice xa l.length xc] 60)):=(Below.refl _ _).alloc (Nat.le_refl _) _;have HMB:=lhd (HLT.out _ _ _ _ _ HM.out hbx);have HX:=lhd (zan.fresh wr #[.int .i64 kk,.int .i64 nn,.slice xa l.length xc] 60);have HBX:=lhd hbx;have HZX:=lhd (show wr.heap.size<(wr.alloc (.cells #[.int .i64 kk,.int .i64 nn,.slice xa l.length xc] 60)).heap.size by simp);clear hbx;go_upto_region 22 with fail;generalize wr.alloc (.cells #[.int .i64 kk,.int .i64 nn,.slice xa l.length xc] 60)=wx at*;obtain⟨bx,hbx⟩:∃b,b=wr.heap.size:=⟨_,rfl⟩;rw[←hbx]at HX HZX⊢;clear d0 d1 d2 hbx;have hc0:=HX.out.cell (j:=0) rfl;by_cases hk0:kk=0
    rotate_left
    ·have hb0:(kk==0)=false:=by rw[beq_eq_false_iff_ne];exact hk0
     have HR:=lhd (show(((0,x,[],[])::D)++(3,0,[],[])::upX (p2E x) t.G (k+1))=(((0,x,[],[])::D)++(3,0,[],[])::upX (p2E x) t.G k)by rw[HUS.out,show p2E x k (kk,nn,l)=[]from if_neg hk0,List.append_nil]);have HF2:=lhd (show ∀i:Nat,f i=gv ((z&&c1E t.G t.G.length i)||c2E t.G (k+1) i)from fun i=>by rw[HC2.out hk0 i];exact HF.out i);clear hk0 HC1 HC2 HR1 HUS;go_wp2_with fail;go_roundw;case rel=>exact⟨k+1,cnt,f,hkl,by go_num,by omega,HF2.out,by rw[HR.out];exact HMB.out⟩
     case measure=>simp[intOf];omega
    subst hk0;have hc1:=HX.out.cell (j:=1) rfl;have hc2:=HX.out.cell (j:=2) rfl;have hcX:=(zkV HMB.out.x).1;have HP1:=lhd (show p2E x k (0,nn,l)=[chE k (atR 0 nn l x).1]from if_pos rfl);have HA1:=lhd (ze4 0 nn (.slice xa l.length xc) l x wx (HGL.out.below HMB.out.b) (HD.out _ HBX.out) HFK.out);go_wp2_with fail;refine HA1.out.mono ?_;rintro e wy ⟨rfl,hby⟩;have HMY:=lhd (HLT.out _ _ _ _ _ HMB.out hby);have HEQ:=lhd (show(((0,x,[],[])::D)++(3,0,[],[])::upX (p2E x) t.G (k+1))=(((0,x,[],[])::D)++(3,0,[],[])::upX (p2E x) t.G k)++ [chE k (atR 0 nn l x).1]by rw[HUS.out,HP1.out];simp);have HLK:=lhd (show L=(((0,x,[],[])::D)++(3,0,[],[])::upX (p2E x) t.G k)++chE k (atR 0 nn l x).1::(R1++(Q3++E4))by rw[HL1.out,HR1.out,HP1.out];simp);have HCC:=lhd (HCHG.out _ _ k (atR 0 nn l x).1 wy cnt f HLK.out (by omega) (by omega) HMY.out);have HF2:=lhd (zgi (c':=fun i=>(z&&c1E t.G t.G.length i)||c2E t.G (k+1) i) HF.out (fun i=>by rw[HC1.out trivial i,Bool.or_assoc]));clear hby hcX hc1 hc2;go_wp2_with fail;refine HCC.out.mono ?_;rintro e wz ⟨rfl,hmz⟩;have HMZ:=lhd hmz;clear hmz;go_wp2_with fail;go_roundw;case rel=>exact⟨k+1,cnt+1,_,hkl,by go_num,by omega,HF2.out,by rw[HEQ.out];exact HMZ.out⟩
    case measure=>simp[intOf];omega
   ·obtain rfl:k=t.G.length:=by omega
    have HR:=lhd (show ∃(cnt:Nat) (f:Int→Option Value),cnt≤2*t.G.length∧(∀i:Nat,f i=gv ((z&&c1E t.G t.G.length i)||(true&&c2E t.G t.G.length i)))∧MO J (boxT t a1 a2 a3 a4 k1 k2 k3 k4) x tb xb lp yb okb gb pb mb w0 wr ((0,x,[],[])::(D++O)).length cnt f from
     ⟨cnt,f,by omega,fun i=>by rw[Bool.true_and];exact HF.out i,by rw[HOO.out,if_pos trivial];exact HM.out⟩)
    go_wp2_with fail;go_meet
    case rel=>exact HR.out
 case rest=>
 obtain⟨cnt2,f2,hcn2,hf2,hmo2⟩:=hcut;obtain⟨w9,rfl⟩:∃w9,w9=wc:=⟨_,rfl⟩;have HMC:=lhd hmo2;have HFC:=lhd hf2;clear hmo2 hf2 HFA HMA HM8;have hc6:w9.cell? ⟨tb,6,none⟩=some (.slice a3 t.G.length k3):=by rw[Lib.cell_of_heap HMC.out.t];rfl
 go_wp2_with fail;clear hc6;go_loopw [93] (fun vi wr=>∃(k cnt:Nat) (f:Int→Option Value),k≤t.G.length∧vi=.int .i64 k∧cnt≤2*t.G.length+k∧(∀i:Nat,k≤i→f i=gv ((z&&c1E t.G t.G.length i)||(on&&c2E t.G t.G.length i)))∧MO J (boxT t a1 a2 a3 a4 k1 k2 k3 k4) x tb xb lp yb okb gb pb mb w0 wr (((0,x,[],[])::(D++O))++upX (p3E x (decide (x=0)) on off) t.G k).length cnt f) (fun vi _=>t.G.length-(intOf vi).toNat)
 case atStart=>exact⟨0,cnt2,f2,Nat.zero_le _,rfl,by omega,fun i _=>HFC.out i,by rw[zrE,List.append_nil];exact HMC.out⟩
 case round=>
  obtain⟨k,cnt,f,hk,rfl,hcn,hf,hmo⟩:=hrel;have HM:=lhd hmo;have HF:=lhd hf;clear hmo hf HMC HFC;by_cases hkl:k<t.G.length
  ·skip
   have hmk:k<M.length:=by rw[←HMG.out,List.length_map]at hkl;exact hkl
   have hml:M.length=t.G.length:=by rw[←HMG.out,List.length_map]
   have hsg2:=HSG.out.below HM.out.b;rw[←hml]at hsg2;obtain⟨b,o,rfl,d0,d1,d2,hd⟩:=hsg2.at hmk
   have hGk:t.G[k]=M[k].1:=by
    have:(M.map Prod.fst)[k]? =t.G[k]? :=by rw[HMG.out]
    rw[List.getElem?_map,List.getElem?_eq_getElem hmk,List.getElem?_eq_getElem hkl]at this;exact(Option.some.inj this).symm
   clear hsg2;obtain⟨R1,hR1⟩:=zrG (p3E x (decide (x=0)) on off) hkl;rw[hGk]at hR1;have HUS:=lhd (show upX (p3E x (decide (x=0)) on off) t.G (k+1)=upX (p3E x (decide (x=0)) on off) t.G k++p3E x (decide (x=0)) on off k M[k].1 by rw[zrD (p3E x (decide (x=0)) on off) hkl,hGk]);have HGT:=lhd (show f k=gv (gotE z on M[k].1)by rw[HF.out k (Nat.le_refl _),zbS hkl,hGk]);have HFK:=lhd (HFT.out _ (List.getElem_mem hkl));rw[hGk]at HFK;clear hGk;have HD:=lhd (fun(V:World) (hV:Below wr.heap.size wr V)=>hd.below hV);generalize M[k]=xs at*;obtain⟨⟨kk,nn,l⟩,xv⟩:=xs;dsimp only at*;obtain⟨xa,xc,rfl,-,hxm⟩:=hd.shape;unfold maxLen at hxm;have hw':=zjk k (by omega);have hk0i:(0:Int)≤(k:Int):=by omega
   have hk1i:(k:Int)<(t.G.length:Int):=by omega
   clear hd hmk hml;have HR1:=lhd hR1;clear hR1;have hbx:Below wr.heap.size wr (wr.alloc (.cells #[.int .i64 kk,.int .i64 nn,.slice xa l.length xc] 60)):=(Below.refl _ _).alloc (Nat.le_refl _) _;have HMB:=lhd (HLT.out _ _ _ _ _ HM.out hbx);have HX:=lhd (zan.fresh wr #[.int .i64 kk,.int .i64 nn,.slice xa l.length xc] 60);have HBX:=lhd hbx;have HZX:=lhd (show wr.heap.size<(wr.alloc (.cells #[.int .i64 kk,.int .i64 nn,.slice xa l.length xc] 60)).heap.size by simp);clear hbx;have hcX:=(zkV HMB.out.x).1;go_upto_region 28 with fail;generalize wr.alloc (.cells #[.int .i64 kk,.int .i64 nn,.slice xa l.length xc] 60)=wx at*;obtain⟨bx,hbx⟩:∃b,b=wr.heap.size:=⟨_,rfl⟩;rw[←hbx]at HX HZX⊢;clear d0 d1 d2 hbx;have hc0:=HX.out.cell (j:=0) rfl;have hc1:=HX.out.cell (j:=1) rfl;have hc2:=HX.out.cell (j:=2) rfl;have HWN:=lhd (zoY kk nn (.slice xa l.length xc) l x x wx (HGL.out.below HMB.out.b) (HD.out _ HBX.out) HFK.out (by omega) (by omega));go_wp2_with fail;refine HWN.out.mono ?_;rintro e wy ⟨vw,rfl,hsw,hby⟩;have HMY:=lhd (HLT.out _ _ _ _ _ HMB.out hby);have HXY:=lhd (HX.out.below hby HZX.out);have HSW:=lhd hsw;clear hsw hby hc0 hc1 hc2 hcX HWN;have hc0:=HXY.out.cell (j:=0) rfl;have hcG:=(zkV HMY.out.q.g).1;obtain⟨g,hg⟩:∃g,g=gotE z on (kk,nn,l):=⟨_,rfl⟩
   have hlk:(Instr.lookup 135 (.map (some mb)) (.int .i64 (k:Int)) false).run Tryz.prog wy=.ok (.bool g) wy:=by
    have:=HMY.out.m.look1 (t:=135) Tryz.underlying135 (z:=.bool false) (zt4 wy) (k:Int) (ztv (n:=(k:Int)) (by omega) (by omega));rw[HGT.out,←hg]at this;cases g<;>exact this
   have HGG:=lhd hg;clear hg HGT;obtain⟨wl,hwl⟩:∃wl,wl=winR kk nn l x x:=⟨_,rfl⟩;rw[←hwl]at HSW;have HWL:=lhd hwl;clear hwl;obtain⟨wa,wcp,rfl,-,hwm⟩:=HSW.out.shape;unfold maxLen at hwm;cases wl with
   |nil=>
    have HP3:=lhd (show p3E x (decide (x=0)) on off k (kk,nn,l)=[]by unfold p3E;dsimp only;rw[←HWL.out]);have HR:=lhd (show upX (p3E x (decide (x=0)) on _) t.G (k+1)=upX (p3E x (decide (x=0)) on _) t.G k by rw[HUS.out,HP3.out,List.append_nil]);have HF2:=lhd (show ∀i:Nat,k+1≤i→f i=gv ((z&&c1E t.G t.G.length i)||(on&&c2E t.G t.G.length i))from fun i h=>HF.out i (by omega));go_wp2_with fail;go_roundw;case rel=>exact⟨k+1,cnt,f,hkl,by go_num,by omega,HF2.out,by rw[HR.out];exact HMY.out⟩
    case measure=>simp[intOf];omega
   |cons c r=>
    have HP0:=lhd (show p3E x (decide (x=0)) on off k (kk,nn,l)=if gotE z on (kk,nn,l)=false∧(kk≠0∨off=false)then [chE k c.2]else []by unfold p3E;dsimp only;rw[←HWL.out,HZ.out]);have hln:(0:Int)<((c::r).length:Int):=by simp only[List.length_cons];omega
    have hdl:decide ((0:Int)<((c::r).length:Int))=true:=by rw[decide_eq_true_iff];exact hln
    obtain⟨b2,o2,rfl,f0,f1⟩:=HSW.out.ch (j:=0) (by simp);have f2:wy.cell? ⟨b2,o2+1,none⟩=some (.string c.2):=by simpa using f1
    generalize (c::r).length=wln at*;clear f0 f1 HSW;cases g
    rotate_left
    ·have HP3:=lhd (show p3E x (decide (x=0)) on off k (kk,nn,l)=[]by rw[HP0.out,if_neg];rw[←HGG.out];simp);have HR:=lhd (show upX (p3E x (decide (x=0)) on _) t.G (k+1)=upX (p3E x (decide (x=0)) on _) t.G k by rw[HUS.out,HP3.out,List.append_nil]);have HF2:=lhd (show ∀i:Nat,k+1≤i→f i=gv ((z&&c1E t.G t.G.length i)||(on&&c2E t.G t.G.length i))from fun i h=>HF.out i (by omega));go_wp2_with fail;go_roundw;case rel=>exact⟨k+1,cnt,f,hkl,by go_num,by omega,HF2.out,by rw[HR.out];exact HMY.out⟩
     case measure=>simp[intOf];omega
    by_cases hk0:kk=0
    rotate_left
    ·have hb0:(kk !=0)=true:=by rw[bne_iff_ne];exact hk0
     have HP3:=lhd (show p3E x (decide (x=0)) on off k (kk,nn,l)=[chE k c.2]by rw[HP0.out,if_pos ⟨HGG.out.symm,.inl hk0⟩]);clear hk0;have HEQ:=lhd (show(((0,x,[],[])::(D++O))++upX (p3E x (decide (x=0)) on off) t.G (k+1))=(((0,x,[],[])::(D++O))++upX (p3E x (decide (x=0)) on off) t.G k)++ [chE k c.2]by rw[HUS.out,HP3.out,List.append_assoc]);have HLK:=lhd (show L=(((0,x,[],[])::(D++O))++upX (p3E x (decide (x=0)) on off) t.G k)++chE k c.2::(R1++E4)by rw[HL.out,HQ.out,HR1.out,HP3.out];simp);have HCC:=lhd (HCHG.out _ _ k c.2 wy cnt f HLK.out (by omega) (by omega) HMY.out);have HF2:=lhd (show ∀i:Nat,k+1≤i→(if(i:Int)=(k:Int)then some (Value.bool true)else f i)=gv ((z&&c1E t.G t.G.length i)||(on&&c2E t.G t.G.length i))from fun i h=>by rw[if_neg (by omega)];exact HF.out i (by omega));go_wp2_with fail;refine HCC.out.mono ?_;rintro e wz ⟨rfl,hmz⟩;have HMZ:=lhd hmz;clear hmz;go_wp2_with fail;go_roundw;case rel=>exact⟨k+1,cnt+1,_,hkl,by go_num,by omega,HF2.out,by rw[HEQ.out];exact HMZ.out⟩
     case measure=>simp[intOf];omega
    have hb0:(kk !=0)=false:=by rw[hk0];rfl
    cases off
    ·have HP3:=lhd (show p3E x (decide (x=0)) on false k (kk,nn,l)=[chE k c.2]by rw[HP0.out,if_pos ⟨HGG.out.symm,.inr rfl⟩]);clear hk0;have HEQ:=lhd (show(((0,x,[],[])::(D++O))++upX (p3E x (decide (x=0)) on false) t.G (k+1))=(((0,x,[],[])::(D++O))++upX (p3E x (decide (x=0)) on false) t.G k)++ [chE k c.2]by rw[HUS.out,HP3.out,List.append_assoc]);have HLK:=lhd (show L=(((0,x,[],[])::(D++O))++upX (p3E x (decide (x=0)) on false) t.G k)++chE k c.2::(R1++E4)by rw[HL.out,HQ.out,HR1.out,HP3.out];simp);have HCC:=lhd (HCHG.out _ _ k c.2 wy cnt f HLK.out (by omega) (by omega) HMY.out);have HF2:=lhd (show ∀i:Nat,k+1≤i→(if(i:Int)=(k:Int)then some (Value.bool true)else f i)=gv ((z&&c1E t.G t.G.length i)||(on&&c2E t.G t.G.length i))from fun i h=>by rw[if_neg (by omega)];exact HF.out i (by omega));go_wp2_with fail;refine HCC.out.mono ?_;rintro e wz ⟨rfl,hmz⟩;have HMZ:=lhd hmz;clear hmz;go_wp2_with fail;go_roundw;case rel=>exact⟨k+1,cnt+1,_,hkl,by go_num,by omega,HF2.out,by rw[HEQ.out];exact HMZ.out⟩
     case measure=>simp[intOf];omega
    ·have HP3:=lhd (show p3E x (decide (x=0)) on true k (kk,nn,l)=[]by rw[HP0.out,if_neg];rintro⟨_,h⟩;rcases h with h|h;exact h hk0;cases h);clear hk0;have HR:=lhd (show upX (p3E x (decide (x=0)) on _) t.G (k+1)=upX (p3E x (decide (x=0)) on _) t.G k by rw[HUS.out,HP3.out,List.append_nil]);have HF2:=lhd (show ∀i:Nat,k+1≤i→f i=gv ((z&&c1E t.G t.G.length i)||(on&&c2E t.G t.G.length i))from fun i h=>HF.out i (by omega));go_wp2_with fail;go_roundw;case rel=>exact⟨k+1,cnt,f,hkl,by go_num,by omega,HF2.out,by rw[HR.out];exact HMY.out⟩
     case measure=>simp[intOf];omega
  ·obtain rfl:k=t.G.length:=by omega
   have HL3:=lhd (show L=(((0,x,[],[])::(D++O))++upX (p3E x (decide (x=0)) on off) t.G t.G.length)++E4 by rw[HL.out,HQ.out];simp);have hc7:wr.cell? ⟨tb,7,none⟩=some (.slice a4 t.P.length k4):=by rw[Lib.cell_of_heap HM.out.t];rfl
   have hcX:=(zkV HM.out.x).1;have HCON:=lhd (zdc xb (fun g:Int×Int=>decide (g.1=x)) _ t.P wr (HGP.out.below HM.out.b) (fun g _ V hV=>ze5 xb x g V ((hV.cell (p:=⟨xb,0,none⟩) (zbU hcX)).trans hcX)));obtain⟨bo,hbo⟩:∃b,b=offE t.P x:=⟨_,rfl⟩;have hany:(t.P.any fun g:Int×Int=>decide (g.1=x))=bo:=hbo.symm;rw[hany]at HCON;rw[←hbo]at HE;clear hany hcX hbo;go_wp2_with fail;refine HCON.out.mono ?_;rintro e w8 ⟨rfl,hb8⟩;have HM8:=lhd (HLT.out _ _ _ _ _ HM.out hb8);clear hb8 hc7 HCON;cases bo
   ·have HR:=lhd (show J L.length w8 by rw[HL3.out,HE.out,if_neg (by decide),List.append_nil];exact HM8.out.j);go_wp2_with fail;go_end0
    exact⟨⟨_,rfl⟩,HR.out⟩
   ·have HL4:=lhd (show L=(((0,x,[],[])::(D++O))++upX (p3E x (decide (x=0)) on off) t.G t.G.length)++(2,0,[],[]):: []by rw[HL3.out,HE.out,if_pos rfl]);have HP2:=lhd (HPUT.out _ _ (2,0,[],[]) w8 _ _ HL4.out HM8.out);have hcP:=(zkV HM8.out.q.p).1;unfold rcV at HP2;go_wp2_with fail;refine HP2.out.mono ?_;rintro e W9 ⟨rfl,hm9⟩;have HR:=lhd (show J L.length W9 by rw[HL4.out];exact hm9.j);clear hm9 HP2 hcP;go_wp2_with fail;go_end0
    exact⟨⟨_,rfl⟩,HR.out⟩
end Go.Proofs.YtfppgpamkdkckaaGreatDoor
