import Derived.Test.YtfppgpamkdkckaaGreatDoorZ00
import Derived.Deep.DeepCutAuto
import Derived.Deep.RegionHeld3
import Derived.Test.YtfppgpamkdkckaaGreatDoorZ03
set_option maxRecDepth 100000
set_option maxHeartbeats 16000000
namespace Go.Proofs.YtfppgpamkdkckaaGreatDoor
open Go.RowKit
def subL (s:ByteArray) (k n:Nat):List UInt8:=(s.data.toList.drop k).take n
def zo8 (s:ByteArray):Bool×Nat:=if zkR [45] s 0=true then(true,1)else(false,if zkR [43] s 0=true then 1 else 0)
def zfP (s:ByteArray) (k:Nat) (ds:List UInt8):Option (List UInt8×Int×Nat):=
 if zkR [46] s k=true then(if zd5 s (k+1)=0 then none else some (ds++subL s (k+1) (zd5 s (k+1)),-(zd5 s (k+1):Int),k+1+zd5 s (k+1)))else some (ds,0,k)
def zfb (l:List UInt8):Int:=l.foldl (fun e c=>min 1048576 (10*e+((c.toNat:Int)-48))) 0
def ze9 (s:ByteArray) (k:Nat):Bool×Nat:=if zkR [45] s k=true then(true,k+1)else(false,if zkR [43] s k=true then k+1 else k)
def expS (s:ByteArray) (k:Nat):Option (Int×Nat):=
 if zkR [101,69] s k=true then
  (let p:=ze9 s (k+1)
   if zd5 s p.2=0 then none else some ((if p.1=true then-(zfb (subL s p.2 (zd5 s p.2)))else zfb (subL s p.2 (zd5 s p.2))),p.2+zd5 s p.2))
 else some (0,k)
def znT (s:ByteArray):Option Num:=
 if 64<s.size then none else
 let p:=zo8 s
 let n:=zd5 s p.2
 if n=0 then none else
 match zfP s (p.2+n) (subL s p.2 n)with
 |none=>none
 |some (ds,ex,k)=>
  match expS s k with
  |none=>none
  |some (e,k')=>if k'=s.size then some (zj3 (p.1,ds,ex+e))else none
theorem zpW (s:ByteArray) (k n:Nat) (h:n≤1000):(subL s k n).length≤1000:=by
 unfold subL;have:=List.length_take_le n (s.data.toList.drop k);omega
theorem zpU (s:ByteArray) (k n:Nat):(s.extract k (k+n)).data.toList=subL s k n:=by
 rw[Lib.extract_data,Nat.add_sub_cancel_left];rfl
theorem zpX (s:ByteArray) (k n:Nat) (h:k+n≤s.size):(s.extract k (k+n)).size=n:=by
 have:=congrArg List.length (zpU s k n);simp[subL]at this;simp;omega
theorem zkS {set:List UInt8} {s:ByteArray} {k:Nat} (h:zkR set s k=true):k<s.size:=by
 unfold zkR at h;cases hc:s.data.toList[k]? with
 |none=>rw[hc]at h;simp at h
 |some c=>have:=(List.getElem?_eq_some_iff.1 hc).1;simpa using this
theorem zo9 (s:ByteArray):(zo8 s).2≤s.size:=by
 unfold zo8;split
 ·rename_i h;exact zkS h
 ·show(if _ then _ else _)≤_;split
  ·rename_i h;exact zkS h
  ·exact Nat.zero_le _
theorem zfR {s:ByteArray} {k k':Nat} {ds ds':List UInt8} {ex:Int} (hk:k≤s.size) (h:zfP s k ds=some (ds',ex,k')):k'≤s.size:=by
 unfold zfP at h;split at h
 ·rename_i h1
  split at h
  ·simp at h
  ·simp only[Option.some.injEq,Prod.mk.injEq]at h;have:=zd8 s (k+1) (zkS h1);omega
 ·simp only[Option.some.injEq,Prod.mk.injEq]at h;omega
theorem zfQ {s:ByteArray} {k k':Nat} {ds ds':List UInt8} {ex:Int} (hs:s.size≤64) (hd:ds.length≤64) (h:zfP s k ds=some (ds',ex,k')):ds'.length≤128∧ -64≤ex∧ex≤0:=by
 unfold zfP at h;split at h
 ·rename_i h1
  split at h
  ·simp at h
  ·simp only[Option.some.injEq,Prod.mk.injEq]at h;obtain⟨rfl,rfl,rfl⟩:=h;have:=zd8 s (k+1) (zkS h1);have h2:=List.length_take_le (zd5 s (k+1)) (s.data.toList.drop (k+1));simp only[List.length_append,subL];omega
 ·simp only[Option.some.injEq,Prod.mk.injEq]at h;obtain⟨rfl,rfl,rfl⟩:=h;omega
theorem zpV (s:ByteArray) (k n:Nat):(subL s k n).length≤n:=List.length_take_le _ _
theorem zfd (l:List UInt8) (c:UInt8):zfb (l++ [c])=min 1048576 (10*zfb l+((c.toNat:Int)-48)):=by simp[zfb,List.foldl_append]
theorem zfa (s:ByteArray) (k:Nat) (hk:k≤s.size):(ze9 s k).2≤s.size:=by
 unfold ze9;split
 ·rename_i h;exact zkS h
 ·show(if _ then _ else _)≤_;split
  ·rename_i h;exact zkS h
  ·exact hk
def zas (s:ByteArray) (w:World) (e:Ending) (w':World):Prop:=
 ∃(m:Num) (v:Value),e=.returned (.tuple #[.agg #[.bool m.1,v,.int .i64 m.2.2],.bool (znT s).isSome])∧SlR w' v m.2.1.length (bys m.2.1)∧(∀n,znT s=some n→m=n)∧m.2.1.length≤1000∧ -2000000000≤m.2.2∧m.2.2≤2000000000∧Below w.heap.size w w'
theorem znX {w0 w:World} {s:ByteArray} {k:Nat} {neg:Bool} {dv:Value} {ds:List UInt8} {ex:Int} (h:ScanSt w0 w s k neg dv ds ex) (hn:znT s=none) (hl:ds.length≤1000) (h1: -2000000000≤ex) (h2:ex≤2000000000) (a b c:Value):
 zas s w0 (.returned (.tuple #[.agg #[.bool neg,dv,.int .i64 ex],.bool false])) (((w.setCell ⟨w0.heap.size+1,0,none⟩ a).setCell ⟨w0.heap.size+1,1,none⟩ b).setCell ⟨w0.heap.size+1,2,none⟩ c):=
 ⟨(neg,ds,ex),dv,by rw[hn];rfl,h.slr_res _ _ _,(by rw[hn];exact fun n h=>(by cases h)),hl,h1,h2,h.below_res _ _ _⟩
theorem znV {w0 w w9:World} {s:ByteArray} {k:Nat} {neg:Bool} {dv v9:Value} {ds:List UInt8} {ex:Int} (h:ScanSt w0 w s k neg dv ds ex)
 (hn:znT s=if k=s.size then some (zj3 (neg,ds,ex))else none) (hl:ds.length≤200) (h1: -100000000≤ex) (h2:ex≤100000000)
 (hb:Below w.drew.heap.size w.drew w9) (hv:∀W,SlR W dv ds.length (bys ds)→SlR W v9 (zj3 (neg,ds,ex)).2.1.length (bys (zj3 (neg,ds,ex)).2.1)) (a b c:Value):
 zas s w0 (.returned (.tuple #[.agg #[.bool (zj3 (neg,ds,ex)).1,v9,.int .i64 (zj3 (neg,ds,ex)).2.2],.bool ((k:Int)==(s.size:Int))])) (((w9.setCell ⟨w0.heap.size+1,0,none⟩ a).setCell ⟨w0.heap.size+1,1,none⟩ b).setCell ⟨w0.heap.size+1,2,none⟩ c):=by
 have hb':Below w.heap.size w w9:=⟨hb.os,hb.tape,hb.output,hb.size,hb.block⟩;have hsz:=h.size;have hg:w.grownBy w9 none:=⟨hb.os,hb.tape,hb.output,hb.size,fun i hi _=>hb.block i hi⟩
 have ho:=h.own.kept hg (by
  cases dv.ownBlock with
  |none=>exact .inl rfl
  |some b=>exact .inr (by simp))
 have hne:dv.ownBlock≠some (w0.heap.size+1):=fun e=>by
  have:=h.own.lt _ e;omega
 have hbd:=zj4 (neg,ds,ex);simp only at hbd;refine⟨zj3 (neg,ds,ex),v9,?_,hv _ (SlR.of_own (ownsRow_setCell_other (ownsRow_setCell_other (ownsRow_setCell_other ho hne _) hne _) hne _)),?_,by omega,by omega,by omega,?_⟩
 ·have:((k:Int)==(s.size:Int))=(znT s).isSome:=by
   rw[hn,Bool.eq_iff_iff,beq_iff_eq];by_cases hk:k=s.size
   ·rw[if_pos hk];simp[hk]
   ·rw[if_neg hk];simp;omega
  rw[this]
 ·rw[hn];intro n hh;split at hh
  ·exact Option.some.inj hh
  ·cases hh
 ·exact(((h.below.trans (hb'.mono (by omega))).setCell (by simp) _).setCell (by simp) _).setCell (by simp) _
theorem zdM (s:ByteArray) (w:World) (hs:s.size≤64):
 Calls Tryz.prog 292 #[.string s] w (zas s w):=by
 have hst:ScanSt w ((((w.alloc (Obj.cells #[Value.string s] 9)).alloc (Obj.cells #[Value.bool false,Value.slice none 0 0,Value.int IntKind.i64 0] 267)).alloc (Obj.cells #[Value.bool false,Value.slice none 0 0,Value.int IntKind.i64 0] 267)).alloc (Obj.cells #[Value.int IntKind.i64 0] 3)) s 0 false (.slice none 0 0) [] 0:=by
  refine⟨(((Below.refl _ _).alloc (Nat.le_refl _) _).alloc (by simp) _|>.alloc (by simp;omega) _).alloc (by simp;omega) _,by simp,?_,?_,?_,?_,World.ownsRow_nil _ _ _ _⟩
  ·exact zbT (zbT (zbT ((zan.fresh w #[Value.string s] _).cell (j:=0) rfl) _) _) _
  ·have h:=zan.fresh (w.alloc (Obj.cells #[Value.string s] 9)) #[Value.bool false,Value.slice none 0 0,Value.int IntKind.i64 0] 267;simp only[World.size_alloc]at h;exact(h.alloc (by simp) _).alloc (by simp) _
  ·have h:=zan.fresh ((w.alloc (Obj.cells #[Value.string s] 9)).alloc (Obj.cells #[Value.bool false,Value.slice none 0 0,Value.int IntKind.i64 0] 267)) #[Value.bool false,Value.slice none 0 0,Value.int IntKind.i64 0] 267;simp only[World.size_alloc]at h;exact h.alloc (by simp) _
  ·have h:=zan.fresh (((w.alloc (Obj.cells #[Value.string s] 9)).alloc (Obj.cells #[Value.bool false,Value.slice none 0 0,Value.int IntKind.i64 0] 267)).alloc (Obj.cells #[Value.bool false,Value.slice none 0 0,Value.int IntKind.i64 0] 267)) #[Value.int IntKind.i64 0] 3;simp only[World.size_alloc]at h;exact h
 have HST:=lhd hst;clear hst;go_enter Tryz.func292,Tryz.ntmps292;go_wp2_with fail;refine(zpK w _ s 0 false _ [] 0 HST.out (by omega) 45).mono ?_;rintro e w1 ⟨rfl,h1⟩;have H1:=lhd h1;clear h1;go_upto_if 22 with fail
 go_cut [] (fun wc=>ScanSt w wc s (zo8 s).2 (zo8 s).1 (.slice none 0 0) [] 0)
 case first=>
  cases hh:zkR [45] s 0
  ·have h1:=H1.out;have hsg:zo8 s=(false,if zkR [43] s 0=true then 1 else 0):=by simp[zo8,hh]
   have HS:=lhd hsg;rw[hh]at h1;have H1':=lhd h1;clear hsg h1 hh;go_wp2_with fail;refine(zpK w _ s 0 false _ [] 0 H1'.out (by omega) 43).mono ?_;rintro e w2 ⟨rfl,h2⟩;have H2:=lhd h2;clear h2;go_wp2_with fail;go_meet
   case rel=>rw[HS.out];exact H2.out
  ·have h1:=H1.out;have hsg:zo8 s=(true,1):=by simp[zo8,hh]
   rw[hh]at h1;have c0:=h1.num.cell (j:=0) rfl;have f0:=h1.num.free (j:=0) (by simp);have HS:=lhd hsg;have H1':=lhd h1;clear hsg h1 hh;go_wp2_with fail;go_meet
   case rel=>rw[HS.out];exact H1'.out.setNum 0 _ rfl (by omega) rfl
 case rest=>
  have hkl:=zo9 s;have HC:=lhd hcut;clear H1 HST hcut;go_wp2_with fail;refine(zpJ w _ s _ _ _ [] 0 HC.out (by omega) hkl).mono ?_;rintro e w1 ⟨rfl,h1⟩;have H1:=lhd h1;clear h1;by_cases hz:zd5 s (zo8 s).2=0
  ·have hsc:znT s=none:=by simp[znT,hz]
   have HSC:=lhd hsc;have h1:=H1.out;have c0:=h1.num.cell (j:=0) rfl;have c1:=h1.num.cell (j:=1) rfl;have c2:=h1.num.cell (j:=2) rfl;have r0:=h1.res.cell (j:=0) rfl;have r1:=h1.res.cell (j:=1) rfl;have r2:=h1.res.cell (j:=2) rfl;have q0:=h1.res.free (j:=0) (by simp);have q1:=h1.res.free (j:=1) (by simp);have q2:=h1.res.free (j:=2) (by simp)
   have hex:(s.extract (zo8 s).2 ((zo8 s).2+zd5 s (zo8 s).2)).toList.isEmpty=true:=by
    rw[hz,ByteArray.toList_eq,Lib.extract_data];simp
   clear hsc h1 hz;go_wp2_with fail;exact bodyPost_ret (v:=.tuple #[.agg #[.bool (zo8 s).1,.slice none 0 0,.int .i64 0],.bool false]) (by simp[results,Tryz.results292,go_sem,r0,r1,r2]) rfl (znX H1.out HSC.out (by simp) (by omega) (by omega) _ _ _)
  ·have hdl:=zd8 s _ hkl;obtain⟨whole,hw⟩:∃l,l=s.extract (zo8 s).2 ((zo8 s).2+zd5 s (zo8 s).2):=⟨_,rfl⟩
   have hwl:whole.data.toList=subL s (zo8 s).2 (zd5 s (zo8 s).2):=by
    subst hw;rw[Lib.extract_data,Nat.add_sub_cancel_left];rfl
   have hws:whole.size=zd5 s (zo8 s).2:=by
    have:=congrArg List.length hwl;simp[subL]at this;omega
   have hne:whole.toList.isEmpty=false:=zqQ _ (by omega);rw[←hw];have HWL:=lhd hwl;have hwb:whole.size≤64:=by omega
   have HWS:=lhd hws;clear hw hwl hws;obtain⟨i0,hi,iz0,iz1,iz2⟩:=info_parts (P:=Tryz.prog) zro;have c1:=H1.out.num.cell (j:=1) rfl;go_wp2_with (at_builtin;refine Lib.wpList_append_own_string _ rfl _ _ 62 9 rfl (w.heap.size+4) 5 i0 Tryz.underlying62 Tryz.underlying9 hi iz0 iz1 iz2 _ _ _ rfl H1.out.own _ rfl (by unfold maxLen;simp;omega) (by simp;omega) (by have:=H1.out.size;omega) ?_)
   intro v2 w2 ho2 hg2 _;obtain⟨hn2,h2⟩:=H1.out.app (x:=whole.data.toList) hg2 ho2 (by simp) (zbD _ _);obtain⟨a2,cap2,rfl,hc2,hm2⟩:=(SlR.of_own ho2).shape;rw[HWL.out,List.nil_append]at h2;have k1:=hn2.cell (j:=1) rfl;have q1:=hn2.free (j:=1) (by simp);have H2:=lhd h2;clear h2 ho2 hg2 hn2 c1;go_wp2_with fail;refine(zpK w _ s _ _ _ _ 0 H2.out (by omega) 46).mono ?_;rintro e w3 ⟨rfl,h3⟩;have H3:=lhd h3;clear h3 k1 q1;go_upto_if 37 with fail
   go_cut [] (fun wc=>∃dv ds ex k,zfP s ((zo8 s).2+zd5 s (zo8 s).2) (subL s (zo8 s).2 (zd5 s (zo8 s).2))=some (ds,ex,k)∧ScanSt w wc s k (zo8 s).1 dv ds ex)
   case first=>
    cases hh:zkR [46] s ((zo8 s).2+zd5 s (zo8 s).2)
    ·have hf:zfP s ((zo8 s).2+zd5 s (zo8 s).2) (subL s (zo8 s).2 (zd5 s (zo8 s).2))=some (subL s (zo8 s).2 (zd5 s (zo8 s).2),0,(zo8 s).2+zd5 s (zo8 s).2):=by
      unfold zfP;rw[if_neg (by simp[hh])]
     have h3:=H3.out;rw[hh,if_neg (by simp)]at h3;have H3':=lhd h3;have HF:=lhd hf;clear hh h3 hf;go_wp2_with fail;go_meet
     case rel=>exact⟨_,_,_,_,HF.out,H3'.out⟩
    ·have hlt:=zkS hh;have h3:=H3.out;rw[hh,if_pos rfl]at h3;have H3':=lhd h3;have HH:=lhd hh;clear hh h3;go_wp2_with fail;refine(zpJ w _ s _ _ _ _ 0 H3'.out (by omega) hlt).mono ?_;rintro e w4 ⟨rfl,h4⟩;have H4:=lhd h4;clear h4;have hkl2:(zo8 s).2+zd5 s (zo8 s).2+1+zd5 s ((zo8 s).2+zd5 s (zo8 s).2+1)≤s.size:=zd8 s _ hlt;by_cases hz2:zd5 s ((zo8 s).2+zd5 s (zo8 s).2+1)=0
     ·have hsc:znT s=none:=by
       have h0:zfP s ((zo8 s).2+zd5 s (zo8 s).2) (subL s (zo8 s).2 (zd5 s (zo8 s).2))=none:=by
        unfold zfP;rw[if_pos HH.out,if_pos hz2]
       unfold znT;rw[if_neg (by omega)];simp only;rw[if_neg hz,h0]
      have HSC:=lhd hsc;have h1:=H4.out;have c0:=h1.num.cell (j:=0) rfl;have c1:=h1.num.cell (j:=1) rfl;have c2:=h1.num.cell (j:=2) rfl;have r0:=h1.res.cell (j:=0) rfl;have r1:=h1.res.cell (j:=1) rfl;have r2:=h1.res.cell (j:=2) rfl;have q0:=h1.res.free (j:=0) (by simp);have q1:=h1.res.free (j:=1) (by simp);have q2:=h1.res.free (j:=2) (by simp)
      have hex:(s.extract ((zo8 s).2+zd5 s (zo8 s).2+1) ((zo8 s).2+zd5 s (zo8 s).2+1+zd5 s ((zo8 s).2+zd5 s (zo8 s).2+1))).toList.isEmpty=true:=by
       rw[hz2,ByteArray.toList_eq,Lib.extract_data];simp
      clear hsc h1 hz2;go_wp2_with fail;exact bodyPost_ret (v:=.tuple #[.agg #[.bool (zo8 s).1,.slice a2 whole.size cap2,.int .i64 0],.bool false]) (by simp[results,Tryz.results292,go_sem,r0,r1,r2]) rfl (znX H4.out HSC.out (zpW _ _ _ (by omega)) (by omega) (by omega) _ _ _)
     ·obtain⟨part,hw⟩:∃l,l=s.extract ((zo8 s).2+zd5 s (zo8 s).2+1) ((zo8 s).2+zd5 s (zo8 s).2+1+zd5 s ((zo8 s).2+zd5 s (zo8 s).2+1)):=⟨_,rfl⟩;have hpl:part.data.toList=subL s ((zo8 s).2+zd5 s (zo8 s).2+1) (zd5 s ((zo8 s).2+zd5 s (zo8 s).2+1)):=by rw[hw];exact zpU _ _ _
      have hps:part.size=zd5 s ((zo8 s).2+zd5 s (zo8 s).2+1):=by rw[hw];exact zpX _ _ _ hkl2
      have hne2:part.toList.isEmpty=false:=zqQ _ (by omega)
      have hf:zfP s ((zo8 s).2+zd5 s (zo8 s).2) (subL s (zo8 s).2 (zd5 s (zo8 s).2))=some (subL s (zo8 s).2 (zd5 s (zo8 s).2)++part.data.toList,-(part.size:Int),(zo8 s).2+zd5 s (zo8 s).2+1+zd5 s ((zo8 s).2+zd5 s (zo8 s).2+1)):=by
       rw[hps,hpl];unfold zfP;rw[if_pos HH.out,if_neg hz2]
      have hpb:part.size≤64:=by omega
      have HF:=lhd hf;rw[←hw];have c1:=H4.out.num.cell (j:=1) rfl;have hsl:=zpW s (zo8 s).2 (zd5 s (zo8 s).2) (by omega);clear hf hw hpl hps;go_wp2_with (at_builtin;refine Lib.wpList_append_own_string _ rfl _ _ 62 9 rfl (w.heap.size+4) 5 i0 Tryz.underlying62 Tryz.underlying9 hi iz0 iz1 iz2 _ _ _ rfl H4.out.own _ rfl (by unfold maxLen;omega) (by omega) (by have:=H4.out.size;omega) ?_)
      intro v5 w5 ho5 hg5 _;obtain⟨hn5,h5⟩:=H4.out.app (x:=part.data.toList) hg5 ho5 (by simp) (zbD _ _);obtain⟨a5,cap5,rfl,hc5,hm5⟩:=(SlR.of_own ho5).shape;have k1:=hn5.cell (j:=1) rfl;have q1:=hn5.free (j:=1) (by simp);have k2:=h5.num.cell (j:=2) rfl;have q2:=h5.num.free (j:=2) (by simp);have H5:=lhd h5;clear h5 ho5 hg5 hn5 c1 hsl;go_wp2_with fail;go_meet
      case rel=>exact⟨_,_,_,_,HF.out,H5.out.setNum 2 _ rfl (by omega) rfl⟩
   case rest=>
    obtain⟨dv,ds,ex,k,hfr,h4⟩:=hcut;obtain⟨ad,capd,rfl,hcd,hmd⟩:=h4.slr.shape;have hk:=zfR hdl hfr;obtain⟨hdl2,hex1,hex2⟩:=zfQ hs (Nat.le_trans (zpV _ _ _) (by omega)) hfr;have HFR:=lhd hfr;have H4:=lhd h4;clear hfr h4 H3 H2 HWL HWS HC H1;go_wp2_with fail;refine(zpL w _ s _ _ _ _ _ H4.out (by omega) 101 69).mono ?_;rintro e w5 ⟨rfl,h5⟩;have H5:=lhd h5;clear h5;go_upto_if 53 with fail
    go_cut [] (fun wc=>∃e k',expS s k=some (e,k')∧ -2000000≤e∧e≤2000000∧ScanSt w wc s k' (zo8 s).1 (.slice ad ds.length capd) ds (ex+e))
    case first=>
     cases hh:zkR [101,69] s k
     ·have hf:expS s k=some (0,k):=by
       unfold expS;rw[if_neg (by simp[hh])]
      have h3:=H5.out;rw[hh,if_neg (by simp)]at h3;have H3':=lhd h3;have HF:=lhd hf;clear hh h3 hf;go_wp2_with fail;go_meet
      case rel=>exact⟨0,k,HF.out,by omega,by omega,by rw[Int.add_zero];exact H3'.out⟩
     ·have hlt:k+1≤s.size:=zkS hh;have h3:=H5.out;rw[hh,if_pos rfl]at h3;have H3':=lhd h3;have HH:=lhd hh;clear hh h3;go_wp2_with fail;refine(zpK w _ s _ _ _ _ _ H3'.out (by omega) 45).mono ?_;rintro e w6 ⟨rfl,h6⟩;have H6:=lhd h6;clear h6;go_upto_if 57 with fail
      go_cut [10] (fun s10 wc=>s10=.bool (ze9 s (k+1)).1∧ScanSt w wc s (ze9 s (k+1)).2 (zo8 s).1 (.slice ad ds.length capd) ds ex)
      case first=>
       cases hh:zkR [45] s (k+1)
       ·have hsg:ze9 s (k+1)=(false,if zkR [43] s (k+1)=true then k+1+1 else k+1):=by unfold ze9;rw[if_neg (by simp[hh])]
        have h6:=H6.out;rw[hh,if_neg (by simp)]at h6;have H6':=lhd h6;have HS:=lhd hsg;clear h6 hh hsg;go_wp2_with fail;refine(zpK w _ s _ _ _ _ _ H6'.out (by omega) 43).mono ?_;rintro e w7 ⟨rfl,h7⟩;have H7:=lhd h7;clear h7;go_wp2_with fail;go_meet
        case rel=>exact⟨by rw[HS.out],by rw[HS.out];exact H7.out⟩
       ·have hsg:ze9 s (k+1)=(true,k+1+1):=by unfold ze9;rw[if_pos hh]
        have h6:=H6.out;rw[hh,if_pos rfl]at h6;have H6':=lhd h6;have HS:=lhd hsg;clear h6 hh hsg;go_wp2_with fail;go_meet
        case rel=>exact⟨by rw[HS.out],by rw[HS.out];exact H6'.out⟩
      case rest=>
       obtain⟨rfl,h7⟩:=hcut;have hk2:=zfa s (k+1) hlt;have HE:Hid (∃p,ze9 s (k+1)=p):=lhd ⟨_,rfl⟩;obtain⟨⟨b2,k2⟩,hE⟩:=HE.out;rw[hE]at h7 hk2;rw[hE];simp only at h7 hk2⊢;have H7:=lhd h7;have HE':=lhd hE;clear h7 hE HE H3' H6;go_wp2_with fail;refine(zpJ w _ s _ _ _ _ _ H7.out (by omega) hk2).mono ?_;rintro e w8 ⟨rfl,h8⟩;have hkl3:k2+zd5 s k2≤s.size:=zd8 s _ hk2;by_cases hz3:zd5 s k2=0
       ·have hsc:znT s=none:=by
         have h0:expS s k=none:=by
          unfold expS;rw[if_pos HH.out,HE'.out];simp[hz3]
         unfold znT;rw[if_neg (by omega)];simp only;rw[if_neg hz,HFR.out];simp only;rw[h0]
        have HSC:=lhd hsc;have c0:=h8.num.cell (j:=0) rfl;have c1:=h8.num.cell (j:=1) rfl;have c2:=h8.num.cell (j:=2) rfl;have r0:=h8.res.cell (j:=0) rfl;have r1:=h8.res.cell (j:=1) rfl;have r2:=h8.res.cell (j:=2) rfl;have q0:=h8.res.free (j:=0) (by simp);have q1:=h8.res.free (j:=1) (by simp);have q2:=h8.res.free (j:=2) (by simp)
        have hex:(s.extract k2 (k2+zd5 s k2)).toList.isEmpty=true:=by
         rw[hz3,ByteArray.toList_eq,Lib.extract_data];simp
        have H8:=lhd h8;clear hsc h8 hz3;go_wp2_with fail;exact bodyPost_ret (v:=.tuple #[.agg #[.bool (zo8 s).1,.slice ad ds.length capd,.int .i64 ex],.bool false]) (by simp[results,Tryz.results292,go_sem,r0,r1,r2]) rfl (znX H8.out HSC.out (by omega) (by omega) (by omega) _ _ _)
       ·obtain⟨part,hw⟩:∃l,l=s.extract k2 (k2+zd5 s k2):=⟨_,rfl⟩;have hpl:part.data.toList=subL s k2 (zd5 s k2):=by rw[hw];exact zpU _ _ _
        have hps:part.size=zd5 s k2:=by rw[hw];exact zpX _ _ _ hkl3
        have hne2:part.toList.isEmpty=false:=zqQ _ (by omega);have hpb:part.size≤64:=by omega
        have hdig:∀j (h:j<part.size),48≤part[j].toNat∧part[j].toNat≤57:=by
         intro j hj;have h1:=zd6 s k2 j (by omega) (by omega);have h2:part.data.toList[j]? =some part[j]:=List.getElem?_eq_getElem (by simpa using hj);rw[hpl,subL,List.getElem?_take,if_pos (by omega),List.getElem?_drop,List.getElem?_eq_getElem (by simp;omega)]at h2;rw[←Option.some.inj h2];show 48≤s[k2+j].toNat∧s[k2+j].toNat≤57;simpa[zhj] using h1
        rw[←hw];have HPL:=lhd hpl;have HPS:=lhd hps;have hcv:=run_bytes_of_string (P:=Tryz.prog) w8 9 62 5 part Tryz.underlying9 Tryz.underlying62 Tryz.underlying5;have hown:=zbG w8.drew part (grownCap w8 part.size 0 5) 5 (bytesRow part (grownCap w8 part.size 0 5)).size (zbH _ _);have h9:=(show ScanSt w w8.drew s _ _ _ _ _ from h8.drewN 1).alloc (.cells (bytesRow part (grownCap w8 part.size 0 5)) 5 ((bytesRow part (grownCap w8 part.size 0 5)).size,(bytesRow part (grownCap w8 part.size 0 5)).size+1));generalize grownCap w8 part.size 0 5=cap9 at*;generalize w8.drew.alloc (.cells (bytesRow part cap9) 5 ((bytesRow part cap9).size,(bytesRow part cap9).size+1))=w9 at*;have HOWN:=lhd hown;have H9:=lhd h9;have HDG:=lhd hdig;clear hw hpl hps hown h8 h9 hdig;go_wp2_with fail;clear hcv;go_loop [12,14,68] (fun e _ i=>∃j:Nat,j≤part.size∧i=.int .i64 j∧e=.int .i64 (zfb (part.data.toList.take j))∧0≤zfb (part.data.toList.take j)∧zfb (part.data.toList.take j)≤1048576) (fun _ _ i=>part.size-(intOf i).toNat)
        case atStart=>exact⟨0,Nat.zero_le _,rfl,rfl,by simp[zfb],by simp[zfb]⟩
        case round=>
         obtain⟨j,hj,rfl,rfl,he0,he1⟩:=hrel;by_cases hjl:j<part.size
         ·have hcell:w9.cell? ⟨w8.heap.size,j,none⟩=some (.int .u8 part[j].toNat):=HOWN.out.cell (by
           rw[List.getElem?_map,List.getElem?_eq_getElem (by simpa using hjl)];rfl)
          obtain⟨hd1,hd2⟩:=HDG.out j hjl;have hsn:=zfd (part.data.toList.take j) part[j];rw[←zqn part j hjl]at hsn;have HSN:=lhd hsn;clear hsn;go_wp2_with fail;go_round
          case rel=>exact⟨j+1,by omega,by go_num,by rw[HSN.out],by rw[HSN.out];omega,by rw[HSN.out];omega⟩
          case measure=>simp[intOf];omega
         ·obtain rfl:j=part.size:=by omega
          have e1:part.data.toList.take part.size=part.data.toList:=List.take_of_length_le (by simp);rw[e1]at he0 he1⊢;have hc2:=H9.out.num.cell (j:=2) rfl;have hf2:=H9.out.num.free (j:=2) (by simp)
          have hsc:expS s k=some ((if b2=true then-(zfb part.data.toList)else zfb part.data.toList),k2+zd5 s k2):=by
           unfold expS;rw[if_pos HH.out,HE'.out];simp only;rw[if_neg hz3,HPL.out]
          have HSC:=lhd hsc;clear hsc;clear e1;cases b2
          all_goals
           go_wp2_with fail;go_meet
           case rel=>exact⟨_,_,HSC.out,by simp;omega,by simp;omega,H9.out.setNum 2 _ rfl (by omega) rfl⟩
    case rest=>
     obtain⟨e,k',hxs,he1,he2,h10⟩:=hcut;have c0:=h10.num.cell (j:=0) rfl;have c1:=h10.num.cell (j:=1) rfl;have c2:=h10.num.cell (j:=2) rfl;have ca:=h10.at_.cell (j:=0) rfl;have cs:=h10.str;have r0:=h10.res.cell (j:=0) rfl;have r1:=h10.res.cell (j:=1) rfl;have r2:=h10.res.cell (j:=2) rfl;have q0:=h10.res.free (j:=0) (by simp);have q1:=h10.res.free (j:=1) (by simp);have q2:=h10.res.free (j:=2) (by simp);have hsl:=h10.slr;have HSL:=lhd hsl;have H10:=lhd h10;have HX:=lhd hxs;clear hsl h10 hxs H5;go_upto_region 36 with fail
     go_region_held3 (fun w'=>w'.cell? ⟨w.heap.size+1+1,0,none⟩=some (.bool (zo8 s).1)∧w'.cell? ⟨w.heap.size+1+1,1,none⟩=some (.slice ad ds.length capd)∧w'.cell? ⟨w.heap.size+1+1,2,none⟩=some (.int .i64 (ex+e))∧w'.cell? ⟨w.heap.size+1+1+1,0,none⟩=some (.int .i64 k')∧w'.cell? ⟨w.heap.size,0,none⟩=some (.string s)) (first|exact⟨s0,s1,s2,s3,s4⟩|go_keep)
      (first|(go_at_call 325;refine(zdU _ _ ds _ _ ?_ (by omega) (by omega) (by omega)).mono ?_;(exact HSL.out);rintro e' w9 ⟨hb9,v9,rfl,hs9⟩;have s0:=(hb9.cell (p:=⟨w.heap.size+1+1,0,none⟩) (zbU c0)).trans c0;have s1:=(hb9.cell (p:=⟨w.heap.size+1+1,1,none⟩) (zbU c0)).trans c1;have s2:=(hb9.cell (p:=⟨w.heap.size+1+1,2,none⟩) (zbU c0)).trans c2;have s3:=(hb9.cell (p:=⟨w.heap.size+1+1+1,0,none⟩) (zbU ca)).trans ca;have s4:=(hb9.cell (p:=⟨w.heap.size,0,none⟩) (zbU cs)).trans cs;have p0:=(hb9.cell (p:=⟨w.heap.size+1,0,none⟩) (zbU r0)).trans r0;have p1:=(hb9.cell (p:=⟨w.heap.size+1,1,none⟩) (zbU r0)).trans r1;have p2:=(hb9.cell (p:=⟨w.heap.size+1,2,none⟩) (zbU r0)).trans r2;have o0:=(hb9.frozen (p:=⟨w.heap.size+1,0,none⟩) (zbU r0)).trans q0;have o1:=(hb9.frozen (p:=⟨w.heap.size+1,1,none⟩) (zbU r0)).trans q1;have o2:=(hb9.frozen (p:=⟨w.heap.size+1,2,none⟩) (zbU r0)).trans q2;obtain⟨a9,cap9,rfl,hc9,hm9⟩:=(hs9 _ HSL.out).shape;have HS9:=lhd hs9;have HB9:=lhd hb9;clear hs9 hb9))
     go_wp2_with fail
     exact bodyPost_ret (v:=.tuple #[.agg #[.bool (zj3 ((zo8 s).1,ds,ex+e)).1,.slice a9 (zj3 ((zo8 s).1,ds,ex+e)).2.1.length cap9,.int .i64 (zj3 ((zo8 s).1,ds,ex+e)).2.2],.bool ((k':Int)==(s.size:Int))]) (by simp[results,Tryz.results292,go_sem,p0,p1,p2]) rfl
      (znV H10.out (by
        unfold znT;rw[if_neg (by omega)];simp only;rw[if_neg hz,HFR.out];simp only;rw[HX.out]) (by omega) (by omega) (by omega) HB9.out HS9.out _ _ _)
end Go.Proofs.YtfppgpamkdkckaaGreatDoor
