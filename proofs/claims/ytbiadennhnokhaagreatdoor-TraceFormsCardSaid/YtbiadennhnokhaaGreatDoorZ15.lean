import Derived.Test.YtbiadennhnokhaaGreatDoorZ00
import Derived.Test.YtbiadennhnokhaaGreatDoorZ12
set_option maxRecDepth 100000
set_option maxHeartbeats 16000000
namespace Go.Proofs.YtbiadennhnokhaaGreatDoor
open Go.RowKit
def zao (s:ByteArray) (w:World) (e:Ending) (w':World):Prop:=
 ∃(neg:Bool) (ds:ByteArray) (ex:Int) (ok:Bool),e=.returned (.tuple #[.agg #[.bool neg,.string ds,.int .i64 ex],.bool ok])∧zkG s=(if ok=true then some (neg,ds.data.toList,ex)else none)∧
  (ok=true→ds.size≤1000∧ -1000000≤ex∧ex≤1000000)∧Below w.heap.size w w'
theorem zao.no {s:ByteArray} {w w':World} (h:zkG s=none) (hb:Below w.heap.size w w'):zao s w (.returned (.tuple #[.agg #[.bool false,.string ⟨#[]⟩,.int .i64 0],.bool false])) w':=
 ⟨_,_,_,_,rfl,by simp[h],(fun h=>(by cases h)),hb⟩
theorem za7 {B:Nat} {a w:World} (h:Below B a w) (n:Nat):Below B a (w.drewN n):=⟨h.os,h.tape,h.output,h.size,h.block⟩
structure RdSt (w wr:World) (neg:Bool) (s:ByteArray) (ex:Int):Prop where
 p:zal wr (w.heap.size+1) [.bool neg,.string s,.int .i64 ex]
 r:zal wr w.heap.size [.bool false,.string ⟨#[]⟩,.int .i64 0]
 b:Below w.heap.size w wr
theorem RdSt.set0 {w wr:World} {neg neg':Bool} {s:ByteArray} {ex:Int} (h:RdSt w wr neg s ex):RdSt w (wr.setCell ⟨w.heap.size+1,0,none⟩ (.bool neg')) neg' s ex:=
 ⟨h.p.set (j:=0) (by simp) _,h.r.setOther (by omega) _ _,h.b.setCell (Nat.le_succ _) _⟩
theorem RdSt.set1 {w wr:World} {neg:Bool} {s s':ByteArray} {ex:Int} (h:RdSt w wr neg s ex):RdSt w (wr.setCell ⟨w.heap.size+1,1,none⟩ (.string s')) neg s' ex:=
 ⟨h.p.set (j:=1) (by simp) _,h.r.setOther (by omega) _ _,h.b.setCell (Nat.le_succ _) _⟩
theorem RdSt.set2 {w wr:World} {neg:Bool} {s:ByteArray} {ex ex':Int} (h:RdSt w wr neg s ex):RdSt w (wr.setCell ⟨w.heap.size+1,2,none⟩ (.int .i64 ex')) neg s ex':=
 ⟨h.p.set (j:=2) (by simp) _,h.r.setOther (by omega) _ _,h.b.setCell (Nat.le_succ _) _⟩
theorem RdSt.drew {w wr:World} {neg:Bool} {s:ByteArray} {ex:Int} (h:RdSt w wr neg s ex):RdSt w wr.drew neg s ex:=⟨h.p,h.r,h.b.drew⟩
theorem RdSt.drewN {w wr:World} {neg:Bool} {s:ByteArray} {ex:Int} (h:RdSt w wr neg s ex) (n:Nat):RdSt w (wr.drewN n) neg s ex:=⟨h.p,h.r,za7 h.b n⟩
theorem RdSt.res {w wr:World} {neg:Bool} {s:ByteArray} {ex:Int} (h:RdSt w wr neg s ex) (a b c:Value):
 ((((wr.setCell ⟨w.heap.size,0,none⟩ a).setCell ⟨w.heap.size,1,none⟩ b).setCell ⟨w.heap.size,2,none⟩ c).cell? ⟨w.heap.size,0,none⟩=some a∧(((wr.setCell ⟨w.heap.size,0,none⟩ a).setCell ⟨w.heap.size,1,none⟩ b).setCell ⟨w.heap.size,2,none⟩ c).cell? ⟨w.heap.size,1,none⟩=some b∧(((wr.setCell ⟨w.heap.size,0,none⟩ a).setCell ⟨w.heap.size,1,none⟩ b).setCell ⟨w.heap.size,2,none⟩ c).cell? ⟨w.heap.size,2,none⟩=some c)∧
  Below w.heap.size w (((wr.setCell ⟨w.heap.size,0,none⟩ a).setCell ⟨w.heap.size,1,none⟩ b).setCell ⟨w.heap.size,2,none⟩ c):=
 ⟨set3 (h.r.cell (j:=0) rfl) (h.r.cell (j:=1) rfl) (h.r.cell (j:=2) rfl) a b c,za4 h.b a b c⟩
theorem RdSt.facts {w wr:World} {neg:Bool} {s:ByteArray} {ex:Int} (h:RdSt w wr neg s ex):
 (wr.cell? ⟨w.heap.size+1,0,none⟩=some (.bool neg)∧wr.cell? ⟨w.heap.size+1,1,none⟩=some (.string s)∧wr.cell? ⟨w.heap.size+1,2,none⟩=some (.int .i64 ex))∧
 (wr.frozen? ⟨w.heap.size+1,0,none⟩=false∧wr.frozen? ⟨w.heap.size+1,1,none⟩=false∧wr.frozen? ⟨w.heap.size+1,2,none⟩=false)∧
 (wr.cell? ⟨w.heap.size,0,none⟩=some (.bool false)∧wr.cell? ⟨w.heap.size,1,none⟩=some (.string ⟨#[]⟩)∧wr.cell? ⟨w.heap.size,2,none⟩=some (.int .i64 0))∧
 (wr.frozen? ⟨w.heap.size,0,none⟩=false∧wr.frozen? ⟨w.heap.size,1,none⟩=false∧wr.frozen? ⟨w.heap.size,2,none⟩=false):=
 ⟨⟨h.p.cell (j:=0) rfl,h.p.cell (j:=1) rfl,h.p.cell (j:=2) rfl⟩,⟨h.p.free (j:=0) (by simp),h.p.free (j:=1) (by simp),h.p.free (j:=2) (by simp)⟩,
  ⟨h.r.cell (j:=0) rfl,h.r.cell (j:=1) rfl,h.r.cell (j:=2) rfl⟩,⟨h.r.free (j:=0) (by simp),h.r.free (j:=1) (by simp),h.r.free (j:=2) (by simp)⟩⟩
theorem zfJ (set:List UInt8) (s:ByteArray) (k:Nat) (h:k<s.size):zjd set s k=set.contains s[k]:=by
 unfold zjd;rw[List.getElem?_eq_getElem (show k<s.data.toList.length by simpa using h)];rfl
theorem zfK (set:List UInt8) (s:ByteArray) (k:Nat) (h:s.size≤k):zjd set s k=false:=by
 unfold zjd;rw[List.getElem?_eq_none (show s.data.toList.length≤k by simpa using h)]
theorem zfL (a b:UInt8) (s:ByteArray) (k:Nat):zjd [a,b] s k=(zjd [a] s k||zjd [b] s k):=by
 unfold zjd;cases s.data.toList[k]? with
 |none=>rfl
 |some c=>simp
theorem znk {s:ByteArray} (h:zjd [43,45] s 0=false):zni s=(false,0):=by
 rw[zfL,Bool.or_eq_false_iff]at h;simp[zni,h.1,h.2]
theorem znl {s:ByteArray} (h:zjd [43,45] s 0=true):zni s=(zjd [45] s 0,1):=by
 rw[zfL,Bool.or_eq_true]at h;unfold zni;cases h1:zjd [45] s 0
 ·rw[h1]at h;have h2:zjd [43] s 0=true:=by simpa using h
  simp[h2]
 ·simp
theorem zec (s:ByteArray) (k:Nat):zeb s k=(zjd [45] s k,if zjd [43,45] s k=true then k+1 else k):=by
 rw[zfL];unfold zeb;cases h1:zjd [45] s k
 ·simp
 ·simp
theorem zfI (s:ByteArray) (k:Nat) (h:k<s.size):((s[k].toNat:Int)==45)=zjd [45] s k:=by
 rw[zfJ _ s k h];by_cases h1:s[k]=45
 ·have:((s[k].toNat:Int)==45)=true:=zpj (b:=45) h1;rw[this,h1];rfl
 ·rw[zpl (n:=45) rfl h1];simp[h1]
theorem zk8 (s:ByteArray) (k:Nat) (x:Int) (w:World) (hx:x=(k:Int)) (hk:k≤s.size) (hs:s.size≤maxLen):
 Calls Tryz.prog 289 #[.string s,.int .i64 x] w fun e w'=>e=.returned (.int .i64 (zdC s k))∧w=w':=by
 subst hx;exact zk7 s k w hk hs
theorem ziO {a b:Nat} (h:a<b):decide (a<b)=true:=by simpa using h
theorem ziP {a b:Nat} (h:¬a<b):decide (a<b)=false:=by simpa using h
theorem zn8 (s:ByteArray) (k j:Nat) (h:k+j<s.size):subL s k (j+1)=subL s k j++ [s[k+j]]:=by
 unfold subL;rw[List.take_add_one,List.getElem?_drop,List.getElem?_eq_getElem (show k+j<s.data.toList.length by simpa using h)];rfl
theorem zao.mk {s:ByteArray} {w w':World} {neg:Bool} {ds:ByteArray} {ex:Int} {k:Nat} (h:zkG s=if k=s.size then some (neg,ds.data.toList,ex)else none) (h1:ds.size≤1000) (h2: -1000000≤ex) (h3:ex≤1000000)
 (hb:Below w.heap.size w w'):zao s w (.returned (.tuple #[.agg #[.bool neg,.string ds,.int .i64 ex],.bool ((k:Int)==(s.size:Int))])) w':=by
 refine⟨_,_,_,_,rfl,?_,fun _=>⟨h1,h2,h3⟩,hb⟩;rw[h];by_cases hk:k=s.size
 ·rw[if_pos hk,if_pos (by simp[hk])]
 ·rw[if_neg hk,if_neg (by simp;omega)]
theorem zkY (s:ByteArray) (w:World) (hs:s.size≤maxLen):Calls Tryz.prog 269 #[.string s] w (zao s w):=by
 have hst:RdSt w ((w.alloc (.cells #[.bool false,.string ⟨#[]⟩,.int .i64 0] 275)).alloc (.cells #[.bool false,.string ⟨#[]⟩,.int .i64 0] 275)) false ⟨#[]⟩ 0:=by
  refine⟨?_,?_,((Below.refl _ _).alloc (Nat.le_refl _) _).alloc (by simp) _⟩
  ·have h:=zal.fresh (w.alloc (.cells #[.bool false,.string ⟨#[]⟩,.int .i64 0] 275)) #[.bool false,.string ⟨#[]⟩,.int .i64 0] 275;simp only[World.size_alloc]at h;exact h
  ·exact(zal.fresh w #[.bool false,.string ⟨#[]⟩,.int .i64 0] _).alloc (by simp) _
 have HST:=lhd hst;have HM:=lhd hs;unfold maxLen at hs;clear hst;go_enter Tryz.func269,Tryz.ntmps269;go_upto_region 3 with fail;go_cut [23] (fun v wc=>v=.bool (zjd [43,45] s 0)∧RdSt w wc false ⟨#[]⟩ 0)
 case first=>
  by_cases hp:0<s.size
  ·have hh:=zfJ [43,45] s (0) hp;have hd:=ziO hp;by_cases h1:s[0]=43
   ·have HH:=lhd (show zjd [43,45] s (0)=true by rw[hh,h1];rfl);have hb1:((s[0].toNat:Int)==43)=true:=zpj (b:=43) h1;clear hh h1;go_wp2_with fail;go_meet
    case rel=>exact⟨by rw[HH.out],HST.out⟩
   ·have hb1:((s[0].toNat:Int)==43)=false:=zpl (n:=43) rfl h1;by_cases h2:s[0]=45
    ·have HH:=lhd (show zjd [43,45] s (0)=true by rw[hh,h2];rfl);have hb2:((s[0].toNat:Int)==45)=true:=zpj (b:=45) h2;clear hh h1 h2;go_wp2_with fail;go_meet
     case rel=>exact⟨by rw[HH.out],HST.out⟩
    ·have HH:=lhd (show zjd [43,45] s (0)=false by rw[hh];simp[h1,h2]);have hb2:((s[0].toNat:Int)==45)=false:=zpl (n:=45) rfl h2;clear hh h1 h2;go_wp2_with fail;go_meet
     case rel=>exact⟨by rw[HH.out],HST.out⟩
  ·have HH:=lhd (zfK [43,45] s (0) (by omega));have h0:s.size≤0:=by omega
   have hd:=ziP hp;clear hp;go_wp2_with fail;go_meet
   case rel=>exact⟨by rw[HH.out],HST.out⟩
 case rest=>
  obtain⟨rfl,h1⟩:=hcut;have H1:=lhd h1;clear h1 HST;go_upto_if 23 with fail
  go_cut [5] (fun v wc=>∃(k:Nat) (neg:Bool),v=.int .i64 k∧zni s=(neg,k)∧k≤s.size∧RdSt w wc neg ⟨#[]⟩ 0)
  case first=>
   cases hh:zjd [43,45] s 0
   ·have HS:=lhd (znk hh);clear hh;go_wp2_with fail;go_meet
    case rel=>exact⟨0,false,rfl,HS.out,Nat.zero_le _,H1.out⟩
   ·have hp:=zje hh;have HS:=lhd (znl hh);have HB:=lhd (zfI s 0 hp);have hd:=ziO hp;obtain⟨⟨c0,c1,c2⟩,⟨f0,f1,f2⟩,⟨r0,r1,r2⟩,q0,q1,q2⟩:=(H1.out).facts;clear hh;go_wp2_with fail;go_meet
    case rel=>exact⟨1,_,rfl,HS.out,hp,by rw[←HB.out];exact H1.out.set0⟩
  case rest=>
   obtain⟨k,neg,rfl,hsg,hk,h2⟩:=hcut;have H2:=lhd h2;have HSG:=lhd hsg;clear h2 hsg H1;go_wp2_with fail;refine(zk7 s k _ hk HM.out).mono ?_;rintro e w1 ⟨rfl,rfl⟩;by_cases hz:zdC s k=0
   ·have hzb:((zdC s k:Int)==0)=true:=by simp[hz]
    have HN:=lhd (show zkG s=none by
     unfold zkG;split
     ·rfl
     ·simp only[HSG.out];rw[if_pos hz])
    obtain⟨⟨c0,c1,c2⟩,⟨f0,f1,f2⟩,⟨r0,r1,r2⟩,q0,q1,q2⟩:=(H2.out).facts;clear hz;go_wp2_with fail;obtain⟨⟨e0,e1,e2⟩,hbb⟩:=RdSt.res H2.out (.bool false) (.string ⟨#[]⟩) (.int .i64 0);exact bodyPost_ret (v:=.tuple #[.agg #[.bool false,.string ⟨#[]⟩,.int .i64 0],.bool false]) (by simp[results,Tryz.results269,go_sem,e0,e1,e2]) rfl (zao.no HN.out hbb)
   have hzb:((zdC s k:Int)==0)=false:=by rw[beq_eq_false_iff_ne];omega
   by_cases hbig:64<s.size
   ·have HN:=lhd (show zkG s=none by unfold zkG;rw[if_pos hbig]);obtain⟨⟨c0,c1,c2⟩,⟨f0,f1,f2⟩,⟨r0,r1,r2⟩,q0,q1,q2⟩:=(H2.out).facts;go_wp2_with fail;obtain⟨⟨e0,e1,e2⟩,hbb⟩:=RdSt.res H2.out (.bool false) (.string ⟨#[]⟩) (.int .i64 0);exact bodyPost_ret (v:=.tuple #[.agg #[.bool false,.string ⟨#[]⟩,.int .i64 0],.bool false]) (by simp[results,Tryz.results269,go_sem,e0,e1,e2]) rfl (zao.no HN.out hbb)
   have hs64:s.size≤64:=by omega
   have hdl:=zdF s k hk;obtain⟨n,hn⟩:∃n,n=zdC s k:=⟨_,rfl⟩;rw[←hn]at hz hzb hdl⊢;have HD1:=lhd (show(s.extract k (k+n)).data.toList=subL s k n by rw[Lib.extract_data,Nat.add_sub_cancel_left];rfl);have HD2:=lhd (zn7 s k n hdl);have HNN:=lhd hn
   have HREAD:=lhd (show zkG s=(match zeN s (k+n) (subL s k n)with
    |none=>none
    |some (ds,_,k)=>
     match zeg s k with
     |none=>none
     |some (e,k')=>if k'=s.size then some (neg,ds,(n:Int)-1+e)else none)by
    unfold zkG;rw[if_neg (by omega)];simp only[HSG.out];rw[if_neg (by omega),←hn];rfl)
   have hnp:0<n:=by omega
   clear hbig hz hn;obtain⟨⟨c0,c1,c2⟩,⟨f0,f1,f2⟩,⟨r0,r1,r2⟩,q0,q1,q2⟩:=(H2.out).facts;go_upto_region 9 with fail;generalize s.extract k (k+n)=d1 at HD1 HD2⊢;have H3:=lhd (H2.out.set1 (s':=d1)|>.set2 (ex':=(n:Int)-1));clear c0 c1 c2 f0 f1 f2 r0 r1 r2 q0 q1 q2 H2;have HB9:=lhd (show s.size≤64 from hs64);go_cut [61] (fun v wc=>v=.bool (zjd [46] s (k+n))∧RdSt w wc neg d1 ((n:Int)-1))
   case first=>
    by_cases hp:k+n<s.size
    ·have hh:=zfJ [46] s (k+n) hp;have hd:=ziO hp;by_cases h1:s[k+n]=46
     ·have HH:=lhd (show zjd [46] s (k+n)=true by rw[hh,h1];rfl);have hb1:((s[k+n].toNat:Int)==46)=true:=zpj (b:=46) h1;clear hh h1;go_wp2_with fail;go_meet
      case rel=>exact⟨by rw[HH.out],H3.out⟩
     ·have hb1:((s[k+n].toNat:Int)==46)=false:=zpl (n:=46) rfl h1;have HH:=lhd (show zjd [46] s (k+n)=false by rw[hh];simp[h1]);clear hh h1;go_wp2_with fail;go_meet
      case rel=>exact⟨by rw[HH.out],H3.out⟩
    ·have HH:=lhd (zfK [46] s (k+n) (by omega));have h0:s.size≤k+n:=by omega
     have hd:=ziP hp;clear hp;go_wp2_with fail;go_meet
     case rel=>exact⟨by rw[HH.out],H3.out⟩
   case rest=>
    obtain⟨rfl,h4⟩:=hcut;have H4:=lhd h4;clear h4 H3;go_upto_if 61 with fail
    go_cut [5] (fun v wc=>∃(k1:Nat) (ds:ByteArray) (ex:Int),v=.int .i64 k1∧k1≤s.size∧ds.size≤200∧zeN s (k+n) (subL s k n)=some (ds.data.toList,ex,k1)∧RdSt w wc neg ds ((n:Int)-1))
    case first=>as_aux_lemma=>
     cases hh:zjd [46] s (k+n)
     ·have HF:=lhd (show zeN s (k+n) (subL s k n)=some (d1.data.toList,0,k+n)by
       unfold zeN;rw[if_neg (by simp[hh]),HD1.out])
      clear hh;go_wp2_with fail;go_meet
      case rel=>exact⟨k+n,d1,0,by go_num,hdl,by have:=HD2.out;omega,HF.out,H4.out⟩
     ·have hlt:=zje hh;have HH:=lhd hh;have hle2:=zdF s (k+n+1) hlt;clear hh;go_wp2_with fail;refine(zk8 s (k+n+1) _ _ (by omega) hlt HM.out).mono ?_;rintro e w1 ⟨rfl,rfl⟩;obtain⟨m,hm⟩:∃m,m=zdC s (k+n+1):=⟨_,rfl⟩;rw[←hm]at hle2⊢;have HMM:=lhd hm;clear hm;obtain⟨⟨c0,c1,c2⟩,⟨f0,f1,f2⟩,⟨r0,r1,r2⟩,q0,q1,q2⟩:=(H4.out).facts;by_cases hz2:m=0
      ·have hzb2:((m:Int)==0)=true:=by simp[hz2]
       have HN:=lhd (show zkG s=none by
        rw[HREAD.out,show zeN s (k+n) (subL s k n)=none by unfold zeN;rw[if_pos HH.out,if_pos (by rw[←HMM.out];exact hz2)]])
       clear hz2;go_wp2_with fail;obtain⟨⟨e0,e1,e2⟩,hbb⟩:=RdSt.res H4.out (.bool false) (.string ⟨#[]⟩) (.int .i64 0);exact bodyPost_ret (v:=.tuple #[.agg #[.bool false,.string ⟨#[]⟩,.int .i64 0],.bool false]) (by simp[results,Tryz.results269,go_sem,e0,e1,e2]) rfl (zao.no HN.out hbb)
      ·have hzb2:((m:Int)==0)=false:=by rw[beq_eq_false_iff_ne];omega
       have HE1:=lhd (zn4 s (k+n+1) m);have HE2:=lhd (zn7 s (k+n+1) m hle2)
       have HF:=lhd (show zeN s (k+n) (subL s k n)=some ((d1++s.extract (k+n+1) (k+n+1+m)).data.toList,-(m:Int),k+n+1+m)by
        unfold zeN;rw[if_pos HH.out,←HMM.out,if_neg hz2,zaW,HD1.out,HE1.out])
       have hw1:IntKind.i64.wrap ((k:Int)+n+1)=(k:Int)+n+1:=IntWalk.i64_in _ (by omega);have hw2:IntKind.i64.wrap ((k:Int)+n+1+m)=(k:Int)+n+1+m:=IntWalk.i64_in _ (by omega);have ht1:((k:Int)+n+1).toNat=k+n+1:=by omega
       have ht2:((k:Int)+n+1+m).toNat=k+n+1+m:=by omega
       have hp1:(0:Int)≤(k:Int)+n+1:=by omega
       have hp2:(k:Int)+n+1≤(k:Int)+n+1+m:=by omega
       have hp3:(k:Int)+n+1+m≤s.size:=by omega
       have hd1s:d1.size≤64:=by have:=HD2.out;omega
       have hm64:m≤64:=by omega
       clear hz2;go_wp2_with fail;go_region
       all_goals
        go_wp2_with fail;go_meet
        case rel=>exact⟨k+n+1+m,d1++s.extract (k+n+1) (k+n+1+m),-(m:Int),by go_num,hle2,by rw[ByteArray.size_append,HE2.out,HD2.out];omega,HF.out,H4.out.set1.drew⟩
    case rest=>as_aux_lemma=>
     obtain⟨k1,ds,ex,rfl,hk1,hds,hfr,h5⟩:=hcut
     have HREAD2:=lhd (show zkG s=(match zeg s k1 with
      |none=>none
      |some (e,k')=>if k'=s.size then some (neg,ds.data.toList,(n:Int)-1+e)else none)by
      rw[HREAD.out,hfr])
     have H5:=lhd h5;clear h5 hfr H4 HREAD HD1 HD2;go_upto_region 14 with fail;go_cut [100] (fun v wc=>v=.bool (zjd [101,69] s k1)∧RdSt w wc neg ds ((n:Int)-1))
     case first=>
      by_cases hp:k1<s.size
      ·have hh:=zfJ [101,69] s (k1) hp;have hd:=ziO hp;by_cases h1:s[k1]=101
       ·have HH:=lhd (show zjd [101,69] s (k1)=true by rw[hh,h1];rfl);have hb1:((s[k1].toNat:Int)==101)=true:=zpj (b:=101) h1;clear hh h1;go_wp2_with fail;go_meet
        case rel=>exact⟨by rw[HH.out],H5.out⟩
       ·have hb1:((s[k1].toNat:Int)==101)=false:=zpl (n:=101) rfl h1;by_cases h2:s[k1]=69
        ·have HH:=lhd (show zjd [101,69] s (k1)=true by rw[hh,h2];rfl);have hb2:((s[k1].toNat:Int)==69)=true:=zpj (b:=69) h2;clear hh h1 h2;go_wp2_with fail;go_meet
         case rel=>exact⟨by rw[HH.out],H5.out⟩
        ·have HH:=lhd (show zjd [101,69] s (k1)=false by rw[hh];simp[h1,h2]);have hb2:((s[k1].toNat:Int)==69)=false:=zpl (n:=69) rfl h2;clear hh h1 h2;go_wp2_with fail;go_meet
         case rel=>exact⟨by rw[HH.out],H5.out⟩
      ·have HH:=lhd (zfK [101,69] s (k1) (by omega));have h0:s.size≤k1:=by omega
       have hd:=ziP hp;clear hp;go_wp2_with fail;go_meet
       case rel=>exact⟨by rw[HH.out],H5.out⟩
     case rest=>
      obtain⟨rfl,h6⟩:=hcut;have H6:=lhd h6;clear h6 H5;go_upto_if 100 with fail
      go_cut [5] (fun v wc=>∃(k2:Nat) (e:Int),v=.int .i64 k2∧ -100000≤e∧e≤100000∧zeg s k1=some (e,k2)∧RdSt w wc neg ds ((n:Int)-1+e))
      case first=>as_aux_lemma=>
       cases hh:zjd [101,69] s k1
       ·have HF:=lhd (show zeg s k1=some (0,k1)by
         unfold zeg;rw[if_neg (by simp[hh])])
        clear hh;go_wp2_with fail;go_meet
        case rel=>exact⟨k1,0,rfl,by omega,by omega,HF.out,by rw[Int.add_zero];exact H6.out⟩
       ·have hlt:=zje hh;have HH:=lhd hh;clear hh;obtain⟨k2,hk2⟩:∃k2,k2=k1+1:=⟨_,rfl⟩;have hk2l:k2≤s.size:=by omega
        have hk2i:(k1:Int)+1=(k2:Int):=by omega
        have HK2:=lhd hk2;clear hk2;have hea:=zec s k2;rw[zfL]at hea;by_cases hp:k2<s.size
        ·have hd:=ziO hp;have g1:=zfJ [45] s k2 hp;have g2:=zfJ [43] s k2 hp;by_cases h1:s[k2]=45
         ·have HEA:=lhd (show zeb s k2=(true,k2+1)by rw[hea,g1,g2,h1];rfl);have hb1:((s[k2].toNat:Int)==45)=true:=zpj (b:=45) h1;have hb2:((s[k2].toNat:Int)==43)=false:=zpl (n:=43) rfl (by rw[h1];exact(by decide:(45:UInt8)≠43));clear hea g1 g2 h1;obtain⟨k3,hk3e⟩:∃k3,k3=k2+1:=⟨_,rfl⟩;rw[←hk3e]at HEA;have hk3:k3≤s.size:=by omega
          have hk3i:(k2:Int)+1=(k3:Int):=by omega
          clear hk3e;go_wp2_with fail;refine(zk8 s k3 _ _ (by omega) hk3 HM.out).mono ?_;rintro e w1 ⟨rfl,rfl⟩;clear hk2i;have hle3:=zdF s k3 hk3;obtain⟨m,hm⟩:∃m,m=zdC s k3:=⟨_,rfl⟩;rw[←hm]at hle3⊢;have HMM:=lhd hm;clear hm;by_cases hz2:m=0
          ·have hzb2:((m:Int)==0)=true:=by simp[hz2]
           have HN:=lhd (show zkG s=none by
            rw[HREAD2.out,show zeg s k1=none by unfold zeg;rw[if_pos HH.out,←HK2.out,HEA.out];simp only;rw[if_pos (by rw[←HMM.out];exact hz2)]])
           obtain⟨⟨c0,c1,c2⟩,⟨f0,f1,f2⟩,⟨r0,r1,r2⟩,q0,q1,q2⟩:=(H6.out).facts;clear hz2;go_wp2_with fail;obtain⟨⟨e0,e1,e2⟩,hbb⟩:=RdSt.res H6.out (.bool false) (.string ⟨#[]⟩) (.int .i64 0);exact bodyPost_ret (v:=.tuple #[.agg #[.bool false,.string ⟨#[]⟩,.int .i64 0],.bool false]) (by simp[results,Tryz.results269,go_sem,e0,e1,e2]) rfl (zao.no HN.out hbb)
          have hzb2:((m:Int)==0)=false:=by rw[beq_eq_false_iff_ne];omega
          have HEX:=lhd (show zeg s k1=some ((if true=true then-(zkH (subL s k3 m))else zkH (subL s k3 m)),k3+m)by
           unfold zeg;rw[if_pos HH.out,←HK2.out,HEA.out];simp only;rw[if_neg (by rw[←HMM.out];exact hz2),←HMM.out])
          clear hz2;go_wp2_with fail;go_loop [8,9] (fun e i=>∃j:Nat,j≤m∧i=.int .i64 j∧e=.int .i64 (zkH (subL s k3 j))∧0≤zkH (subL s k3 j)∧zkH (subL s k3 j)≤100000) (fun _ i=>m-(intOf i).toNat)
          case atStart=>exact⟨0,Nat.zero_le _,rfl,rfl,by simp[subL,zkH],by simp[subL,zkH]⟩
          case round=>
           obtain⟨j,hj,rfl,rfl,he0,he1⟩:=hrel;by_cases hjl:j<m
           ·have hkj:k3+j<s.size:=by omega
            have hdg:=zdD s k3 j (by rw[←HMM.out];exact hjl) hkj;obtain⟨hd1,hd2⟩:48≤s[k3+j].toNat∧s[k3+j].toNat≤57:=by simpa[zgd] using hdg
            have HSN:=lhd (show zkH (subL s k3 (j+1))=min (10*zkH (subL s k3 j)+((s[k3+j].toNat:Int)-48)) 100000 by rw[zn8 s k3 j hkj,zkJ]);clear hdg;go_wp2_with fail;go_round
            case rel=>exact⟨j+1,by omega,by go_num,by rw[HSN.out],by rw[HSN.out];omega,by rw[HSN.out];omega⟩
            case measure=>simp[intOf];omega
           ·obtain rfl:j=m:=by omega
            obtain⟨⟨c0,c1,c2⟩,⟨f0,f1,f2⟩,⟨r0,r1,r2⟩,q0,q1,q2⟩:=(H6.out).facts;go_wp2_with fail;go_meet
            case rel=>exact⟨k3+j,_,by go_num,by simp;omega,by simp;omega,HEX.out,by simpa using H6.out.set2⟩
         ·have hb1:((s[k2].toNat:Int)==45)=false:=zpl (n:=45) rfl h1;by_cases h2:s[k2]=43
          ·have HEA:=lhd (show zeb s k2=(false,k2+1)by rw[hea,g1,g2,h2];rfl);have hb2:((s[k2].toNat:Int)==43)=true:=zpj (b:=43) h2;clear hea g1 g2 h1 h2;obtain⟨k3,hk3e⟩:∃k3,k3=k2+1:=⟨_,rfl⟩;rw[←hk3e]at HEA;have hk3:k3≤s.size:=by omega
           have hk3i:(k2:Int)+1=(k3:Int):=by omega
           clear hk3e;go_wp2_with fail;refine(zk8 s k3 _ _ (by omega) hk3 HM.out).mono ?_;rintro e w1 ⟨rfl,rfl⟩;clear hk2i;have hle3:=zdF s k3 hk3;obtain⟨m,hm⟩:∃m,m=zdC s k3:=⟨_,rfl⟩;rw[←hm]at hle3⊢;have HMM:=lhd hm;clear hm;by_cases hz2:m=0
           ·have hzb2:((m:Int)==0)=true:=by simp[hz2]
            have HN:=lhd (show zkG s=none by
             rw[HREAD2.out,show zeg s k1=none by unfold zeg;rw[if_pos HH.out,←HK2.out,HEA.out];simp only;rw[if_pos (by rw[←HMM.out];exact hz2)]])
            obtain⟨⟨c0,c1,c2⟩,⟨f0,f1,f2⟩,⟨r0,r1,r2⟩,q0,q1,q2⟩:=(H6.out).facts;clear hz2;go_wp2_with fail;obtain⟨⟨e0,e1,e2⟩,hbb⟩:=RdSt.res H6.out (.bool false) (.string ⟨#[]⟩) (.int .i64 0);exact bodyPost_ret (v:=.tuple #[.agg #[.bool false,.string ⟨#[]⟩,.int .i64 0],.bool false]) (by simp[results,Tryz.results269,go_sem,e0,e1,e2]) rfl (zao.no HN.out hbb)
           have hzb2:((m:Int)==0)=false:=by rw[beq_eq_false_iff_ne];omega
           have HEX:=lhd (show zeg s k1=some ((if false=true then-(zkH (subL s k3 m))else zkH (subL s k3 m)),k3+m)by
            unfold zeg;rw[if_pos HH.out,←HK2.out,HEA.out];simp only;rw[if_neg (by rw[←HMM.out];exact hz2),←HMM.out])
           clear hz2;go_wp2_with fail;go_loop [8,9] (fun e i=>∃j:Nat,j≤m∧i=.int .i64 j∧e=.int .i64 (zkH (subL s k3 j))∧0≤zkH (subL s k3 j)∧zkH (subL s k3 j)≤100000) (fun _ i=>m-(intOf i).toNat)
           case atStart=>exact⟨0,Nat.zero_le _,rfl,rfl,by simp[subL,zkH],by simp[subL,zkH]⟩
           case round=>
            obtain⟨j,hj,rfl,rfl,he0,he1⟩:=hrel;by_cases hjl:j<m
            ·have hkj:k3+j<s.size:=by omega
             have hdg:=zdD s k3 j (by rw[←HMM.out];exact hjl) hkj;obtain⟨hd1,hd2⟩:48≤s[k3+j].toNat∧s[k3+j].toNat≤57:=by simpa[zgd] using hdg
             have HSN:=lhd (show zkH (subL s k3 (j+1))=min (10*zkH (subL s k3 j)+((s[k3+j].toNat:Int)-48)) 100000 by rw[zn8 s k3 j hkj,zkJ]);clear hdg;go_wp2_with fail;go_round
             case rel=>exact⟨j+1,by omega,by go_num,by rw[HSN.out],by rw[HSN.out];omega,by rw[HSN.out];omega⟩
             case measure=>simp[intOf];omega
            ·obtain rfl:j=m:=by omega
             obtain⟨⟨c0,c1,c2⟩,⟨f0,f1,f2⟩,⟨r0,r1,r2⟩,q0,q1,q2⟩:=(H6.out).facts;go_wp2_with fail;go_meet
             case rel=>exact⟨k3+j,_,by go_num,by simp;omega,by simp;omega,HEX.out,by simpa using H6.out.set2⟩
          ·have hb2:((s[k2].toNat:Int)==43)=false:=zpl (n:=43) rfl h2;have HEA:=lhd (show zeb s k2=(false,k2)by rw[hea,g1,g2];simp[h1,h2]);clear hea g1 g2 h1 h2;go_wp2_with fail;refine(zk8 s k2 _ _ (by omega) hk2l HM.out).mono ?_;rintro e w1 ⟨rfl,rfl⟩;clear hk2i;have hle3:=zdF s k2 hk2l;obtain⟨m,hm⟩:∃m,m=zdC s k2:=⟨_,rfl⟩;rw[←hm]at hle3⊢;have HMM:=lhd hm;clear hm;by_cases hz2:m=0
           ·have hzb2:((m:Int)==0)=true:=by simp[hz2]
            have HN:=lhd (show zkG s=none by
             rw[HREAD2.out,show zeg s k1=none by unfold zeg;rw[if_pos HH.out,←HK2.out,HEA.out];simp only;rw[if_pos (by rw[←HMM.out];exact hz2)]])
            obtain⟨⟨c0,c1,c2⟩,⟨f0,f1,f2⟩,⟨r0,r1,r2⟩,q0,q1,q2⟩:=(H6.out).facts;clear hz2;go_wp2_with fail;obtain⟨⟨e0,e1,e2⟩,hbb⟩:=RdSt.res H6.out (.bool false) (.string ⟨#[]⟩) (.int .i64 0);exact bodyPost_ret (v:=.tuple #[.agg #[.bool false,.string ⟨#[]⟩,.int .i64 0],.bool false]) (by simp[results,Tryz.results269,go_sem,e0,e1,e2]) rfl (zao.no HN.out hbb)
           have hzb2:((m:Int)==0)=false:=by rw[beq_eq_false_iff_ne];omega
           have HEX:=lhd (show zeg s k1=some ((if false=true then-(zkH (subL s k2 m))else zkH (subL s k2 m)),k2+m)by
            unfold zeg;rw[if_pos HH.out,←HK2.out,HEA.out];simp only;rw[if_neg (by rw[←HMM.out];exact hz2),←HMM.out])
           clear hz2;go_wp2_with fail;go_loop [8,9] (fun e i=>∃j:Nat,j≤m∧i=.int .i64 j∧e=.int .i64 (zkH (subL s k2 j))∧0≤zkH (subL s k2 j)∧zkH (subL s k2 j)≤100000) (fun _ i=>m-(intOf i).toNat)
           case atStart=>exact⟨0,Nat.zero_le _,rfl,rfl,by simp[subL,zkH],by simp[subL,zkH]⟩
           case round=>
            obtain⟨j,hj,rfl,rfl,he0,he1⟩:=hrel;by_cases hjl:j<m
            ·have hkj:k2+j<s.size:=by omega
             have hdg:=zdD s k2 j (by rw[←HMM.out];exact hjl) hkj;obtain⟨hd1,hd2⟩:48≤s[k2+j].toNat∧s[k2+j].toNat≤57:=by simpa[zgd] using hdg
             have HSN:=lhd (show zkH (subL s k2 (j+1))=min (10*zkH (subL s k2 j)+((s[k2+j].toNat:Int)-48)) 100000 by rw[zn8 s k2 j hkj,zkJ]);clear hdg;go_wp2_with fail;go_round
             case rel=>exact⟨j+1,by omega,by go_num,by rw[HSN.out],by rw[HSN.out];omega,by rw[HSN.out];omega⟩
             case measure=>simp[intOf];omega
            ·obtain rfl:j=m:=by omega
             obtain⟨⟨c0,c1,c2⟩,⟨f0,f1,f2⟩,⟨r0,r1,r2⟩,q0,q1,q2⟩:=(H6.out).facts;go_wp2_with fail;go_meet
             case rel=>exact⟨k2+j,_,by go_num,by simp;omega,by simp;omega,HEX.out,by simpa using H6.out.set2⟩
        ·have hd:=ziP hp;have hp':s.size≤k2:=by omega
         have HEA:=lhd (show zeb s k2=(false,k2)by rw[hea,zfK _ _ _ hp',zfK _ _ _ hp'];rfl);clear hea hp;go_wp2_with fail;refine(zk8 s k2 _ _ (by omega) hk2l HM.out).mono ?_;rintro e w1 ⟨rfl,rfl⟩;clear hk2i;have hle3:=zdF s k2 hk2l;obtain⟨m,hm⟩:∃m,m=zdC s k2:=⟨_,rfl⟩;rw[←hm]at hle3⊢;have HMM:=lhd hm;clear hm;have hz2:m=0:=by omega
         have hzb2:((m:Int)==0)=true:=by simp[hz2]
         have HN:=lhd (show zkG s=none by
          rw[HREAD2.out,show zeg s k1=none by unfold zeg;rw[if_pos HH.out,←HK2.out,HEA.out];simp only;rw[if_pos (by rw[←HMM.out];exact hz2)]])
         obtain⟨⟨c0,c1,c2⟩,⟨f0,f1,f2⟩,⟨r0,r1,r2⟩,q0,q1,q2⟩:=(H6.out).facts;clear hz2;go_wp2_with fail;obtain⟨⟨e0,e1,e2⟩,hbb⟩:=RdSt.res H6.out (.bool false) (.string ⟨#[]⟩) (.int .i64 0);exact bodyPost_ret (v:=.tuple #[.agg #[.bool false,.string ⟨#[]⟩,.int .i64 0],.bool false]) (by simp[results,Tryz.results269,go_sem,e0,e1,e2]) rfl (zao.no HN.out hbb)
      case rest=>as_aux_lemma=>
       obtain⟨k2,e,rfl,he0,he1,hex,h7⟩:=hcut
       have HREAD3:=lhd (show zkG s=if k2=s.size then some (neg,ds.data.toList,(n:Int)-1+e)else none by
        rw[HREAD2.out,hex])
       have HB:=lhd h7.b;obtain⟨⟨c0,c1,c2⟩,⟨f0,f1,f2⟩,⟨r0,r1,r2⟩,q0,q1,q2⟩:=(h7).facts;have H7:=lhd h7;clear h7 hex H6 HREAD2;go_wp2_with fail;obtain⟨⟨e0,e1,e2⟩,hbb⟩:=RdSt.res H7.out (.bool neg) (.string ds) (.int .i64 ((n:Int)-1+e));exact bodyPost_ret (v:=.tuple #[.agg #[.bool neg,.string ds,.int .i64 ((n:Int)-1+e)],.bool ((k2:Int)==(s.size:Int))]) (by simp[results,Tryz.results269,go_sem,e0,e1,e2]) rfl (zao.mk HREAD3.out (by omega) (by omega) (by omega) hbb)
end Go.Proofs.YtbiadennhnokhaaGreatDoor
