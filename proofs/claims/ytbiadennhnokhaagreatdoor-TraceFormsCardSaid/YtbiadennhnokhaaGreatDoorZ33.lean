import Derived.Test.YtbiadennhnokhaaGreatDoorZ00
import Derived.ChangeSame
import Derived.Deep.Fields
import Derived.Deep.Slices
import Derived.Lib.SmallJoins
import Derived.SizedLaws
import Derived.Test.YtbiadennhnokhaaGreatDoorZ19
import Derived.Test.YtbiadennhnokhaaGreatDoorZ29
set_option maxRecDepth 100000
set_option maxHeartbeats 16000000
namespace Go.Proofs.YtbiadennhnokhaaGreatDoor
open Go.RowKit
set_option linter.unusedSimpArgs false
theorem zoV {α:Type} {P:α→Prop} {l:List α} {k:Nat} (h:k<l.length) (h1:∀x∈l.take k,P x) (h2:P l[k]):∀x∈l.take (k+1),P x:=fun x hx=>by
 rw[List.take_succ_eq_append_getElem h]at hx;rcases List.mem_append.1 hx with hx|hx
 ·exact h1 x hx
 ·rw[List.mem_singleton]at hx;rw[hx];exact h2
theorem zoU {α:Type} {P:α→Prop} {l:List α} (h:∀x∈l.take l.length,P x):∀x∈l,P x:=by rwa [List.take_length]at h
theorem zoW {α:Type} {P:α→Prop} {l:List α}:∀x∈l.take 0,P x:=fun x hx=>by simp at hx
theorem zqq {w:World} {b o cap:Nat} {V:List Vr} (hs:SlR w (.slice (some ⟨b,o,none⟩) V.length cap) V.length (vrs V)) {j:Nat} (hj:j<V.length) (m:Nat) (u:Value) (hu:(vrC V[j])[m]? =some u):w.cell? ⟨b,o+j*7+m,none⟩=some u:=by
 obtain⟨b',o',e',hc'⟩:=hs.vrs hj;injection e' with e';injection e' with e1 e2 _;subst e1 e2;exact hc' m u hu
theorem zlF (v u:Value) (S:List Sc) (V:List Vr) (w:World) (hs:SlR w v S.length (scs S)) (hv:SlR w u V.length (vrs V)) (hS:∀s∈S,s.1.length≤100000) (hV:∀x∈V,x.nm.length≤100000):
 Calls Tryz.prog 125 #[v,u] w fun e w'=>e=.returned (.int .i64 (zbY S V))∧Below w.heap.size w w':=by
 obtain⟨R,hR⟩:∃R,R=zbY S V:=⟨_,rfl⟩;rw[←hR];have HDR:=lhd hR;have HDE:=lhd (zlH v u S V w hs hv);obtain⟨a,cap,rfl,hc,hm⟩:=hs.shape;obtain⟨a2,cap2,rfl,hc2,hm2⟩:=hv.shape;unfold maxLen at hm hm2;have HS:=lhd hs;have HV:=lhd hv;have HSL:=lhd hS;have HVL:=lhd hV;have HB:=lhd (Below.refl w.heap.size w);clear hs hv hR hS hV;by_cases h1:32<S.length
 ·have HR:=lhd (show R=9 by rw[HDR.out];exact zcf (.inl h1));have b1:(32:Int)<(S.length:Int):=by omega
  go_enter Tryz.func125,Tryz.ntmps125;go_wp2_with fail;go_ret;exact⟨zlj HR.out.symm,HB.out⟩
 by_cases h2:128<V.length
 ·have HR:=lhd (show R=9 by rw[HDR.out];exact zcf (.inr h2));have b2:(128:Int)<(V.length:Int):=by omega
  go_enter Tryz.func125,Tryz.ntmps125;go_wp2_with fail;go_ret;exact⟨zlj HR.out.symm,HB.out⟩
 have HA:=lhd (show ¬(32<S.length∨128<V.length)by omega);cases hd:zdu S V
 ·have HR:=lhd (show R=1 by rw[HDR.out];exact zcb HA.out hd);rw[hd]at HDE;clear hd;go_enter Tryz.func125,Tryz.ntmps125;go_wp2_with fail;refine HDE.out.mono ?_;rintro e w1 ⟨rfl,rfl⟩;go_wp2_with fail;go_ret;exact⟨zlj HR.out.symm,HB.out⟩
 rw[hd]at HDE;have HDD:=lhd hd;have HF:=lhd (zdx hd);clear hd;go_enter Tryz.func125,Tryz.ntmps125;go_wp2_with fail;refine HDE.out.mono ?_;rintro e w1 ⟨rfl,rfl⟩;clear HDE;go_wp2_with fail;go_loopw [5] (fun i wr=>∃k:Nat,k≤S.length∧i=.int .i64 k∧(∀i,i<k→(upL S (i+1) (i:Int)).length≤8)∧Below w.heap.size w wr) (fun i _=>S.length-(intOf i).toNat)
 case atStart=>exact⟨0,Nat.zero_le _,rfl,fun i h=>absurd h (Nat.not_lt_zero _),HB.out⟩
 case round=>
  clear HB;obtain⟨k,hk,rfl,hrl,hb⟩:=hrel;have HB:=lhd hb;have HL:=lhd hrl;clear hb hrl;by_cases hlt:k<S.length
  ·have hw1:=zhO k (by omega);have HP:=lhd (zlw _ S k wr (HS.out.below HB.out) HF.out hlt (by omega));by_cases hn:8<(upL S (k+1) (k:Int)).length
   ·have HR:=lhd (show R=9 by rw[HDR.out];exact zcc HA.out HDD.out ⟨k,hlt,hn⟩);have hb9:(8:Int)<((upL S (k+1) (k:Int)).length:Int):=by omega
    generalize (upL S (k+1) (k:Int)).length=n at*;go_wp2_with fail;refine HP.out.mono ?_;rintro e w2 ⟨⟨a9,c9,rfl⟩,hb2⟩;have HB:=lhd (zem HB.out hb2);clear hb2;go_wp2_with fail;go_ret;exact⟨zlj HR.out.symm,HB.out⟩
   ·have HN:=lhd (show ∀i,i<k+1→(upL S (i+1) (i:Int)).length≤8 from fun i hi=>by
     rcases Nat.lt_or_ge i k with h|h
     ·exact HL.out i h
     ·obtain rfl:i=k:=by omega
      omega)
    have hb9:¬(8:Int)<((upL S (k+1) (k:Int)).length:Int):=by omega
    generalize (upL S (k+1) (k:Int)).length=n at*;go_wp2_with fail;refine HP.out.mono ?_;rintro e w2 ⟨⟨a9,c9,rfl⟩,hb2⟩;have HB:=lhd (zem HB.out hb2);clear hb2;go_wp2_with fail;go_roundw;case rel=>exact⟨k+1,hlt,by go_num,HN.out,HB.out⟩
    case measure=>simp[intOf];omega
  ·obtain rfl:k=S.length:=by omega
   have HC:=HL;clear HL hk hlt;go_wp2_with fail;go_loopw [6] (fun i wr=>∃k:Nat,k≤S.length∧i=.int .i64 k∧(∀x∈S.take k,zhM x.1=true)∧Below w.heap.size w wr) (fun i _=>S.length-(intOf i).toNat)
   case atStart=>exact⟨0,Nat.zero_le _,rfl,zoW,HB.out⟩
   case round=>
    clear HB;obtain⟨k,hk,rfl,hrl,hb⟩:=hrel;have HB:=lhd hb;have HL:=lhd hrl;clear hb hrl;by_cases hlt:k<S.length
    ·have hw1:=zhO k (by omega);obtain⟨b,o,rfl,hcell⟩:=(HS.out.below HB.out).scs hlt;have d0:wr.cell? ⟨b,o+k*3,none⟩=some (.string (bsB S[k].1)):=hcell 0 _ rfl;have HW:=lhd (zlN S[k].1 wr (HSL.out _ (List.getElem_mem hlt)));clear hcell;cases hn:zhM S[k].1
     ·have HR:=lhd (show R=4 by rw[HDR.out];exact zcg HA.out HDD.out HC.out (.inl ⟨_,List.getElem_mem hlt,hn⟩));rw[hn]at HW;clear hn;generalize S[k].1=y at*;go_wp2_with fail;refine HW.out.mono ?_;rintro e w2 ⟨rfl,rfl⟩;go_wp2_with fail;go_ret;exact⟨zlj HR.out.symm,HB.out⟩
     ·have HN:=lhd (zoV (P:=fun x=>zhM x.1=true) hlt HL.out hn);rw[hn]at HW;clear hn;generalize S[k].1=y at*;go_wp2_with fail;refine HW.out.mono ?_;rintro e w2 ⟨rfl,rfl⟩;go_wp2_with fail;go_roundw;case rel=>exact⟨k+1,hlt,by go_num,HN.out,HB.out⟩
      case measure=>simp[intOf];omega
    ·obtain rfl:k=S.length:=by omega
     have HNS:=lhd (zoU HL.out);clear HL hk hlt;go_wp2_with fail;go_loopw [7] (fun i wr=>∃k:Nat,k≤V.length∧i=.int .i64 k∧(∀x∈V.take k,zhM x.nm=true)∧Below w.heap.size w wr) (fun i _=>V.length-(intOf i).toNat)
     case atStart=>exact⟨0,Nat.zero_le _,rfl,zoW,HB.out⟩
     case round=>
      clear HB;obtain⟨k,hk,rfl,hrl,hb⟩:=hrel;have HB:=lhd hb;have HL:=lhd hrl;clear hb hrl;by_cases hlt:k<V.length
      ·have hw1:=zhO k (by omega);obtain⟨b,o,rfl,hcell⟩:=(HV.out.below HB.out).vrs hlt;have d0:wr.cell? ⟨b,o+k*7,none⟩=some (.string (bsB V[k].nm)):=hcell 0 _ rfl;have HW:=lhd (zlN V[k].nm wr (HVL.out _ (List.getElem_mem hlt)));clear hcell;cases hn:zhM V[k].nm
       ·have HR:=lhd (show R=4 by rw[HDR.out];exact zcg HA.out HDD.out HC.out (.inr ⟨_,List.getElem_mem hlt,hn⟩));rw[hn]at HW;clear hn;generalize V[k].nm=y at*;go_wp2_with fail;refine HW.out.mono ?_;rintro e w2 ⟨rfl,rfl⟩;go_wp2_with fail;go_ret;exact⟨zlj HR.out.symm,HB.out⟩
       ·have HN:=lhd (zoV (P:=fun x=>zhM x.nm=true) hlt HL.out hn);rw[hn]at HW;clear hn;generalize V[k].nm=y at*;go_wp2_with fail;refine HW.out.mono ?_;rintro e w2 ⟨rfl,rfl⟩;go_wp2_with fail;go_roundw;case rel=>exact⟨k+1,hlt,by go_num,HN.out,HB.out⟩
        case measure=>simp[intOf];omega
      ·obtain rfl:k=V.length:=by omega
       have HNV:=lhd (zoU HL.out);clear HL hk hlt;go_wp2_with fail;go_loopw [8] (fun i wr=>∃k:Nat,k≤S.length∧i=.int .i64 k∧(∀x∈S.take k,0≤x.2.1∧x.2.1≤4)∧Below w.heap.size w wr) (fun i _=>S.length-(intOf i).toNat)
       case atStart=>exact⟨0,Nat.zero_le _,rfl,zoW,HB.out⟩
       case round=>
        clear HB;obtain⟨k,hk,rfl,hrl,hb⟩:=hrel;have HB:=lhd hb;have HL:=lhd hrl;clear hb hrl;by_cases hlt:k<S.length
        ·have hw1:=zhO k (by omega);obtain⟨b,o,rfl,hcell⟩:=(HS.out.below HB.out).scs hlt;have d1:wr.cell? ⟨b,o+k*3+1,none⟩=some (.int .i64 S[k].2.1):=hcell 1 _ rfl;clear hcell;have HBAD:=lhd (fun h=>show R=7 by rw[HDR.out];exact zcj HA.out HDD.out HC.out HNS.out HNV.out (.inl ⟨_,List.getElem_mem hlt,h⟩));have HOKK:=lhd (fun h=>zoV (P:=fun x=>0≤x.2.1∧x.2.1≤4) hlt HL.out h);generalize S[k].2.1=y at*;by_cases e1:y<0
         ·have HR:=lhd (HBAD.out (.inl e1));clear HBAD HOKK;go_wp2_with fail;go_ret;exact⟨zlj HR.out.symm,HB.out⟩
         by_cases e2:4<y
         ·have HR:=lhd (HBAD.out (.inr e2));clear HBAD HOKK;go_wp2_with fail;go_ret;exact⟨zlj HR.out.symm,HB.out⟩
         have HN:=lhd (HOKK.out ⟨by omega,by omega⟩);clear HBAD HOKK;go_wp2_with fail;go_roundw;case rel=>exact⟨k+1,hlt,by go_num,HN.out,HB.out⟩
         case measure=>simp[intOf];omega
        ·obtain rfl:k=S.length:=by omega
         have HTS:=lhd (zoU HL.out);clear HL hk hlt;go_wp2_with fail;go_loopw [9] (fun i wr=>∃k:Nat,k≤V.length∧i=.int .i64 k∧(∀x∈V.take k,0≤x.ty∧x.ty≤18)∧Below w.heap.size w wr) (fun i _=>V.length-(intOf i).toNat)
         case atStart=>exact⟨0,Nat.zero_le _,rfl,zoW,HB.out⟩
         case round=>
          clear HB;obtain⟨k,hk,rfl,hrl,hb⟩:=hrel;have HB:=lhd hb;have HL:=lhd hrl;clear hb hrl;by_cases hlt:k<V.length
          ·have hw1:=zhO k (by omega);obtain⟨b,o,rfl,hcell⟩:=(HV.out.below HB.out).vrs hlt;have d1:wr.cell? ⟨b,o+k*7+1,none⟩=some (.int .i64 V[k].ty):=hcell 1 _ rfl;clear hcell;have HBAD:=lhd (fun h=>show R=7 by rw[HDR.out];exact zcj HA.out HDD.out HC.out HNS.out HNV.out (.inr ⟨_,List.getElem_mem hlt,h⟩));have HOKK:=lhd (fun h=>zoV (P:=fun x=>0≤x.ty∧x.ty≤18) hlt HL.out h);generalize V[k].ty=y at*;by_cases e1:y<0
           ·have HR:=lhd (HBAD.out (.inl e1));clear HBAD HOKK;go_wp2_with fail;go_ret;exact⟨zlj HR.out.symm,HB.out⟩
           by_cases e2:18<y
           ·have HR:=lhd (HBAD.out (.inr e2));clear HBAD HOKK;go_wp2_with fail;go_ret;exact⟨zlj HR.out.symm,HB.out⟩
           have HN:=lhd (HOKK.out ⟨by omega,by omega⟩);clear HBAD HOKK;go_wp2_with fail;go_roundw;case rel=>exact⟨k+1,hlt,by go_num,HN.out,HB.out⟩
           case measure=>simp[intOf];omega
          ·obtain rfl:k=V.length:=by omega
           have HTV:=lhd (zoU HL.out);clear HL hk hlt;go_wp2_with fail;go_loopw [10] (fun i wr=>∃k:Nat,k≤V.length∧i=.int .i64 k∧(∀x∈V.take k,zkE x=false)∧Below w.heap.size w wr) (fun i _=>V.length-(intOf i).toNat)
           case atStart=>exact⟨0,Nat.zero_le _,rfl,zoW,HB.out⟩
           case round=>
            clear HB;obtain⟨k,hk,rfl,hrl,hb⟩:=hrel;have HB:=lhd hb;have HL:=lhd hrl;clear hb hrl;by_cases hlt:k<V.length
            ·have hw1:=zhO k (by omega);obtain⟨b,o,rfl,hcell⟩:=(HV.out.below HB.out).vrs hlt;have d0:wr.cell? ⟨b,o+k*7,none⟩=some (.string (bsB V[k].nm)):=hcell 0 _ rfl;have d1:wr.cell? ⟨b,o+k*7+1,none⟩=some (.int .i64 V[k].ty):=hcell 1 _ rfl;have d2:wr.cell? ⟨b,o+k*7+2,none⟩=some (.int .i64 V[k].sc):=hcell 2 _ rfl;have d3:wr.cell? ⟨b,o+k*7+3,none⟩=some (.int .i64 V[k].sg):=hcell 3 _ rfl;have d4:wr.cell? ⟨b,o+k*7+4,none⟩=some (.bool V[k].rg):=hcell 4 _ rfl;have d5:wr.cell? ⟨b,o+k*7+5,none⟩=some (.int .i64 V[k].mb):=hcell 5 _ rfl;have d6:wr.cell? ⟨b,o+k*7+6,none⟩=some (.int .i64 V[k].lb):=hcell 6 _ rfl;clear hcell;have HBAD:=lhd (fun h=>show R=2 by rw[HDR.out];exact zch HA.out HDD.out HC.out HNS.out HNV.out HTS.out HTV.out ⟨_,List.getElem_mem hlt,h⟩);have HOKK:=lhd (fun h=>zoV (P:=fun x=>zkE x=false) hlt HL.out h);generalize V[k]=y at*;obtain⟨nm,ty,sc,sg,rg,mb,lb⟩:=y;dsimp only at d0 d1 d2 d3 d4 d5 d6;have hb4:Below wr.heap.size wr (wr.alloc (.cells #[.string (bsB nm),.int .i64 ty,.int .i64 sc,.int .i64 sg,.bool rg,.int .i64 mb,.int .i64 lb] 42)):=(Below.refl _ _).alloc (Nat.le_refl _) _;have X4:=zal.fresh wr #[.string (bsB nm),.int .i64 ty,.int .i64 sc,.int .i64 sg,.bool rg,.int .i64 mb,.int .i64 lb] 42;have HB:=lhd (zem HB.out hb4);clear hb4;go_upto_region 34 with fail;generalize wr.alloc (.cells #[.string (bsB nm),.int .i64 ty,.int .i64 sc,.int .i64 sg,.bool rg,.int .i64 mb,.int .i64 lb] 42)=w4 at*;have r4:=X4.cell (j:=4) rfl;have r5:=X4.cell (j:=5) rfl;have r6:=X4.cell (j:=6) rfl;clear X4 d0 d1 d2 d3 d4 d5 d6;have HWI:=lhd (zlC mb lb w4);cases rg with
             |true=>
              have hrb:zkE ⟨nm,ty,sc,sg,true,mb,lb⟩=decide (zqJ mb lb=0):=rfl;rw[hrb]at HBAD HOKK;clear hrb;generalize zqJ mb lb=wf at*;by_cases h0:wf=0
              ·have HR:=lhd (HBAD.out (decide_eq_true h0));have hz0:(wf==0)=true:=by rw[beq_iff_eq];exact h0
               clear HBAD HOKK h0;go_wp2_with fail;refine HWI.out.mono ?_;rintro e w5 ⟨rfl,rfl⟩;go_wp2_with fail;go_ret;exact⟨zlj HR.out.symm,HB.out⟩
              ·have HN:=lhd (HOKK.out (decide_eq_false h0));have hz0:(wf==0)=false:=by rw[beq_eq_false_iff_ne];exact h0
               clear HBAD HOKK h0;go_wp2_with fail;refine HWI.out.mono ?_;rintro e w5 ⟨rfl,rfl⟩;go_wp2_with fail;go_roundw;case rel=>exact⟨k+1,hlt,by go_num,HN.out,HB.out⟩
               case measure=>simp[intOf];omega
             |false=>
              have hrb:zkE ⟨nm,ty,sc,sg,false,mb,lb⟩=(decide (mb≠0)||decide (lb≠0)):=rfl;rw[hrb]at HBAD HOKK;clear hrb HWI;by_cases h0:mb=0
              ·by_cases h00:lb=0
               ·have HN:=lhd (HOKK.out (by simp[h0,h00]));clear HBAD HOKK;subst h0 h00;go_wp2_with fail;go_roundw;case rel=>exact⟨k+1,hlt,by go_num,HN.out,HB.out⟩
                case measure=>simp[intOf];omega
               ·have HR:=lhd (HBAD.out (by simp[h00]));have hz0:(lb==0)=false:=by rw[beq_eq_false_iff_ne];exact h00
                clear HBAD HOKK h00;subst h0;go_wp2_with fail;go_ret;exact⟨zlj HR.out.symm,HB.out⟩
              ·have HR:=lhd (HBAD.out (by simp[h0]));have hz0:(mb==0)=false:=by rw[beq_eq_false_iff_ne];exact h0
               clear HBAD HOKK h0;go_wp2_with fail;go_ret;exact⟨zlj HR.out.symm,HB.out⟩
            ·obtain rfl:k=V.length:=by omega
             have HRB:=lhd (zoU HL.out);clear HL hk hlt;have HSAME:=lhd (fun h=>show R=5 by rw[HDR.out];exact zci HA.out HDD.out HC.out HNS.out HNV.out HTS.out HTV.out HRB.out h);go_wp2_with fail;go_loopw [12] (fun i wr=>∃k:Nat,k≤S.length∧i=.int .i64 k∧(∀i m,∀(hi:i<S.length) (hm:m<i),i<k→zmh S[i]≠zmh (S[m]'(by omega)))∧Below w.heap.size w wr) (fun i _=>S.length-(intOf i).toNat)
             case atStart=>exact⟨0,Nat.zero_le _,rfl,fun i m hi hm h=>absurd h (Nat.not_lt_zero _),HB.out⟩
             case round=>
              clear HB;obtain⟨k,hk,rfl,hrl,hb⟩:=hrel;have HB:=lhd hb;have HL:=lhd hrl;clear hb hrl;by_cases hlt:k<S.length
              ·have hw1:=zhO k (by omega);have HB0:=HB;have hS0:=hlt;go_wp2_with fail;go_loopw [13] (fun i wr=>∃m:Nat,m≤k∧i=.int .i64 m∧(∀q,∀hq:q<k,q<m→zmh S[k]≠zmh (S[q]'(by omega)))∧Below w.heap.size w wr) (fun i _=>k-(intOf i).toNat)
               case atStart=>exact⟨0,Nat.zero_le _,rfl,fun q hq h=>absurd h (Nat.not_lt_zero _),HB0.out⟩
               case round=>
                clear HB0 HB;obtain⟨m,hm9,rfl,hrl,hb⟩:=hrel;have HB:=lhd hb;have HLL:=lhd hrl;clear hb hrl;by_cases hmt:m<k
                ·have hw2:=zhO m (by omega);have hmS:m<S.length:=by omega
                 have hmi:(m:Int)<(k:Int):=by omega
                 obtain⟨b,o,rfl,hcell⟩:=(HS.out.below HB.out).scs hlt;have d0:wr.cell? ⟨b,o+k*3,none⟩=some (.string (bsB S[k].1)):=hcell 0 _ rfl;have d2:wr.cell? ⟨b,o+k*3+2,none⟩=some (.int .i64 S[k].2.2):=hcell 2 _ rfl;have hc2:=zmx (HS.out.below HB.out) hmS;have g0:wr.cell? ⟨b,o+m*3,none⟩=some (.string (bsB S[m].1)):=hc2 0 _ rfl;have g2:wr.cell? ⟨b,o+m*3+2,none⟩=some (.int .i64 S[m].2.2):=hc2 2 _ rfl;clear hcell hc2;have HBAD:=lhd (fun(h:zmh S[k]=zmh S[m])=>HSAME.out (.inl (zh3 ⟨k,m,hlt,hmt,h⟩)))
                 have HOKK:=lhd (fun(h:zmh S[k]≠zmh S[m])=>show ∀q,∀hq:q<k,q<m+1→zmh S[k]≠zmh (S[q]'(by omega))from fun q hq hq2=>by
                  rcases Nat.lt_or_ge q m with h9|h9
                  ·exact HLL.out q hq h9
                  ·obtain rfl:q=m:=by omega
                   exact h)
                 unfold zmh at HBAD HOKK;by_cases e1:S[k].2.2=S[m].2.2
                 ·by_cases e2:S[k].1=S[m].1
                  ·have HR:=lhd (HBAD.out (by rw[e1,e2]));rw[←e1]at g2;rw[←e2]at g0;clear HBAD HOKK e1 e2;generalize S[k].2.2=x at d2 g2;generalize S[k].1=y at d0 g0;go_wp2_with fail;go_quiet (fail);have HB:=lhd (za5 HB.out nq);go_wp2_with fail;go_ret;exact⟨zlj HR.out.symm,HB.out⟩
                  ·have HN:=lhd (HOKK.out (fun h=>e2 (congrArg Prod.snd h)));rw[←e1]at g2;have hss:=za1 (zbv e2);clear HBAD HOKK e1 e2;generalize S[k].2.2=x at d2 g2;generalize S[k].1=y at d0 hss;generalize S[m].1=y2 at g0 hss;go_wp2_with fail;go_quiet (fail);have HB:=lhd (za5 HB.out nq);go_wp2_with fail;go_roundw;case rel=>exact⟨m+1,hmt,by go_num,HN.out,HB.out⟩
                   case measure=>simp[intOf];omega
                 ·have HN:=lhd (HOKK.out (fun h=>e1 (congrArg Prod.fst h)));have hbb:(S[k].2.2==S[m].2.2)=false:=by rw[beq_eq_false_iff_ne];exact e1
                  clear HBAD HOKK e1 d0 g0;generalize S[k].2.2=x at d2 hbb;generalize S[m].2.2=x2 at g2 hbb;go_wp2_with fail;go_quiet (fail);have HB:=lhd (za5 HB.out nq);go_wp2_with fail;go_roundw;case rel=>exact⟨m+1,hmt,by go_num,HN.out,HB.out⟩
                  case measure=>simp[intOf];omega
                ·obtain rfl:m=k:=by omega
                 have HN:=lhd (show ∀i q,∀(hi:i<S.length) (hm:q<i),i<m+1→zmh S[i]≠zmh (S[q]'(by omega))from fun i q hi hq h=>by
                  rcases Nat.lt_or_ge i m with h9|h9
                  ·exact HL.out i q hi hq h9
                  ·obtain rfl:i=m:=by omega
                   exact HLL.out q hq hq)
                 go_wp2_with fail;go_roundw;case rel=>exact⟨m+1,hlt,by go_num,HN.out,HB.out⟩
                 case measure=>simp[intOf];omega
              ·obtain rfl:k=S.length:=by omega
               have HKS:=lhd (zh4 (key:=zmh) (l:=S) (fun i m hi hm=>HL.out i m hi hm hi));clear HL hk hlt;go_wp2_with fail;go_loopw [14] (fun i wr=>∃k:Nat,k≤V.length∧i=.int .i64 k∧(∀i m,∀(hi:i<V.length) (hm:m<i),i<k→zqi V[i]≠zqi (V[m]'(by omega)))∧Below w.heap.size w wr) (fun i _=>V.length-(intOf i).toNat)
               case atStart=>exact⟨0,Nat.zero_le _,rfl,fun i m hi hm h=>absurd h (Nat.not_lt_zero _),HB.out⟩
               case round=>
                clear HB;obtain⟨k,hk,rfl,hrl,hb⟩:=hrel;have HB:=lhd hb;have HL:=lhd hrl;clear hb hrl;by_cases hlt:k<V.length
                ·have hw1:=zhO k (by omega);have HB0:=HB;go_wp2_with fail;go_loopw [15] (fun i wr=>∃m:Nat,m≤k∧i=.int .i64 m∧(∀q,∀hq:q<k,q<m→zqi V[k]≠zqi (V[q]'(by omega)))∧Below w.heap.size w wr) (fun i _=>k-(intOf i).toNat)
                 case atStart=>exact⟨0,Nat.zero_le _,rfl,fun q hq h=>absurd h (Nat.not_lt_zero _),HB0.out⟩
                 case round=>
                  clear HB0 HB;obtain⟨m,hm9,rfl,hrl,hb⟩:=hrel;have HB:=lhd hb;have HLL:=lhd hrl;clear hb hrl;by_cases hmt:m<k
                  ·have hw2:=zhO m (by omega);have hmV:m<V.length:=by omega
                   have hmi:(m:Int)<(k:Int):=by omega
                   obtain⟨b,o,rfl,hcell⟩:=(HV.out.below HB.out).vrs hlt;have d0:wr.cell? ⟨b,o+k*7,none⟩=some (.string (bsB V[k].nm)):=hcell 0 _ rfl;have d1:wr.cell? ⟨b,o+k*7+1,none⟩=some (.int .i64 V[k].ty):=hcell 1 _ rfl;have d2:wr.cell? ⟨b,o+k*7+2,none⟩=some (.int .i64 V[k].sc):=hcell 2 _ rfl;have d3:wr.cell? ⟨b,o+k*7+3,none⟩=some (.int .i64 V[k].sg):=hcell 3 _ rfl;have d4:wr.cell? ⟨b,o+k*7+4,none⟩=some (.bool V[k].rg):=hcell 4 _ rfl;have d5:wr.cell? ⟨b,o+k*7+5,none⟩=some (.int .i64 V[k].mb):=hcell 5 _ rfl;have d6:wr.cell? ⟨b,o+k*7+6,none⟩=some (.int .i64 V[k].lb):=hcell 6 _ rfl;have hc2:=zqq (HV.out.below HB.out) hmV;have g0:wr.cell? ⟨b,o+m*7,none⟩=some (.string (bsB V[m].nm)):=hc2 0 _ rfl;have g1:wr.cell? ⟨b,o+m*7+1,none⟩=some (.int .i64 V[m].ty):=hc2 1 _ rfl;have g2:wr.cell? ⟨b,o+m*7+2,none⟩=some (.int .i64 V[m].sc):=hc2 2 _ rfl;have g3:wr.cell? ⟨b,o+m*7+3,none⟩=some (.int .i64 V[m].sg):=hc2 3 _ rfl;have g4:wr.cell? ⟨b,o+m*7+4,none⟩=some (.bool V[m].rg):=hc2 4 _ rfl;have g5:wr.cell? ⟨b,o+m*7+5,none⟩=some (.int .i64 V[m].mb):=hc2 5 _ rfl;have g6:wr.cell? ⟨b,o+m*7+6,none⟩=some (.int .i64 V[m].lb):=hc2 6 _ rfl;clear hcell hc2;have HBAD:=lhd (fun(h:zqi V[k]=zqi V[m])=>HSAME.out (.inr (zh3 ⟨k,m,hlt,hmt,h⟩)))
                   have HOKK:=lhd (fun(h:zqi V[k]≠zqi V[m])=>show ∀q,∀hq:q<k,q<m+1→zqi V[k]≠zqi (V[q]'(by omega))from fun q hq hq2=>by
                    rcases Nat.lt_or_ge q m with h9|h9
                    ·exact HLL.out q hq h9
                    ·obtain rfl:q=m:=by omega
                     exact h)
                   have HSV:=lhd (fun W=>zlU V[k] V[m] W);have HKY:=lhd (fun(h:V[k].sc=V[m].sc)=>(show zqi V[k]=zqi V[m]↔zl9 V[k] V[m]=true by rw[zma];unfold zqi;simp[h]));have HKN:=lhd (fun(h:V[k].sc≠V[m].sc)=>show zqi V[k]≠zqi V[m]from fun e=>h (congrArg Prod.fst e));generalize V[k]=x at*;generalize V[m]=y at*;by_cases e1:x.sc=y.sc
                   ·have hky:=HKY.out e1;clear HKY HKN;cases hsm:zl9 x y
                    ·have HN:=lhd (HOKK.out (fun h=>by rw[hky,hsm]at h;cases h));rw[hsm]at HSV;clear HBAD HOKK hky hsm;obtain⟨x0,x1,x2,x3,x4,x5,x6⟩:=x;obtain⟨y0,y1,y2,y3,y4,y5,y6⟩:=y;dsimp only at e1 d0 d1 d2 d3 d4 d5 d6 g0 g1 g2 g3 g4 g5 g6;subst e1;have SF:=lhd (fun W (hW:Below wr.heap.size wr W)=>And.intro ((hW.cell (zbT d0)).trans d0) (And.intro ((hW.cell (zbT d1)).trans d1) (And.intro ((hW.cell (zbT d2)).trans d2) (And.intro ((hW.cell (zbT d3)).trans d3) (And.intro ((hW.cell (zbT d4)).trans d4) (And.intro ((hW.cell (zbT d5)).trans d5) (And.intro ((hW.cell (zbT d6)).trans d6) (And.intro ((hW.cell (zbT g0)).trans g0) (And.intro ((hW.cell (zbT g1)).trans g1) (And.intro ((hW.cell (zbT g2)).trans g2) (And.intro ((hW.cell (zbT g3)).trans g3) (And.intro ((hW.cell (zbT g4)).trans g4) (And.intro ((hW.cell (zbT g5)).trans g5) ((hW.cell (zbT g6)).trans g6))))))))))))));go_upto_region 50 with fail;refine wp_region_held_drew (S:=(fun w'=>w'.cell? ⟨b,o+k*7,none⟩=some (.string (bsB x0))∧w'.cell? ⟨b,o+k*7+1,none⟩=some (.int .i64 x1)∧w'.cell? ⟨b,o+k*7+2,none⟩=some (.int .i64 x2)∧w'.cell? ⟨b,o+k*7+3,none⟩=some (.int .i64 x3)∧w'.cell? ⟨b,o+k*7+4,none⟩=some (.bool x4)∧w'.cell? ⟨b,o+k*7+5,none⟩=some (.int .i64 x5)∧w'.cell? ⟨b,o+k*7+6,none⟩=some (.int .i64 x6)∧w'.cell? ⟨b,o+m*7,none⟩=some (.string (bsB y0))∧w'.cell? ⟨b,o+m*7+1,none⟩=some (.int .i64 y1)∧w'.cell? ⟨b,o+m*7+2,none⟩=some (.int .i64 x2)∧w'.cell? ⟨b,o+m*7+3,none⟩=some (.int .i64 y3)∧w'.cell? ⟨b,o+m*7+4,none⟩=some (.bool y4)∧w'.cell? ⟨b,o+m*7+5,none⟩=some (.int .i64 y5)∧w'.cell? ⟨b,o+m*7+6,none⟩=some (.int .i64 y6))) (by kernel_rfl) (SF.out _ (Below.refl _ _).drew) (fun hHeld=>?_);clear d0 d1 d2 d3 d4 d5 d6 g0 g1 g2 g3 g4 g5 g6;refine tkH 0 hHeld (v:=?_) ?_ ?_;rotate_left
                     ·intro w h;(try dsimp only at h);go_simp;all_goals with_reducible rfl
                     simp only[tkS];refine tkH 1 hHeld (v:=?_) ?_ ?_;rotate_left
                     ·intro w h;(try dsimp only at h);go_simp;all_goals with_reducible rfl
                     simp only[tkS];refine tkH 2 hHeld (v:=?_) ?_ ?_;rotate_left
                     ·intro w h;(try dsimp only at h);go_simp;all_goals with_reducible rfl
                     simp only[tkS];refine tkH 3 hHeld (v:=?_) ?_ ?_;rotate_left
                     ·intro w h;(try dsimp only at h);go_simp;all_goals with_reducible rfl
                     simp only[tkS];refine tkH 4 hHeld (v:=?_) ?_ ?_;rotate_left
                     ·intro w h;(try dsimp only at h);go_simp;all_goals with_reducible rfl
                     simp only[tkS];refine tkH 5 hHeld (v:=?_) ?_ ?_;rotate_left
                     ·intro w h;(try dsimp only at h);go_simp;all_goals with_reducible rfl
                     simp only[tkS];refine tkH 6 hHeld (v:=?_) ?_ ?_;rotate_left
                     ·intro w h;(try dsimp only at h);go_simp;all_goals with_reducible rfl
                     simp only[tkS];refine tkH 7 hHeld (v:=?_) ?_ ?_;rotate_left
                     ·intro w h;(try dsimp only at h);go_simp;all_goals with_reducible rfl
                     simp only[tkS];refine tkH 8 hHeld (v:=?_) ?_ ?_;rotate_left
                     ·intro w h;(try dsimp only at h);go_simp;all_goals with_reducible rfl
                     simp only[tkS];refine tkH 9 hHeld (v:=?_) ?_ ?_;rotate_left
                     ·intro w h;(try dsimp only at h);go_simp;all_goals with_reducible rfl
                     simp only[tkS];refine tkH 10 hHeld (v:=?_) ?_ ?_;rotate_left
                     ·intro w h;(try dsimp only at h);go_simp;all_goals with_reducible rfl
                     simp only[tkS];refine tkH 11 hHeld (v:=?_) ?_ ?_;rotate_left
                     ·intro w h;(try dsimp only at h);go_simp;all_goals with_reducible rfl
                     simp only[tkS];refine tkH 12 hHeld (v:=?_) ?_ ?_;rotate_left
                     ·intro w h;(try dsimp only at h);go_simp;all_goals with_reducible rfl
                     simp only[tkS];refine tkH 13 hHeld (v:=?_) ?_ ?_;rotate_left
                     ·intro w h;(try dsimp only at h);go_simp;all_goals with_reducible rfl
                     simp only[tkS];refine tkH 14 hHeld (v:=?_) ?_ ?_;rotate_left
                     ·intro w h;(try dsimp only at h);go_simp;all_goals with_reducible rfl
                     simp only[tkS];refine tkH 15 hHeld (v:=?_) ?_ ?_;rotate_left
                     ·intro w h;(try dsimp only at h);go_simp;all_goals with_reducible rfl
                     simp only[tkS];refine tkH 16 hHeld (v:=?_) ?_ ?_;rotate_left
                     ·intro w h;(try dsimp only at h);go_simp;all_goals with_reducible rfl
                     simp only[tkS];refine tkH 17 hHeld (v:=?_) ?_ ?_;rotate_left
                     ·intro w h;(try dsimp only at h);go_simp;all_goals with_reducible rfl
                     simp only[tkS];refine tkH 18 hHeld (v:=?_) ?_ ?_;rotate_left
                     ·intro w h;(try dsimp only at h);go_simp;all_goals with_reducible rfl
                     simp only[tkS];refine tkH 19 hHeld (v:=?_) ?_ ?_;rotate_left
                     ·intro w h;(try dsimp only at h);go_simp;all_goals with_reducible rfl
                     simp only[tkS];refine oneH 20 (fun K hK=>?_);go_simp;refine(HSV.out _).mono ?_;rintro e w9 ⟨rfl,hb9⟩;have hb8:Below wr.heap.size wr w9:=zem (Below.refl _ _).drew hb9;clear hHeld;go_wp2_with fail;refine hK.out _ _ (SF.out _ hb8) (fun hHeld=>?_);clear hK;try simp only[tkS]
                     refine tkH 21 hHeld (v:=?_) ?_ ?_;rotate_left
                     ·intro w h;(try dsimp only at h);go_simp;all_goals with_reducible rfl
                     simp only[tkS];refine wpAnyH_done (by kernel_rfl) ?_ _;have HB:=lhd (zem HB.out hb8);clear hHeld hb9 hb8;go_wp2_with fail;go_roundw;case rel=>exact⟨m+1,hmt,by go_num,HN.out,HB.out⟩
                     case measure=>simp[intOf];omega
                    ·have HR:=lhd (HBAD.out (hky.2 hsm));rw[hsm]at HSV;clear HBAD HOKK hky hsm;obtain⟨x0,x1,x2,x3,x4,x5,x6⟩:=x;obtain⟨y0,y1,y2,y3,y4,y5,y6⟩:=y;dsimp only at e1 d0 d1 d2 d3 d4 d5 d6 g0 g1 g2 g3 g4 g5 g6;subst e1;have SF:=lhd (fun W (hW:Below wr.heap.size wr W)=>And.intro ((hW.cell (zbT d0)).trans d0) (And.intro ((hW.cell (zbT d1)).trans d1) (And.intro ((hW.cell (zbT d2)).trans d2) (And.intro ((hW.cell (zbT d3)).trans d3) (And.intro ((hW.cell (zbT d4)).trans d4) (And.intro ((hW.cell (zbT d5)).trans d5) (And.intro ((hW.cell (zbT d6)).trans d6) (And.intro ((hW.cell (zbT g0)).trans g0) (And.intro ((hW.cell (zbT g1)).trans g1) (And.intro ((hW.cell (zbT g2)).trans g2) (And.intro ((hW.cell (zbT g3)).trans g3) (And.intro ((hW.cell (zbT g4)).trans g4) (And.intro ((hW.cell (zbT g5)).trans g5) ((hW.cell (zbT g6)).trans g6))))))))))))));go_upto_region 50 with fail;refine wp_region_held_drew (S:=(fun w'=>w'.cell? ⟨b,o+k*7,none⟩=some (.string (bsB x0))∧w'.cell? ⟨b,o+k*7+1,none⟩=some (.int .i64 x1)∧w'.cell? ⟨b,o+k*7+2,none⟩=some (.int .i64 x2)∧w'.cell? ⟨b,o+k*7+3,none⟩=some (.int .i64 x3)∧w'.cell? ⟨b,o+k*7+4,none⟩=some (.bool x4)∧w'.cell? ⟨b,o+k*7+5,none⟩=some (.int .i64 x5)∧w'.cell? ⟨b,o+k*7+6,none⟩=some (.int .i64 x6)∧w'.cell? ⟨b,o+m*7,none⟩=some (.string (bsB y0))∧w'.cell? ⟨b,o+m*7+1,none⟩=some (.int .i64 y1)∧w'.cell? ⟨b,o+m*7+2,none⟩=some (.int .i64 x2)∧w'.cell? ⟨b,o+m*7+3,none⟩=some (.int .i64 y3)∧w'.cell? ⟨b,o+m*7+4,none⟩=some (.bool y4)∧w'.cell? ⟨b,o+m*7+5,none⟩=some (.int .i64 y5)∧w'.cell? ⟨b,o+m*7+6,none⟩=some (.int .i64 y6))) (by kernel_rfl) (SF.out _ (Below.refl _ _).drew) (fun hHeld=>?_);clear d0 d1 d2 d3 d4 d5 d6 g0 g1 g2 g3 g4 g5 g6;refine tkH 0 hHeld (v:=?_) ?_ ?_;rotate_left
                     ·intro w h;(try dsimp only at h);go_simp;all_goals with_reducible rfl
                     simp only[tkS];refine tkH 1 hHeld (v:=?_) ?_ ?_;rotate_left
                     ·intro w h;(try dsimp only at h);go_simp;all_goals with_reducible rfl
                     simp only[tkS];refine tkH 2 hHeld (v:=?_) ?_ ?_;rotate_left
                     ·intro w h;(try dsimp only at h);go_simp;all_goals with_reducible rfl
                     simp only[tkS];refine tkH 3 hHeld (v:=?_) ?_ ?_;rotate_left
                     ·intro w h;(try dsimp only at h);go_simp;all_goals with_reducible rfl
                     simp only[tkS];refine tkH 4 hHeld (v:=?_) ?_ ?_;rotate_left
                     ·intro w h;(try dsimp only at h);go_simp;all_goals with_reducible rfl
                     simp only[tkS];refine tkH 5 hHeld (v:=?_) ?_ ?_;rotate_left
                     ·intro w h;(try dsimp only at h);go_simp;all_goals with_reducible rfl
                     simp only[tkS];refine tkH 6 hHeld (v:=?_) ?_ ?_;rotate_left
                     ·intro w h;(try dsimp only at h);go_simp;all_goals with_reducible rfl
                     simp only[tkS];refine tkH 7 hHeld (v:=?_) ?_ ?_;rotate_left
                     ·intro w h;(try dsimp only at h);go_simp;all_goals with_reducible rfl
                     simp only[tkS];refine tkH 8 hHeld (v:=?_) ?_ ?_;rotate_left
                     ·intro w h;(try dsimp only at h);go_simp;all_goals with_reducible rfl
                     simp only[tkS];refine tkH 9 hHeld (v:=?_) ?_ ?_;rotate_left
                     ·intro w h;(try dsimp only at h);go_simp;all_goals with_reducible rfl
                     simp only[tkS];refine tkH 10 hHeld (v:=?_) ?_ ?_;rotate_left
                     ·intro w h;(try dsimp only at h);go_simp;all_goals with_reducible rfl
                     simp only[tkS];refine tkH 11 hHeld (v:=?_) ?_ ?_;rotate_left
                     ·intro w h;(try dsimp only at h);go_simp;all_goals with_reducible rfl
                     simp only[tkS];refine tkH 12 hHeld (v:=?_) ?_ ?_;rotate_left
                     ·intro w h;(try dsimp only at h);go_simp;all_goals with_reducible rfl
                     simp only[tkS];refine tkH 13 hHeld (v:=?_) ?_ ?_;rotate_left
                     ·intro w h;(try dsimp only at h);go_simp;all_goals with_reducible rfl
                     simp only[tkS];refine tkH 14 hHeld (v:=?_) ?_ ?_;rotate_left
                     ·intro w h;(try dsimp only at h);go_simp;all_goals with_reducible rfl
                     simp only[tkS];refine tkH 15 hHeld (v:=?_) ?_ ?_;rotate_left
                     ·intro w h;(try dsimp only at h);go_simp;all_goals with_reducible rfl
                     simp only[tkS];refine tkH 16 hHeld (v:=?_) ?_ ?_;rotate_left
                     ·intro w h;(try dsimp only at h);go_simp;all_goals with_reducible rfl
                     simp only[tkS];refine tkH 17 hHeld (v:=?_) ?_ ?_;rotate_left
                     ·intro w h;(try dsimp only at h);go_simp;all_goals with_reducible rfl
                     simp only[tkS];refine tkH 18 hHeld (v:=?_) ?_ ?_;rotate_left
                     ·intro w h;(try dsimp only at h);go_simp;all_goals with_reducible rfl
                     simp only[tkS];refine tkH 19 hHeld (v:=?_) ?_ ?_;rotate_left
                     ·intro w h;(try dsimp only at h);go_simp;all_goals with_reducible rfl
                     simp only[tkS];refine oneH 20 (fun K hK=>?_);go_simp;refine(HSV.out _).mono ?_;rintro e w9 ⟨rfl,hb9⟩;have hb8:Below wr.heap.size wr w9:=zem (Below.refl _ _).drew hb9;clear hHeld;go_wp2_with fail;refine hK.out _ _ (SF.out _ hb8) (fun hHeld=>?_);clear hK;try simp only[tkS]
                     refine tkH 21 hHeld (v:=?_) ?_ ?_;rotate_left
                     ·intro w h;(try dsimp only at h);go_simp;all_goals with_reducible rfl
                     simp only[tkS];refine wpAnyH_done (by kernel_rfl) ?_ _;have HB:=lhd (zem HB.out hb8);clear hHeld hb9 hb8;go_wp2_with fail;go_ret;exact⟨zlj HR.out.symm,HB.out⟩
                   ·have HN:=lhd (HOKK.out (HKN.out e1));clear HBAD HOKK HKY HKN HSV d0 d1 d3 d4 d5 d6 g0 g1 g3 g4 g5 g6;have hbb:(x.sc==y.sc)=false:=by rw[beq_eq_false_iff_ne];exact e1
                    generalize x.sc=x2 at*;generalize y.sc=y2 at*;clear e1;go_wp2_with fail;go_quiet (fail);have HB:=lhd (za5 HB.out nq);go_wp2_with fail;go_roundw;case rel=>exact⟨m+1,hmt,by go_num,HN.out,HB.out⟩
                    case measure=>simp[intOf];omega
                  ·obtain rfl:m=k:=by omega
                   have HN:=lhd (show ∀i q,∀(hi:i<V.length) (hm:q<i),i<m+1→zqi V[i]≠zqi (V[q]'(by omega))from fun i q hi hq h=>by
                    rcases Nat.lt_or_ge i m with h9|h9
                    ·exact HL.out i q hi hq h9
                    ·obtain rfl:i=m:=by omega
                     exact HLL.out q hq hq)
                   go_wp2_with fail;go_roundw;case rel=>exact⟨m+1,hlt,by go_num,HN.out,HB.out⟩
                   case measure=>simp[intOf];omega
                ·obtain rfl:k=V.length:=by omega
                 have HR:=lhd (show R=0 by rw[HDR.out];exact zcd HA.out HDD.out HC.out HNS.out HNV.out HTS.out HTV.out HRB.out HKS.out (zh4 (key:=zqi) (l:=V) (fun i m hi hm=>HL.out i m hi hm hi)));go_wp2_with fail;go_ret;exact⟨zlj HR.out.symm,HB.out⟩
end Go.Proofs.YtbiadennhnokhaaGreatDoor
