import Derived.Test.YtbiadennhnokhaaGreatDoorZ00
import Derived.Test.YtbiadennhnokhaaGreatDoorZ08
set_option maxRecDepth 100000
set_option maxHeartbeats 16000000
namespace Go.Proofs.YtbiadennhnokhaaGreatDoor
open Go.RowKit Go.WideMaps
set_option linter.unusedSimpArgs false
theorem zad.below {w W:World} {pt f:Nat} (h:zad w pt f) (hb:Below w.heap.size w W):zad W pt f:=(hb.cell (p:=⟨pt,0,none⟩) (zbT h)).trans h
def zhk (S:List Sc) (i:Nat):Bool:=decide (8<(upL S (i+1) i).length)
def chk2 (p1 p2 q1 q2 r1 u1 u2:Bool):Int:=if(p1||p2)=true then 4 else if(q1||q2)=true then 7 else if r1=true then 2 else if(!u1||!u2)=true then 5 else 0
theorem zbZ (S:List Sc) (V:List Vr) (h1:¬32<S.length) (h2:¬128<V.length) (hd:zdu S V=true):zbY S V=if(List.range S.length).any (zhk S)=true then 9 else
 chk2 (S.any fun s=>!zhM s.1) (V.any fun v=>!zhM v.nm) (S.any fun s=>outB s.2.1 4) (V.any fun v=>outB v.ty 18) (V.any zkE) (uniq zmh S) (uniq zqi V):=by
 unfold zbY;rw[if_neg (by omega),if_neg (by rw[hd];decide)];rfl
theorem zqI {n:Int} (h1: -1000000≤n) (h2:n≤1000000):(Lit.int .i64 n).wf=true:=by
 have e1:IntKind.i64.min= -9223372036854775808:=by decide
 have e2:IntKind.i64.max=9223372036854775807:=by decide
 unfold Lit.wf;rw[Bool.and_eq_true,decide_eq_true_iff,decide_eq_true_iff,e1,e2];omega
theorem zfv (v v2:Value) (S:List Sc) (V:List Vr) (w:World) (hs:SlR w v S.length (scs S)) (hv:SlR w v2 V.length (vrs V)) (hl:S.length≤1000∧V.length≤1000) (hn:(∀s∈S,s.1.length≤100000)∧∀x∈V,x.nm.length≤100000):
 Calls Tryz.prog 162 #[v,v2] w fun e w'=>e=.returned (.int .i64 (zbY S V))∧Below w.heap.size w w':=by
 obtain⟨a,cap,rfl,-,-⟩:=hs.shape;obtain⟨a2,cap2,rfl,-,-⟩:=hv.shape;obtain⟨R,hR⟩:∃R,R=zbY S V:=⟨_,rfl⟩;rw[←hR];by_cases h32:32<S.length
 ·have HR:=lhd (show 9=R by rw[hR];unfold zbY;rw[if_pos (.inl h32)]);have b1:decide ((32:Int)<(S.length:Int))=true:=by rw[decide_eq_true_iff];omega
  clear hR h32 hs hv hn;go_enter Tryz.func162,Tryz.ntmps162;go_wp2_with fail;go_ret;exact⟨zlk HR.out,Below.refl _ _⟩
 have b1:decide ((32:Int)<(S.length:Int))=false:=by rw[decide_eq_false_iff_not];omega
 by_cases h128:128<V.length
 ·have HR:=lhd (show 9=R by rw[hR];unfold zbY;rw[if_pos (.inr h128)]);have b2:decide ((128:Int)<(V.length:Int))=true:=by rw[decide_eq_true_iff];omega
  clear hR h32 hs hv hn h128;go_enter Tryz.func162,Tryz.ntmps162;go_wp2_with fail;go_ret;exact⟨zlk HR.out,Below.refl _ _⟩
 have b2:decide ((128:Int)<(V.length:Int))=false:=by rw[decide_eq_false_iff_not];omega
 have HD:=lhd (zfw _ _ S V w hs hv (by omega));cases hd:zdu S V
 ·have HR:=lhd (show 1=R by rw[hR];unfold zbY;rw[if_neg (by omega),if_pos hd]);rw[hd]at HD;clear hR h32 hs hv hn h128 hd;go_enter Tryz.func162,Tryz.ntmps162;go_wp2_with fail;refine HD.out.mono ?_;rintro e w1 ⟨rfl,hb⟩;go_wp2_with fail;go_ret;exact⟨zlk HR.out,hb⟩
 rw[hd]at HD;have HQ:=lhd (hR.trans (zbZ S V h32 h128 hd));have HF:=lhd (zdx hd);have HV2:=lhd (zdB hd);have HS:=lhd hs;have HV:=lhd hv;have HN:=lhd hn;have HL:=lhd (show S.length≤32∧V.length≤128 by omega);clear hR hs hv hn h32 h128 hd hl;go_enter Tryz.func162,Tryz.ntmps162;go_wp2_with fail;refine HD.out.mono ?_;rintro e w1 ⟨rfl,hb⟩;have HB:=lhd hb;clear hb HD;go_wp2_with fail;go_loopw [23] (fun i wr=>∃k:Nat,k≤S.length∧i=.int .i64 k∧(∀j,j<k→zhk S j=false)∧Below w.heap.size w wr) (fun i _=>S.length-(intOf i).toNat)
 case atStart=>exact⟨0,Nat.zero_le _,rfl,fun j hj=>absurd hj (Nat.not_lt_zero _),HB.out⟩
 case round=>
  obtain⟨k,hk,rfl,hsh,hbw⟩:=hrel;have HSH:=lhd hsh;have HBW:=lhd hbw;have hl:=HL.out;clear hsh hbw;by_cases hlt:k<S.length
  ·have HP:=lhd (zfz _ S k wr (HS.out.below HBW.out) HF.out hlt (by omega));cases hlo:zhk S k
   ·have HLO:=lhd (of_decide_eq_false hlo)
    have HSH2:=lhd (show ∀j,j<k+1→zhk S j=false by
     intro j hj;by_cases h:j<k
     ·exact HSH.out j h
     ·rw[show j=k by omega];exact hlo)
    clear hlo;go_wp2_with fail;refine HP.out.mono ?_;rintro e w2 ⟨v',rfl,ho,hb2⟩;obtain⟨pa,pc,rfl,-,-⟩:=(SlR.of_own ho).shape;have hb3:decide ((8:Int)<((upL S (k+1) k).length:Int))=false:=by rw[decide_eq_false_iff_not];have:=HLO.out;omega
    have HB2:=lhd (HBW.out.trans (hb2.mono HBW.out.size));generalize (upL S (k+1) k).length=pn at*;clear ho hb2;go_wp2_with fail;go_roundw;case rel=>exact⟨k+1,by omega,by go_num,HSH2.out,HB2.out⟩
    case measure=>simp[intOf];omega
   ·have HLO:=lhd (of_decide_eq_true hlo)
    have HR:=lhd (show 9=R by
     rw[HQ.out,if_pos];rw[List.any_eq_true];exact⟨k,List.mem_range.2 hlt,hlo⟩)
    clear hlo;go_wp2_with fail;refine HP.out.mono ?_;rintro e w2 ⟨v',rfl,ho,hb2⟩;obtain⟨pa,pc,rfl,-,-⟩:=(SlR.of_own ho).shape;have hb3:decide ((8:Int)<((upL S (k+1) k).length:Int))=true:=by rw[decide_eq_true_iff];have:=HLO.out;omega
    have HB2:=lhd (HBW.out.trans (hb2.mono HBW.out.size));generalize (upL S (k+1) k).length=pn at*;clear ho hb2;go_wp2_with fail;go_ret;exact⟨zlk HR.out,HB2.out⟩
  ·obtain rfl:k=S.length:=by omega
   have HQ2:=lhd (show R=chk2 (S.any fun s=>!zhM s.1) (V.any fun v=>!zhM v.nm) (S.any fun s=>outB s.2.1 4) (V.any fun v=>outB v.ty 18) (V.any zkE) (uniq zmh S) (uniq zqi V)by
    have h7:(List.range S.length).any (zhk S)=false:=zaR.2 fun j hj=>HSH.out j (List.mem_range.1 hj);rw[HQ.out,h7];rfl)
   clear hlt HQ;have HB2:=lhd ((HBW.out.alloc HBW.out.size (.cells #[(.func (.func 204) #[] #[])] 172)).alloc (by have:=HBW.out.size;simp;omega) (.cells #[(.func (.func 206) #[] #[])] 126));have hx1:=(zal.fresh wr #[(.func (.func 204) #[] #[])] 172).cell (j:=0) rfl;have hx2:=(zal.fresh (wr.alloc (.cells #[(.func (.func 204) #[] #[])] 172)) #[(.func (.func 206) #[] #[])] 126).cell (j:=0) rfl;have hx3:=zbS hx1 (.cells #[(.func (.func 206) #[] #[])] 126);rw[World.size_alloc]at hx2;have HF1:=lhd (show zad ((wr.alloc (.cells #[(.func (.func 204) #[] #[])] 172)).alloc (.cells #[(.func (.func 206) #[] #[])] 126)) wr.heap.size 204 from hx3);have HF2:=lhd (show zad ((wr.alloc (.cells #[(.func (.func 204) #[] #[])] 172)).alloc (.cells #[(.func (.func 206) #[] #[])] 126)) (wr.heap.size+1) 206 from hx2);clear hx1 hx2 hx3;generalize hw2:(wr.alloc (.cells #[(.func (.func 204) #[] #[])] 172)).alloc (.cells #[(.func (.func 206) #[] #[])] 126)=w2 at*;have HSL:=lhd (fun(W:World) (hW:Below w2.heap.size w2 W)=>HS.out.below (HB2.out.trans (hW.mono HB2.out.size)));have HVL:=lhd (fun(W:World) (hW:Below w2.heap.size w2 W)=>HV.out.below (HB2.out.trans (hW.mono HB2.out.size)));have HC1:=lhd (fun(W:World) (hW:Below w2.heap.size w2 W)=>zcS wr.heap.size (fun s=>!zhM s.1) _ S W (HSL.out W hW) (fun x hx U hU=>zfq _ x U ((HF1.out.below hW).below hU) (HN.out.1 x hx)));have HC2:=lhd (fun(W:World) (hW:Below w2.heap.size w2 W)=>zcU wr.heap.size (fun x=>!zhM x.nm) _ V W (HVL.out W hW) (fun x hx U hU=>zfs _ x U ((HF1.out.below hW).below hU) (HN.out.2 x hx)));have HC3:=lhd (fun(W:World) (hW:Below w2.heap.size w2 W)=>zcT (wr.heap.size+1) (fun s=>outB s.2.1 4) _ S W (HSL.out W hW) (fun x hx U hU=>zfr _ x U ((HF2.out.below hW).below hU)));have HC4:=lhd (fun(W:World) (hW:Below w2.heap.size w2 W)=>zcW (wr.heap.size+1) (fun x=>outB x.ty 18) _ V W (HVL.out W hW) (fun x hx U hU=>zfu _ x U ((HF2.out.below hW).below hU)));have HC5:=lhd (fun(W:World) (hW:Below w2.heap.size w2 W)=>zcV 0 zkE _ V W (HVL.out W hW) (fun x hx U hU=>zft x U))
   have HC6:=lhd (fun(W:World) (hW:Below w2.heap.size w2 W)=>zfD _ S W (HSL.out W hW) (by omega) (fun x hx=>⟨by
    obtain⟨j,hj,rfl⟩:=List.mem_iff_getElem.1 hx;have:=HF.out j hj;have e:parS S j=S[j].2.2:=by simp[parS,List.getD,hj]
    rw[e]at this;exact zqI (by omega) (by omega),by have:=HN.out.1 x hx;unfold maxLen;omega⟩))
   have HC7:=lhd (fun(W:World) (hW:Below w2.heap.size w2 W) (hr:V.any zkE=false)=>zfE _ V W (HVL.out W hW) (by omega) (fun x hx=>by
    have h1:=HV2.out x hx;have h2:=HN.out.2 x hx;have h3:=zaR.1 hr x hx
    have h4:(-32768≤x.mb∧x.mb≤32768)∧(-32768≤x.lb∧x.lb≤32768):=by
     unfold zkE at h3;split at h3
     ·have h3:=of_decide_eq_false h3;unfold zqJ at h3;split at h3
      ·rename_i hb
       unfold zbm at hb;simp only[Bool.and_eq_true,decide_eq_true_iff]at hb;exact hb
      ·exact absurd rfl h3
     ·rw[Bool.or_eq_false_iff]at h3;have h5:=of_decide_eq_false h3.1;have h6:=of_decide_eq_false h3.2;omega
    exact⟨⟨zqI (by omega) (by omega),by unfold maxLen;omega⟩,zqI (by omega) (by omega),zqI (by omega) (by omega)⟩))
   generalize (S.any fun s=>!zhM s.1)=p1 at*;generalize (V.any fun v=>!zhM v.nm)=p2 at*;generalize (S.any fun s=>outB s.2.1 4)=q1 at*;generalize (V.any fun v=>outB v.ty 18)=q2 at*;generalize V.any zkE=r1 at*;generalize uniq zmh S=u1 at*;generalize uniq zqi V=u2 at*;have HB0:=lhd (Below.refl w2.heap.size w2);have HQ3:=HQ2;have HW2:=lhd hw2;clear HSL HVL HS HV HN HF HV2 HSH HQ2 HF1 HF2 hw2 HL hl;go_wp2_with fail;rw[HW2.out];refine(HC1.out _ HB0.out).mono ?_;rintro e w8 ⟨rfl,hb8⟩;have HB3:=lhd (zem HB0.out hb8);clear hb8 HC1;cases p1
   rotate_left
   ·go_wp2_with fail;go_ret;exact⟨zlk (by rw[HQ3.out];rfl),HB2.out.trans (HB3.out.mono HB2.out.size)⟩
   go_wp2_with fail;refine(HC2.out _ HB3.out).mono ?_;rintro e w8 ⟨rfl,hb8⟩;have HB4:=lhd (zem HB3.out hb8);clear hb8 HC2;cases p2
   rotate_left
   ·go_wp2_with fail;go_ret;exact⟨zlk (by rw[HQ3.out];rfl),HB2.out.trans (HB4.out.mono HB2.out.size)⟩
   go_wp2_with fail;refine(HC3.out _ HB4.out).mono ?_;rintro e w8 ⟨rfl,hb8⟩;have HB5:=lhd (zem HB4.out hb8);clear hb8 HC3;cases q1
   rotate_left
   ·go_wp2_with fail;go_ret;exact⟨zlk (by rw[HQ3.out];rfl),HB2.out.trans (HB5.out.mono HB2.out.size)⟩
   go_wp2_with fail;refine(HC4.out _ HB5.out).mono ?_;rintro e w8 ⟨rfl,hb8⟩;have HB6:=lhd (zem HB5.out hb8);clear hb8 HC4;cases q2
   rotate_left
   ·go_wp2_with fail;go_ret;exact⟨zlk (by rw[HQ3.out];rfl),HB2.out.trans (HB6.out.mono HB2.out.size)⟩
   go_wp2_with fail;refine(HC5.out _ HB6.out).mono ?_;rintro e w8 ⟨rfl,hb8⟩;have HB7:=lhd (zem HB6.out hb8);clear hb8 HC5;cases r1
   rotate_left
   ·go_wp2_with fail;go_ret;exact⟨zlk (by rw[HQ3.out];rfl),HB2.out.trans (HB7.out.mono HB2.out.size)⟩
   have HC8:=lhd (fun W hW=>HC7.out W hW rfl);clear HC7;go_wp2_with fail;refine(HC6.out _ HB7.out).mono ?_;rintro e w8 ⟨rfl,hb8⟩;have HB8:=lhd (zem HB7.out hb8);clear hb8 HC6;cases u1
   ·go_wp2_with fail;go_ret;exact⟨zlk (by rw[HQ3.out];rfl),HB2.out.trans (HB8.out.mono HB2.out.size)⟩
   go_wp2_with fail;refine(HC8.out _ HB8.out).mono ?_;rintro e w8 ⟨rfl,hb8⟩;have HB9:=lhd (zem HB8.out hb8);clear hb8 HC8;cases u2
   ·go_wp2_with fail;go_ret;exact⟨zlk (by rw[HQ3.out];rfl),HB2.out.trans (HB9.out.mono HB2.out.size)⟩
   go_wp2_with fail;go_ret;exact⟨zlk (by rw[HQ3.out];rfl),HB2.out.trans (HB9.out.mono HB2.out.size)⟩
end Go.Proofs.YtbiadennhnokhaaGreatDoor
