import Derived.Test.YtcdekelomkcahaaGreatDoorZ00
import Derived.Test.YtcdekelomkcahaaGreatDoorZ32
set_option maxRecDepth 100000
set_option maxHeartbeats 16000000
namespace Go.Proofs.YtcdekelomkcahaaGreatDoor
open Go.RowKit
set_option linter.unusedSimpArgs false
theorem ziq (x:Bs):(numT x).2.length≤x.length:=by
 have h1:(tk1 45 x).length≤x.length:=by
  unfold tk1;split
  ·rw[List.length_drop];omega
  ·exact Nat.le_refl _
 rw[zim];split
 ·rw[List.length_drop];omega
 ·rw[List.length_drop];omega
theorem znL (c:UInt8) (x:Bs):(tk1 c x).length≤x.length:=by
 unfold tk1;split
 ·rw[List.length_drop];omega
 ·exact Nat.le_refl _
theorem zkS (x:Bs):zkN x=if(numT (tk1 91 x)).2.head? =some 58 then
 zkK (decide (x.head? =some 91)) (numT (tk1 91 x)).1.2 (numT (tk1 58 (numT (tk1 91 x)).2)).1.2 (numT (tk1 91 x)).1.1 (numT (tk1 58 (numT (tk1 91 x)).2)).1.1 (numT (tk1 58 (numT (tk1 91 x)).2)).2
 else zkK (decide (x.head? =some 91)) (numT (tk1 91 x)).1.2 true (numT (tk1 91 x)).1.1 (numT (tk1 91 x)).1.1 (tk1 58 (numT (tk1 91 x)).2):=by
 have e:(if decide (x.head? =some 91)=true then x.drop 1 else x)=tk1 91 x:=by
  unfold tk1;by_cases h:x.head? =some 91
  ·simp only[h,decide_true,if_true]
  ·simp only[h,decide_false,if_false,Bool.false_eq_true]
 unfold zkN;dsimp only;rw[e];generalize numT (tk1 91 x)=a;by_cases h:a.2.head? =some 58
 ·have e2:tk1 58 a.2=a.2.drop 1:=by unfold tk1;rw[if_pos h]
  rw[if_pos h,if_pos h,e2]
 ·have e2:tk1 58 a.2=a.2:=by unfold tk1;rw[if_neg h]
  rw[if_neg h,if_neg h,e2]
theorem zkL {o mk lk:Bool} {m l:Int} {r:Bs} (h:o=false∨mk=false∨lk=false∨r≠ [93]):zkK o mk lk m l r=(0,0,3):=if_pos h
theorem zkM {m l:Int}:zkK true true true m l [93]=if zba m=false∨zba l=false then(0,0,2)else(m,l,0):=by
 unfold zkK;rw[if_neg (by simp)]
theorem zhQ (x:Bs) (w:World) (hg:zag w) (hx:x.length≤2000000):
 Calls Tryz.prog 210 #[.string (bsB x)] w fun e w'=>e=.returned (.tuple #[.int .i64 (zkN x).1,.int .i64 (zkN x).2.1,.int .i64 (zkN x).2.2])∧Below w.heap.size w w':=by
 have hal:Below w.heap.size w (w.alloc (.cells #[.string (bsB x)] 242)):=(Below.refl _ _).alloc (Nat.le_refl _) _;have hrow:=zaq.fresh w #[.string (bsB x)] 242;have hc:=hrow.cell (j:=0) rfl;have hf:=hrow.free (j:=0) (by simp);generalize hw1:w.alloc (.cells #[.string (bsB x)] 242)=w1 at*;have HT:=lhd (zh2 w.heap.size 91 x w1 hc hf);have hc1:(w1.setCell ⟨w.heap.size,0,none⟩ (.string (bsB (tk1 91 x)))).cell? ⟨w.heap.size,0,none⟩=some (.string (bsB (tk1 91 x))):=World.cell?_setCell_same _ _ _ hc;have hf1:(w1.setCell ⟨w.heap.size,0,none⟩ (.string (bsB (tk1 91 x)))).frozen? ⟨w.heap.size,0,none⟩=false:=by rw[World.frozen?_setCell];exact hf
 have hb2:Below w.heap.size w (w1.setCell ⟨w.heap.size,0,none⟩ (.string (bsB (tk1 91 x)))):=hal.setCell (p:=⟨w.heap.size,0,none⟩) (Nat.le_refl _) _;obtain⟨R,hR⟩:∃R,R=zkN x:=⟨_,rfl⟩;rw[←hR];rw[zkS]at hR;have hyl:=Nat.le_trans (znL 91 x) hx;generalize decide (x.head? =some 91)=o at*;generalize tk1 91 x=y at*;have hnl:=Nat.le_trans (ziq y) hyl;have HN:=lhd (zh0 w.heap.size y w _ hg hb2 (Nat.le_refl _) hc1 hf1 hyl);generalize w1.setCell ⟨w.heap.size,0,none⟩ (.string (bsB y))=w2 at*;generalize numT y=a at*;obtain⟨⟨m,mk⟩,r⟩:=a;dsimp only at*;have HB2:=lhd hb2;have HG:=lhd hg;have HRR:=lhd hR;clear hR;clear hc hf hal hrow hc1 hf1 hb2 hg hx;go_enter Tryz.func210,Tryz.ntmps210;go_wp2_with fail;refine HT.out.mono ?_;rintro e w' ⟨rfl,he⟩;have he:=he.symm;subst he;go_wp2_with fail;refine HN.out.mono ?_;rintro e w3 ⟨rfl,hc3,hf3,hb3⟩;have HB3:=lhd (HB2.out.trans hb3);have HT3:=lhd (zh2 w.heap.size 58 r w3 hc3 hf3);have hc4:(w3.setCell ⟨w.heap.size,0,none⟩ (.string (bsB (tk1 58 r)))).cell? ⟨w.heap.size,0,none⟩=some (.string (bsB (tk1 58 r))):=World.cell?_setCell_same _ _ _ hc3;have hf4:(w3.setCell ⟨w.heap.size,0,none⟩ (.string (bsB (tk1 58 r)))).frozen? ⟨w.heap.size,0,none⟩=false:=by rw[World.frozen?_setCell];exact hf3
 have hb4:Below w.heap.size w (w3.setCell ⟨w.heap.size,0,none⟩ (.string (bsB (tk1 58 r)))):=HB3.out.setCell (p:=⟨w.heap.size,0,none⟩) (Nat.le_refl _) _;have hzl:=Nat.le_trans (znL 58 r) hnl;generalize tk1 58 r=z at*;have HN4:=lhd (zh0 w.heap.size z w _ HG.out hb4 (Nat.le_refl _) hc4 hf4 hzl);generalize w3.setCell ⟨w.heap.size,0,none⟩ (.string (bsB z))=w4 at*;have HB4:=lhd hb4;clear hc3 hf3 hb3 hb4;go_wp2_with fail;refine HT3.out.mono ?_;rintro e w' ⟨rfl,he⟩;have he:=he.symm;subst he;by_cases h58:r.head? =some 58
 ·have HR2:=lhd (show R=zkK o mk (numT z).1.2 m (numT z).1.1 (numT z).2 by rw[HRR.out,if_pos h58]);rw[decide_eq_true h58];generalize numT z=a at*;obtain⟨⟨l,lk⟩,q⟩:=a;clear HRR;dsimp only at HR2 HN4;clear hc4 hf4 h58;go_wp2_with fail;refine HN4.out.mono ?_;rintro e w5 ⟨rfl,hc5,hf5,hb5⟩;have HBF:=lhd (HB4.out.trans hb5);clear hb5;cases o
  ·have hbad:false=false∨mk=false∨lk=false∨q≠ [93]:=.inl rfl;have HQ:=lhd (HR2.out.trans (zkL hbad));go_wp2_with fail;refine bodyPost_ret (v:=.tuple #[.int .i64 0,.int .i64 0,.int .i64 3]) (by simp[results,Tryz.results210,go_sem]) rfl ?_;rw[HQ.out];exact⟨rfl,HBF.out⟩
  cases mk
  ·have hbad:true=false∨false=false∨lk=false∨q≠ [93]:=.inr (.inl rfl);have HQ:=lhd (HR2.out.trans (zkL hbad));go_wp2_with fail;refine bodyPost_ret (v:=.tuple #[.int .i64 0,.int .i64 0,.int .i64 3]) (by simp[results,Tryz.results210,go_sem]) rfl ?_;rw[HQ.out];exact⟨rfl,HBF.out⟩
  cases lk
  ·have hbad:true=false∨true=false∨false=false∨q≠ [93]:=.inr (.inr (.inl rfl));have HQ:=lhd (HR2.out.trans (zkL hbad));go_wp2_with fail;refine bodyPost_ret (v:=.tuple #[.int .i64 0,.int .i64 0,.int .i64 3]) (by simp[results,Tryz.results210,go_sem]) rfl ?_;rw[HQ.out];exact⟨rfl,HBF.out⟩
  by_cases hr:q=[93]
  rotate_left
  ·have hbad:true=false∨true=false∨true=false∨q≠ [93]:=.inr (.inr (.inr hr));have hrb:((bsB q).toList==[93])=false:=by rw[beqB,zbh,decide_eq_false hr]
   clear hr;have HQ:=lhd (HR2.out.trans (zkL hbad));go_wp2_with fail;refine bodyPost_ret (v:=.tuple #[.int .i64 0,.int .i64 0,.int .i64 3]) (by simp[results,Tryz.results210,go_sem]) rfl ?_;rw[HQ.out];exact⟨rfl,HBF.out⟩
  have hrb:((bsB q).toList==[93])=true:=by rw[beqB,zbh,decide_eq_true hr]
  rw[hr]at HR2;clear hr;have HM:=lhd (fun W=>zhX m W);have HL:=lhd (fun W=>zhX l W);by_cases hbm:zba m=true
  rotate_left
  ·have hbm:zba m=false:=by simpa using hbm
   have HQ:=lhd (HR2.out.trans (zkM.trans (if_pos (.inl hbm))));rw[hbm]at HM;clear hbm;go_wp2_with fail;refine(HM.out _).mono ?_;rintro e w9 ⟨rfl,rfl⟩;go_wp2_with fail;refine bodyPost_ret (v:=.tuple #[.int .i64 0,.int .i64 0,.int .i64 2]) (by simp[results,Tryz.results210,go_sem]) rfl ?_;rw[HQ.out];exact⟨rfl,HBF.out⟩
  by_cases hbl:zba l=true
  rotate_left
  ·have hbl:zba l=false:=by simpa using hbl
   have HQ:=lhd (HR2.out.trans (zkM.trans (if_pos (.inr hbl))));rw[hbm]at HM;rw[hbl]at HL;clear hbm hbl;go_wp2_with fail;refine(HM.out _).mono ?_;rintro e w9 ⟨rfl,rfl⟩;go_wp2_with fail;refine(HL.out _).mono ?_;rintro e w9 ⟨rfl,rfl⟩;go_wp2_with fail;refine bodyPost_ret (v:=.tuple #[.int .i64 0,.int .i64 0,.int .i64 2]) (by simp[results,Tryz.results210,go_sem]) rfl ?_;rw[HQ.out];exact⟨rfl,HBF.out⟩
  have HQ:=lhd (HR2.out.trans (zkM.trans (if_neg (by simp[hbm,hbl]))));rw[hbm]at HM;rw[hbl]at HL;clear hbm hbl;go_wp2_with fail;refine(HM.out _).mono ?_;rintro e w9 ⟨rfl,rfl⟩;go_wp2_with fail;refine(HL.out _).mono ?_;rintro e w9 ⟨rfl,rfl⟩;go_wp2_with fail;refine bodyPost_ret (v:=.tuple #[.int .i64 m,.int .i64 l,.int .i64 0]) (by simp[results,Tryz.results210,go_sem]) rfl ?_;rw[HQ.out];exact⟨rfl,HBF.out⟩
 ·have HR2:=lhd (show R=zkK o mk true m m z by rw[HRR.out,if_neg h58]);rw[decide_eq_false h58];have HBF:=HB4;clear h58;cases o
  ·have hbad:false=false∨mk=false∨true=false∨z≠ [93]:=.inl rfl;have HQ:=lhd (HR2.out.trans (zkL hbad));go_wp2_with fail;refine bodyPost_ret (v:=.tuple #[.int .i64 0,.int .i64 0,.int .i64 3]) (by simp[results,Tryz.results210,go_sem]) rfl ?_;rw[HQ.out];exact⟨rfl,HBF.out⟩
  cases mk
  ·have hbad:true=false∨false=false∨true=false∨z≠ [93]:=.inr (.inl rfl);have HQ:=lhd (HR2.out.trans (zkL hbad));go_wp2_with fail;refine bodyPost_ret (v:=.tuple #[.int .i64 0,.int .i64 0,.int .i64 3]) (by simp[results,Tryz.results210,go_sem]) rfl ?_;rw[HQ.out];exact⟨rfl,HBF.out⟩
  by_cases hr:z=[93]
  rotate_left
  ·have hbad:true=false∨true=false∨true=false∨z≠ [93]:=.inr (.inr (.inr hr));have hrb:((bsB z).toList==[93])=false:=by rw[beqB,zbh,decide_eq_false hr]
   clear hr;have HQ:=lhd (HR2.out.trans (zkL hbad));go_wp2_with fail;refine bodyPost_ret (v:=.tuple #[.int .i64 0,.int .i64 0,.int .i64 3]) (by simp[results,Tryz.results210,go_sem]) rfl ?_;rw[HQ.out];exact⟨rfl,HBF.out⟩
  have hrb:((bsB z).toList==[93])=true:=by rw[beqB,zbh,decide_eq_true hr]
  rw[hr]at HR2;clear hr;have HM:=lhd (fun W=>zhX m W);have HL:=lhd (fun W=>zhX m W);by_cases hbm:zba m=true
  rotate_left
  ·have hbm:zba m=false:=by simpa using hbm
   have HQ:=lhd (HR2.out.trans (zkM.trans (if_pos (.inl hbm))));rw[hbm]at HM;clear hbm;go_wp2_with fail;refine(HM.out _).mono ?_;rintro e w9 ⟨rfl,rfl⟩;go_wp2_with fail;refine bodyPost_ret (v:=.tuple #[.int .i64 0,.int .i64 0,.int .i64 2]) (by simp[results,Tryz.results210,go_sem]) rfl ?_;rw[HQ.out];exact⟨rfl,HBF.out⟩
  by_cases hbl:zba m=true
  rotate_left
  ·have hbl:zba m=false:=by simpa using hbl
   have HQ:=lhd (HR2.out.trans (zkM.trans (if_pos (.inr hbl))));rw[hbm]at HM;rw[hbl]at HL;clear hbm hbl;go_wp2_with fail;refine(HM.out _).mono ?_;rintro e w9 ⟨rfl,rfl⟩;go_wp2_with fail;refine(HL.out _).mono ?_;rintro e w9 ⟨rfl,rfl⟩;go_wp2_with fail;refine bodyPost_ret (v:=.tuple #[.int .i64 0,.int .i64 0,.int .i64 2]) (by simp[results,Tryz.results210,go_sem]) rfl ?_;rw[HQ.out];exact⟨rfl,HBF.out⟩
  have HQ:=lhd (HR2.out.trans (zkM.trans (if_neg (by simp[hbm,hbl]))));rw[hbm]at HM;rw[hbl]at HL;clear hbm hbl;go_wp2_with fail;refine(HM.out _).mono ?_;rintro e w9 ⟨rfl,rfl⟩;go_wp2_with fail;refine(HL.out _).mono ?_;rintro e w9 ⟨rfl,rfl⟩;go_wp2_with fail;refine bodyPost_ret (v:=.tuple #[.int .i64 m,.int .i64 m,.int .i64 0]) (by simp[results,Tryz.results210,go_sem]) rfl ?_;rw[HQ.out];exact⟨rfl,HBF.out⟩
end Go.Proofs.YtcdekelomkcahaaGreatDoor
