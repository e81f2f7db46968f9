import Derived.Test.YtcdekelomkcahaaGreatDoorZ00
import Derived.Test.YtcdekelomkcahaaGreatDoorZ21
set_option maxRecDepth 100000
set_option maxHeartbeats 16000000
namespace Go.Proofs.YtcdekelomkcahaaGreatDoor
open Go.RowKit
set_option linter.unusedSimpArgs false
def cmdW:List Bs:=[zlA,zlx,zlz,zly]
theorem zdq (w:World):Calls Tryz.prog 50 #[] w fun e w'=>e=.returned (.slice (some ⟨w.heap.size,0,none⟩) 4 4)∧w'=w.alloc (.cells (strs cmdW).toArray 9):=by
 go_enter Tryz.func50,Tryz.ntmps50;go_wp2_with fail;go_ret;exact⟨rfl,rfl⟩
theorem zcl (l:List Bs) (x:Bs):Lib.containsS (l.map bsB) (bsB x)=decide (x∈l):=by
 unfold Lib.containsS;rw[ze7];by_cases h:x∈l
 ·rw[if_pos h,decide_eq_true h];simp
 ·rw[if_neg h,decide_eq_false h];rfl
theorem zcq (v:Value) (l:List Bs) (x:Bs) (w:World) (hs:SlR w v l.length (strs l)) (h0:0<l.length) (hl:l.length≤1000000):
 Calls Tryz.prog 49 #[v,.string (bsB x)] w fun e w'=>e=.returned (.bool (decide (x∈l)))∧w'=w:=by
 obtain⟨b,o,cap,rfl,-,-,hcell⟩:=hs.at h0
 have hx:=Tryz.slices_Contains_string b o l.length cap (l.map bsB) (bsB x) w (by simp) (by omega) (fun j hj=>hcell j _ (by
  rw[List.length_map]at hj;simp[strs,strV,List.getD,hj]))
 rw[List.take_of_length_le (by simp),zcl]at hx;exact hx
theorem zrk {l:List Bs} {x:Bs} {k:Nat} (hk:k<l.length) (hx:l[k]=x) (hne:∀j,∀hj:j<l.length,j<k→l[j]≠x):l.idxOf x=k:=by
 unfold List.idxOf;rw[List.findIdx_eq hk];exact⟨by simp[hx],fun j hj=>by simpa using hne j (by omega) hj⟩
theorem zsh (v:Value) (l:List Bs) (x:Bs) (w:World) (hs:SlR w v l.length (strs l)) (hl:l.length≤1000000):
 Calls Tryz.prog 33 #[v,.string (bsB x)] w fun e w'=>e=.returned (.int .i64 (if x∈l then((l.idxOf x:Nat):Int)else-1))∧w=w':=by
 obtain⟨a,cap,rfl,hc,hm⟩:=hs.shape;have HS:=lhd hs;obtain⟨R,hR⟩:∃R:Int,R=if x∈l then((l.idxOf x:Nat):Int)else-1:=⟨_,rfl⟩
 rw[←hR];have HRR:=lhd hR;clear hs hR;go_enter Tryz.func33,Tryz.ntmps33;go_wp2_with fail
 go_loopw [5] (fun u wr=>∃(k:Nat),k≤l.length∧u=.int .i64 k∧(∀j,∀hj:j<l.length,j<k→l[j]≠x)∧w=wr)
  (fun u _=>l.length-(intOf u).toNat)
 case atStart=>exact⟨0,Nat.zero_le _,rfl,fun j _ hj=>absurd hj (Nat.not_lt_zero _),rfl⟩
 case round=>
  obtain⟨k,hk,rfl,hne,rfl⟩:=hrel;have HN:=lhd hne;clear hne;by_cases hlt:k<l.length
  ·obtain⟨b,o,cap',hv,-,-,hcell⟩:=HS.out.at (by omega);injection hv with e1 _ e3;subst e1 e3;have d:=hcell k (.string (bsB l[k])) (by simp[strs,strV,hlt]);clear hcell;by_cases hx:l[k]=x
   ·obtain rfl:R=(k:Int):=by
     rw[HRR.out,if_pos (hx▸List.getElem_mem hlt),zrk hlt hx HN.out]
    rw[hx]at d;go_wp2_with fail;go_ret;exact⟨rfl,rfl⟩
   ·have hb:=zbi hx
    have HX:=lhd (show ∀j,∀hj:j<l.length,j<k+1→l[j]≠x from fun j hj hjk=>by
     rcases Nat.lt_or_ge j k with h|h
     ·exact HN.out j hj h
     ·obtain rfl:j=k:=by omega
      exact hx)
    generalize l[k]=y at*;clear hx;go_wp2_with fail;go_roundw;case rel=>exact⟨k+1,by omega,by go_num,HX.out,by first|trivial|rfl⟩
    case measure=>simp[intOf];omega
  ·obtain rfl:R= -1:=by
    rw[HRR.out,if_neg];intro hm;obtain⟨j,hj,e⟩:=List.mem_iff_getElem.1 hm;exact HN.out j hj (by omega) e
   go_wp2_with fail;go_ret;exact⟨rfl,rfl⟩
theorem zrS (w:World):Calls Tryz.prog 34 #[] w fun e w'=>e=.returned (.slice (some ⟨w.heap.size,0,none⟩) varW.length varW.length)∧w'=w.alloc (.cells (strs varW).toArray 9):=by
 go_enter Tryz.func34,Tryz.ntmps34;go_wp2_with fail;go_ret;exact⟨rfl,rfl⟩
theorem zrQ (x:Bs) (w:World):Calls Tryz.prog 12 #[.string (bsB x)] w fun e w'=>e=.returned (.tuple #[.int .i64 (zn4 varW x).1,.bool (zn4 varW x).2])∧Below w.heap.size w w':=by
 have hb:Below w.heap.size w (w.alloc (.cells (strs varW).toArray 9)):=(Below.refl _ _).alloc (Nat.le_refl _) _;have hs:=zhb w varW 9 (by decide);have hT:=zsh _ varW x _ hs (by decide);clear hs;unfold zn4;by_cases hm:x∈varW
 ·rw[if_pos hm]at hT⊢;have hlt:=List.idxOf_lt_length_of_mem hm;go_enter Tryz.func12,Tryz.ntmps12;go_wp2_with fail;refine(zrS w).mono ?_;rintro e w1 ⟨rfl,rfl⟩;go_wp2_with fail;refine hT.mono ?_;rintro e w2 ⟨rfl,rfl⟩;go_wp2_with fail;exact bodyPost_ret (v:=.tuple #[.int .i64 ((varW.idxOf x:Nat):Int),.bool true]) (by simp[results,Tryz.results12,go_sem]) rfl ⟨rfl,hb⟩
 ·rw[if_neg hm]at hT⊢;go_enter Tryz.func12,Tryz.ntmps12;go_wp2_with fail;refine(zrS w).mono ?_;rintro e w1 ⟨rfl,rfl⟩;go_wp2_with fail;refine hT.mono ?_;rintro e w2 ⟨rfl,rfl⟩;go_wp2_with fail;exact bodyPost_ret (v:=.tuple #[.int .i64 0,.bool false]) (by simp[results,Tryz.results12,go_sem];rfl) rfl ⟨rfl,hb⟩
theorem zrR (w:World):Calls Tryz.prog 36 #[] w fun e w'=>e=.returned (.slice (some ⟨w.heap.size,0,none⟩) zl4.length zl4.length)∧w'=w.alloc (.cells (strs zl4).toArray 9):=by
 go_enter Tryz.func36,Tryz.ntmps36;go_wp2_with fail;go_ret;exact⟨rfl,rfl⟩
theorem zrO (x:Bs) (w:World):Calls Tryz.prog 14 #[.string (bsB x)] w fun e w'=>e=.returned (.tuple #[.int .i64 (zn4 zl4 x).1,.bool (zn4 zl4 x).2])∧Below w.heap.size w w':=by
 have hb:Below w.heap.size w (w.alloc (.cells (strs zl4).toArray 9)):=(Below.refl _ _).alloc (Nat.le_refl _) _;have hs:=zhb w zl4 9 (by decide);have hT:=zsh _ zl4 x _ hs (by decide);clear hs;unfold zn4;by_cases hm:x∈zl4
 ·rw[if_pos hm]at hT⊢;have hlt:=List.idxOf_lt_length_of_mem hm;go_enter Tryz.func14,Tryz.ntmps14;go_wp2_with fail;refine(zrR w).mono ?_;rintro e w1 ⟨rfl,rfl⟩;go_wp2_with fail;refine hT.mono ?_;rintro e w2 ⟨rfl,rfl⟩;go_wp2_with fail;exact bodyPost_ret (v:=.tuple #[.int .i64 ((zl4.idxOf x:Nat):Int),.bool true]) (by simp[results,Tryz.results14,go_sem]) rfl ⟨rfl,hb⟩
 ·rw[if_neg hm]at hT⊢;go_enter Tryz.func14,Tryz.ntmps14;go_wp2_with fail;refine(zrR w).mono ?_;rintro e w1 ⟨rfl,rfl⟩;go_wp2_with fail;refine hT.mono ?_;rintro e w2 ⟨rfl,rfl⟩;go_wp2_with fail;exact bodyPost_ret (v:=.tuple #[.int .i64 0,.bool false]) (by simp[results,Tryz.results14,go_sem];rfl) rfl ⟨rfl,hb⟩
theorem zrx {l:List Bs} {k:Nat} (h:k<l.length):zhx l (k:Int)=l[k]:=by
 unfold zhx;rw[if_neg (by omega),Int.toNat_natCast];simp[List.getD,h]
theorem zry {l:List Bs} {t:Int} (h:t<0∨(l.length:Int)≤t):zhx l t=[]:=by
 unfold zhx;by_cases h0:t<0
 ·rw[if_pos h0]
 ·rw[if_neg h0];simp[List.getD,List.getElem?_eq_none (show l.length≤t.toNat by omega)]
theorem zrP (t:Int) (w:World):Calls Tryz.prog 18 #[.int .i64 t] w fun e w'=>e=.returned (.string (bsB (zhx varW t)))∧Below w.heap.size w w':=by
 by_cases h0:t<0
 ·rw[zry (.inl h0)];go_enter Tryz.func18,Tryz.ntmps18;go_wp2_with fail;go_ret;exact⟨rfl,Below.refl _ _⟩
 have hl:varW.length=19:=rfl;have HB:=lhd (show Below w.heap.size w (w.alloc (.cells (strs varW).toArray 9))from(Below.refl _ _).alloc (Nat.le_refl _) _);have HV:=lhd (zrS w);rw[hl]at HV;by_cases h1:19≤t
 ·rw[zry (.inr (by rw[hl];exact h1))];go_enter Tryz.func18,Tryz.ntmps18;go_wp2_with fail;refine HV.out.mono ?_;rintro e w1 ⟨rfl,rfl⟩;go_wp2_with fail;go_ret;exact⟨rfl,HB.out⟩
 ·obtain⟨k,rfl⟩:∃k:Nat,t=(k:Int):=⟨t.toNat,by omega⟩;have hk:k<varW.length:=by rw[hl];omega
  rw[zrx hk];have hs:=zhb (w.alloc (.cells (strs varW).toArray 9)) varW 9 (by decide);have HV2:=lhd (zrS (w.alloc (.cells (strs varW).toArray 9)));rw[hl]at HV2;have HB2:=lhd (HB.out.trans (show Below w.heap.size (w.alloc (.cells (strs varW).toArray 9)) ((w.alloc (.cells (strs varW).toArray 9)).alloc (.cells (strs varW).toArray 9))from(Below.refl _ _).alloc (by simp) _));obtain⟨b,o,cap,hv,-,-,hcell⟩:=hs.at (by omega);injection hv with e1 _ e3;injection e1 with e1;injection e1 with e1 e2 _;subst e1 e2 e3;have d:=hcell k (.string (bsB varW[k])) (by simp[strs,strV,hk]);have hk2:k<19:=by omega
  rw[Nat.zero_add]at d;clear hcell hs HB;generalize varW[k]=y at*;generalize w.alloc (.cells (strs varW).toArray 9)=w1 at*;generalize w1.alloc (.cells (strs varW).toArray 9)=w2 at*;go_enter Tryz.func18,Tryz.ntmps18;go_wp2_with fail;refine HV.out.mono ?_;rintro e w1 ⟨rfl,rfl⟩;go_wp2_with fail;refine HV2.out.mono ?_;rintro e w2 ⟨rfl,rfl⟩;go_wp2_with fail;go_ret;exact⟨rfl,HB2.out⟩
theorem zrN (t:Int) (w:World):Calls Tryz.prog 20 #[.int .i64 t] w fun e w'=>e=.returned (.string (bsB (zhx zl4 t)))∧Below w.heap.size w w':=by
 by_cases h0:t<0
 ·rw[zry (.inl h0)];go_enter Tryz.func20,Tryz.ntmps20;go_wp2_with fail;go_ret;exact⟨rfl,Below.refl _ _⟩
 have hl:zl4.length=5:=rfl;have HB:=lhd (show Below w.heap.size w (w.alloc (.cells (strs zl4).toArray 9))from(Below.refl _ _).alloc (Nat.le_refl _) _);have HV:=lhd (zrR w);rw[hl]at HV;by_cases h1:5≤t
 ·rw[zry (.inr (by rw[hl];exact h1))];go_enter Tryz.func20,Tryz.ntmps20;go_wp2_with fail;refine HV.out.mono ?_;rintro e w1 ⟨rfl,rfl⟩;go_wp2_with fail;go_ret;exact⟨rfl,HB.out⟩
 ·obtain⟨k,rfl⟩:∃k:Nat,t=(k:Int):=⟨t.toNat,by omega⟩;have hk:k<zl4.length:=by rw[hl];omega
  rw[zrx hk];have hs:=zhb (w.alloc (.cells (strs zl4).toArray 9)) zl4 9 (by decide);have HV2:=lhd (zrR (w.alloc (.cells (strs zl4).toArray 9)));rw[hl]at HV2;have HB2:=lhd (HB.out.trans (show Below w.heap.size (w.alloc (.cells (strs zl4).toArray 9)) ((w.alloc (.cells (strs zl4).toArray 9)).alloc (.cells (strs zl4).toArray 9))from(Below.refl _ _).alloc (by simp) _));obtain⟨b,o,cap,hv,-,-,hcell⟩:=hs.at (by omega);injection hv with e1 _ e3;injection e1 with e1;injection e1 with e1 e2 _;subst e1 e2 e3;have d:=hcell k (.string (bsB zl4[k])) (by simp[strs,strV,hk]);have hk2:k<5:=by omega
  rw[Nat.zero_add]at d;clear hcell hs HB;generalize zl4[k]=y at*;generalize w.alloc (.cells (strs zl4).toArray 9)=w1 at*;generalize w1.alloc (.cells (strs zl4).toArray 9)=w2 at*;go_enter Tryz.func20,Tryz.ntmps20;go_wp2_with fail;refine HV.out.mono ?_;rintro e w1 ⟨rfl,rfl⟩;go_wp2_with fail;refine HV2.out.mono ?_;rintro e w2 ⟨rfl,rfl⟩;go_wp2_with fail;go_ret;exact⟨rfl,HB2.out⟩
end Go.Proofs.YtcdekelomkcahaaGreatDoor
