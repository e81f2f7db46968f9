import Derived.Test.YtcdekelomkcahaaGreatDoorZ00
import Derived.Test.YtcdekelomkcahaaGreatDoorZ35
import Derived.Test.YtcdekelomkcahaaGreatDoorZ40
import Derived.Test.YtcdekelomkcahaaGreatDoorZ43
set_option maxRecDepth 100000
set_option maxHeartbeats 16000000
namespace Go.Proofs.YtcdekelomkcahaaGreatDoor
open Go.RowKit
set_option linter.unusedSimpArgs false
theorem zsx {n:Int} (h: -15≤n∧n≤2):(zlU n).length≤6:=by
 have:=(znI ⟨(n+15).toNat,by omega⟩).2.1;rwa [show((((⟨(n+15).toNat,by omega⟩:Fin 18).val:Nat):Int)-15)=n by simp;omega]at this
theorem zrF {k t:Bs} (h:t=[]):optR k t=[]:=if_pos h
theorem zrE {k t:Bs} (h:t≠ []):optR k t=zgM k t:=if_neg h
theorem zrX (d:DD) (vS vD:Value) (w:World) (hS:SlR w vS d.S.length (scs d.S)) (hD:SlR w vD d.D.length (dcls d.D)) (ho:DOk d):
 Calls Tryz.prog 16 #[ddV d vS vD] w fun e w'=>e=.returned (.string (bsB (zei d)))∧Below w.heap.size w w':=by
 obtain⟨aS,cS,rfl,-,-⟩:=hS.shape;obtain⟨aD,cD,rfl,-,-⟩:=hD.shape;have HSS:=lhd hS;have HSD:=lhd hD;have hal:Below w.heap.size w (w.alloc (.cells (vBox d (.slice aS d.S.length cS) (.slice aD d.D.length cD)) 25)):=(Below.refl _ _).alloc (Nat.le_refl _) _;have HB1:=lhd hal;have HX1:=lhd (heap_alloc_new w (.cells (vBox d (.slice aS d.S.length cS) (.slice aD d.D.length cD)) 25));have HZ:=lhd (show w.heap.size<(w.alloc (.cells (vBox d (.slice aS d.S.length cS) (.slice aD d.D.length cD)) 25)).heap.size by simp);have HVL:=lhd (fun(W:World) (hb:Below w.heap.size w W)=>zr7 d _ _ W (hS.below hb) (hD.below hb) ho.l ho.t ho.n);have HTX:=lhd ho.t;clear hS hD hal ho;go_enter Tryz.func16,Tryz.ntmps16;go_wp2_with fail;generalize w.alloc (.cells (vBox d (.slice aS d.S.length cS) (.slice aD d.D.length cD)) 25)=w1 at*;have hvl:=HVL.out _ HB1.out;by_cases hv:zoN d=true
 rotate_left
 ·have HF:=lhd (show zei d=[]from if_neg hv);rw[Bool.not_eq_true]at hv;rw[hv]at hvl;clear hv;refine hvl.mono ?_;rintro e w2 ⟨rfl,hb2⟩;go_wp2_with fail;go_ret;exact⟨by rw[HF.out];rfl,zd5 HB1.out hb2⟩
 have HFR:=lhd (show zei d=fmtR d by rw[zel (zoP.1 hv)];exact if_pos hv);have HV:=lhd (zoP.1 hv);rw[hv]at hvl;clear hv;refine hvl.mono ?_;rintro e w2 ⟨rfl,hb2⟩;have HB2:=lhd (zd5 HB1.out hb2);have HX2:=lhd ((hb2.block w.heap.size HZ.out).trans HX1.out);have HSZ:=lhd (Nat.lt_of_lt_of_le HZ.out hb2.size);clear hb2 hvl HVL HB1 HX1 HZ;obtain⟨q0,q1,q2,q3,q4,q5⟩:=zop HX2.out;have zO0:([]:Bs).length≤0:=Nat.le_refl _;have hLa:=zsm zlw d.dt w2 (by have:=HTX.out;simp only[zlw,List.length_cons,List.length_nil];omega);have HLa:=lhd hLa;clear hLa;obtain⟨O1,hO1⟩:∃o,o=[]++optR zlw d.dt:=⟨_,rfl⟩;have HO1:=lhd hO1
 have zO1:(bsB []).size+(bsB (zgM zlw d.dt)).size≤1000000∧O1.length≤100100:=by
  have:=HTX.out;rw[zbk,zbk,hO1,List.length_append]
  have h1:(zgM zlw d.dt).length≤100100:=by
   unfold zgM;split<;>simp only[List.length_append,List.length_cons,List.length_nil,zlw]<;>omega
  have h2:(optR zlw d.dt).length≤100100:=by
   unfold optR;split
   ·exact Nat.zero_le _
   ·exact h1
  omega
 clear hO1;go_upto_if 9 with fail
 generalize hga:(!(bsB d.dt).toList.isEmpty)=bqa;rw[zbg]at hga;have HGa:=lhd hga;clear hga;go_cut [3]from 10 to 14 (fun u wc=>u=.string (bsB O1)∧w2=wc)
 case first=>
  cases bqa
  ·have HE:=lhd (show O1=[]by rw[HO1.out,zrF (by have:=HGa.out;simpa using this),List.append_nil]);clear zO1;go_wp2_with fail;go_meet
   case rel=>exact⟨by rw[HE.out];rfl,rfl⟩
  ·have HE:=lhd (show bsB []++bsB (zgM zlw d.dt)=bsB O1 by rw[zqR,HO1.out,zrE (by have:=HGa.out;simpa using this)]);have zz:=zO1.1;clear zO1;generalize bsB (zgM zlw d.dt)=ln at*;generalize bsB O1=lo at*;go_wp2_with fail;refine HLa.out.mono ?_;rintro e wq ⟨rfl,rfl⟩;go_wp2_with fail;go_meet
   case rel=>exact⟨by rw[←HE.out];rfl,rfl⟩
 case rest=>
 obtain⟨rfl,rfl⟩:=hcut;have zO1:=zO1.2;have hLb:=zsm zlF d.vn w2 (by have:=HTX.out;simp only[zlF,List.length_cons,List.length_nil];omega);have HLb:=lhd hLb;clear hLb;obtain⟨O2,hO2⟩:∃o,o=O1++optR zlF d.vn:=⟨_,rfl⟩;have HO2:=lhd hO2
 have zO2:(bsB O1).size+(bsB (zgM zlF d.vn)).size≤1000000∧O2.length≤200200:=by
  have:=HTX.out;rw[zbk,zbk,hO2,List.length_append]
  have h1:(zgM zlF d.vn).length≤100100:=by
   unfold zgM;split<;>simp only[List.length_append,List.length_cons,List.length_nil,zlF]<;>omega
  have h2:(optR zlF d.vn).length≤100100:=by
   unfold optR;split
   ·exact Nat.zero_le _
   ·exact h1
  omega
 clear hO2;go_upto_if 17 with fail
 generalize hgb:(!(bsB d.vn).toList.isEmpty)=bqb;rw[zbg]at hgb;have HGb:=lhd hgb;clear hgb;go_cut [3]from 18 to 22 (fun u wc=>u=.string (bsB O2)∧w2=wc)
 case first=>
  cases bqb
  ·have HE:=lhd (show O2=O1 by rw[HO2.out,zrF (by have:=HGb.out;simpa using this),List.append_nil]);clear zO2;go_wp2_with fail;go_meet
   case rel=>exact⟨by rw[HE.out],rfl⟩
  ·have HE:=lhd (show bsB O1++bsB (zgM zlF d.vn)=bsB O2 by rw[zqR,HO2.out,zrE (by have:=HGb.out;simpa using this)]);have zz:=zO2.1;clear zO2;generalize bsB (zgM zlF d.vn)=ln at*;generalize bsB O2=lo at*;go_wp2_with fail;refine HLb.out.mono ?_;rintro e wq ⟨rfl,rfl⟩;go_wp2_with fail;go_meet
   case rel=>exact⟨by rw[←HE.out],rfl⟩
 case rest=>
 obtain⟨rfl,rfl⟩:=hcut;have zO2:=zO2.2;have hLc:=zsm zlv d.cm w2 (by have:=HTX.out;simp only[zlv,List.length_cons,List.length_nil];omega);have HLc:=lhd hLc;clear hLc;obtain⟨O3,hO3⟩:∃o,o=O2++optR zlv d.cm:=⟨_,rfl⟩;have HO3:=lhd hO3
 have zO3:(bsB O2).size+(bsB (zgM zlv d.cm)).size≤1000000∧O3.length≤300300:=by
  have:=HTX.out;rw[zbk,zbk,hO3,List.length_append]
  have h1:(zgM zlv d.cm).length≤100100:=by
   unfold zgM;split<;>simp only[List.length_append,List.length_cons,List.length_nil,zlv]<;>omega
  have h2:(optR zlv d.cm).length≤100100:=by
   unfold optR;split
   ·exact Nat.zero_le _
   ·exact h1
  omega
 clear hO3;go_upto_if 25 with fail
 generalize hgc:(!(bsB d.cm).toList.isEmpty)=bqc;rw[zbg]at hgc;have HGc:=lhd hgc;clear hgc;go_cut [3]from 26 to 30 (fun u wc=>u=.string (bsB O3)∧w2=wc)
 case first=>
  cases bqc
  ·have HE:=lhd (show O3=O2 by rw[HO3.out,zrF (by have:=HGc.out;simpa using this),List.append_nil]);clear zO3;go_wp2_with fail;go_meet
   case rel=>exact⟨by rw[HE.out],rfl⟩
  ·have HE:=lhd (show bsB O2++bsB (zgM zlv d.cm)=bsB O3 by rw[zqR,HO3.out,zrE (by have:=HGc.out;simpa using this)]);have zz:=zO3.1;clear zO3;generalize bsB (zgM zlv d.cm)=ln at*;generalize bsB O3=lo at*;go_wp2_with fail;refine HLc.out.mono ?_;rintro e wq ⟨rfl,rfl⟩;go_wp2_with fail;go_meet
   case rel=>exact⟨by rw[←HE.out],rfl⟩
 case rest=>
 obtain⟨rfl,rfl⟩:=hcut;have zO3:=zO3.2;clear q0 q1 q2 q3 q4 q5;have hsl:=zsx HV.out.sc;have HC1:=lhd (fun W=>zrW d.sc W HV.out.sc);have HC2:=lhd (fun W=>zsm zlD (zlU d.sc) W (by simp only[zlD,List.length_cons,List.length_nil];omega));have hRL:=zrj HV.out
 have hRE:fmtR d=O3++(zgM zlD (zlU d.sc)++(zff d.S d.D (d.S.length+1) (-1)++zgM zlB [])):=by
  rw[HO3.out,HO2.out,HO1.out];unfold fmtR;simp only[List.append_assoc,List.nil_append]
 rw[hRE]at hRL HFR;simp only[List.length_append]at hRL;have HC3:=lhd (fun(W:World) (hb:Below w.heap.size w W)=>zsi d (.slice aS d.S.length cS) (.slice aD d.D.length cD) HV.out d.S.length (-1) W (by omega) (by omega) (HSS.out.below hb) (HSD.out.below hb) (by omega) (by omega));have HC4:=lhd (fun W=>zsm zlB [] W (by decide));obtain⟨T1,hT1⟩:∃t,t=zgM zlD (zlU d.sc):=⟨_,rfl⟩;obtain⟨T2,hT2⟩:∃t,t=zff d.S d.D (d.S.length+1) (-1):=⟨_,rfl⟩;obtain⟨T3,hT3⟩:∃t,t=zgM zlB []:=⟨_,rfl⟩;rw[←hT1,←hT2,←hT3]at hRL HFR;rw[←hT1]at HC2;rw[←hT2]at HC3;rw[←hT3]at HC4;clear hT1 hT2 hT3 hRE hsl zO1 zO2 zO3 HO1 HO2 HO3 HLa HLb HLc HGa HGb HGc zO0
 have zz:(bsB O3).size+((bsB T1).size+((bsB T2).size+(bsB T3).size))≤1000000000:=by
  rw[zbk,zbk,zbk,zbk];omega
 clear hRL;have HSV:=lhd (show ∀V,Below w2.heap.size w2 V→V.cell? ⟨w.heap.size,0,none⟩=some (.int .i64 d.sc)∧V.cell? ⟨w.heap.size,1,none⟩=some (.string (bsB d.dt))∧V.cell? ⟨w.heap.size,2,none⟩=some (.string (bsB d.vn))∧V.cell? ⟨w.heap.size,3,none⟩=some (.string (bsB d.cm))∧V.cell? ⟨w.heap.size,4,none⟩=some (.slice aS d.S.length cS)∧V.cell? ⟨w.heap.size,5,none⟩=some (.slice aD d.D.length cD)from fun V hV=>zop ((hV.block w.heap.size HSZ.out).trans HX2.out));go_upto_region 10 with fail;refine zqn (S:=fun V=>V.cell? ⟨w.heap.size,0,none⟩=some (.int .i64 d.sc)∧V.cell? ⟨w.heap.size,1,none⟩=some (.string (bsB d.dt))∧V.cell? ⟨w.heap.size,2,none⟩=some (.string (bsB d.vn))∧V.cell? ⟨w.heap.size,3,none⟩=some (.string (bsB d.cm))∧V.cell? ⟨w.heap.size,4,none⟩=some (.slice aS d.S.length cS)∧V.cell? ⟨w.heap.size,5,none⟩=some (.slice aD d.D.length cD)) [0,1,2,5,6,8,10,11] [false,false,false,false,false,false,false,false,false,false,false,false] (by kernel_rfl) (by kernel_rfl) (by rfl) (HSV.out _ (Below.refl _ _).drew) (fun hHeld hStat=>?_);have hbq:Below w2.heap.size w2 w2.drew:=(Below.refl _ _).drew;generalize w2.drew=wC at*;refine tkQ 0 (v:=?_) hStat hHeld rfl rfl ?_;refine tkV 1 (.pointer (some ⟨w.heap.size,0,none⟩)) hStat hHeld rfl rfl ?_;refine tkQ 2 (v:=?_) hStat hHeld rfl rfl ?_;refine tkQ 6 (v:=?_) hStat hHeld rfl rfl ?_;refine oneH 3 (fun K hK=>?_);go_simp;refine((HC1.out _)).mono ?_;rintro e wq ⟨rfl,hbz⟩;have hbq:=zd5 hbq hbz;clear hHeld hbz;go_wp2_with fail;refine hK.out _ _ (HSV.out _ hbq) (fun hHeld=>?_);clear hK;try simp only[tkS]
 refine oneH 4 (fun K hK=>?_);go_simp;refine((HC2.out _)).mono ?_;rintro e wq ⟨rfl,rfl⟩;clear hHeld;go_wp2_with fail;refine hK.out _ _ (HSV.out _ hbq) (fun hHeld=>?_);clear hK;try simp only[tkS]
 refine tkL 5 (v:=?_) hStat hHeld rfl rfl ?_ ?_;rotate_left
 ·intro w h;(try dsimp only at h);go_simp;rw[if_neg (by omega)]
 refine oneH 7 (fun K hK=>?_);go_simp;refine((HC3.out _ (zd5 HB2.out hbq))).mono ?_;rintro e wq ⟨rfl,hbz⟩;have hbq:=zd5 hbq hbz;clear hHeld hbz;go_wp2_with fail;refine hK.out _ _ (HSV.out _ hbq) (fun hHeld=>?_);clear hK;try simp only[tkS]
 refine tkL 8 (v:=?_) hStat hHeld rfl rfl ?_ ?_;rotate_left
 ·intro w h;(try dsimp only at h);go_simp;rw[if_neg (by omega)]
 refine oneH 9 (fun K hK=>?_);go_simp;refine((HC4.out _)).mono ?_;rintro e wq ⟨rfl,rfl⟩;clear hHeld;go_wp2_with fail;refine hK.out _ _ (HSV.out _ hbq) (fun hHeld=>?_);clear hK;try simp only[tkS]
 refine tkL 10 (v:=?_) hStat hHeld rfl rfl ?_ ?_;rotate_left
 ·intro w h;(try dsimp only at h);go_simp;rw[if_neg (by omega)]
 refine tkQ 11 (v:=?_) hStat hHeld rfl rfl ?_;refine wpAnyH_done (by kernel_rfl) ?_ _;clear hHeld hStat;go_wp2_with fail;go_ret;exact⟨by rw[HFR.out,←zqR,←zqR,←zqR];simp only[zqR,List.append_assoc];rfl,zd5 HB2.out hbq⟩
end Go.Proofs.YtcdekelomkcahaaGreatDoor
