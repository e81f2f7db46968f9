import Derived.Test.YtcdekelomkcahaaGreatDoorZ00
import Derived.Test.YtcdekelomkcahaaGreatDoorZ03
import Derived.Test.YtcdekelomkcahaaGreatDoorZ17
import Derived.Test.YtcdekelomkcahaaGreatDoorZ20
import Derived.Test.YtcdekelomkcahaaGreatDoorZ23
import Derived.Test.YtcdekelomkcahaaGreatDoorZ31
import Derived.Test.YtcdekelomkcahaaGreatDoorZ34
import Derived.Test.YtcdekelomkcahaaGreatDoorZ49
set_option maxRecDepth 100000
set_option maxHeartbeats 16000000
namespace Go.Proofs.YtcdekelomkcahaaGreatDoor
open Go.RowKit
set_option linter.unusedSimpArgs false
theorem law_DeclarationsPrefix (v v2:Value) (ws mo:List Wd) (w:World) (hg:Glob w) (he:zag w) (hm:Glm w) (hs:SlR w v ws.length (wds ws)) (hs2:SlR w v2 mo.length (wds mo)) (hB:wdsN ws+wdsN mo≤1100000):
 Calls Tryz.prog 7 #[v,v2] w fun e w'=>e=.returned (.bool true)∧Below w.heap.size w w':=by
 obtain⟨a1,k1,rfl,hc1,hm1⟩:=hs.shape;obtain⟨a2,k2,rfl,hc2,hm2⟩:=hs2.shape;obtain⟨i0,hi,iz0,iz1,iz2⟩:=info_parts (P:=Tryz.prog) zpF;have HS:=lhd hs;have HS2:=lhd hs2;have HG:=lhd hg;have HE:=lhd he;have HM:=lhd hm;have HBB:=lhd hB;clear hs hs2 hg he hm hB;go_enter Tryz.func7,Tryz.ntmps7;go_wp2_with fail;refine(law_awake25 _ HG.out HE.out HM.out).mono ?_;rintro e w1 ⟨rfl,hb1⟩;have HB1:=lhd hb1;clear hb1;by_cases h1:ws.length≤120
 rotate_left
 ·have d1:decide ((120:Int)<(ws.length:Int))=true:=by rw[decide_eq_true_iff];omega
  go_wp2_with fail;go_ret;exact⟨rfl,HB1.out⟩
 have d1:decide ((120:Int)<(ws.length:Int))=false:=by rw[decide_eq_false_iff_not];omega
 by_cases h2:mo.length≤120
 rotate_left
 ·have d2:decide ((120:Int)<(mo.length:Int))=true:=by rw[decide_eq_true_iff];omega
  go_wp2_with fail;go_ret;exact⟨rfl,HB1.out⟩
 have d2:decide ((120:Int)<(mo.length:Int))=false:=by rw[decide_eq_false_iff_not];omega
 have HL1:=lhd h1;have HL2:=lhd h2;clear h1 h2;go_wp2_with fail;refine(zdh _ ws w1 (HS.out.below HB1.out) (HG.out.below HB1.out) (HE.out.below HB1.out) (HM.out.below HB1.out) (by have:=HL1.out;omega) (by have:=HBB.out;omega)).mono ?_;rintro e w2 ⟨vS1,vD1,vr1,rfl,hoS,hoD,hor,hb1⟩;have hsS:=SlR.of_own hoS;have hsD:=SlR.of_own hoD;have hsr:=SlR.of_own hor;obtain⟨aS1,cS1,rfl,-,-⟩:=hsS.shape;obtain⟨aD1,cD1,rfl,-,-⟩:=hsD.shape;obtain⟨ar1,cr1,rfl,-,-⟩:=hsr.shape;have hle:(zjK ws).2≤ws.length:=zlp ws.length ws ds0 (Nat.le_refl _);obtain⟨P,hP⟩:∃P,P=zjK ws:=⟨_,rfl⟩;have HP:=lhd hP;rw[←hP]at hle hsS hsD hsr⊢;obtain⟨st,np⟩:=P;dsimp only at hle hsS hsD hsr⊢;have hal:Below w2.heap.size w2 (w2.alloc (.cells #[.int .i64 st.sc,.string (bsB st.dt),.string (bsB st.vn),.string (bsB st.cm),.slice aS1 st.S.length cS1,.slice aD1 st.D.length cD1] 25)):=(Below.refl _ _).alloc (Nat.le_refl _) _;have HX:=lhd (zaq.fresh w2 #[.int .i64 st.sc,.string (bsB st.dt),.string (bsB st.vn),.string (bsB st.cm),.slice aS1 st.S.length cS1,.slice aD1 st.D.length cD1] 25);have HZ:=lhd (show w2.heap.size<(w2.alloc (.cells #[.int .i64 st.sc,.string (bsB st.dt),.string (bsB st.vn),.string (bsB st.cm),.slice aS1 st.S.length cS1,.slice aD1 st.D.length cD1] 25)).heap.size by simp);have HB3:=lhd (zd5 HB1.out (zd5 hb1 hal));have HSS:=lhd (hsS.below hal);have HSD:=lhd (hsD.below hal);have HSR:=lhd (hsr.below hal);have n0:¬(np:Int)<0:=by omega
 clear hP hoS hoD hor hsS hsD hsr hb1 hal;go_upto_region 6 with fail;generalize w2.alloc (.cells #[.int .i64 st.sc,.string (bsB st.dt),.string (bsB st.vn),.string (bsB st.cm),.slice aS1 st.S.length cS1,.slice aD1 st.D.length cD1] 25)=w3 at*;generalize w2.heap.size=bX at*;by_cases hn:np=ws.length
 ·subst hn;go_wp2_with fail;go_ret;exact⟨rfl,HB3.out⟩
 have hne:((np:Int)==(ws.length:Int))=false:=by rw[beq_eq_false_iff_ne];omega
 have hlt:np<ws.length:=by omega
 have hw:IntKind.i64.wrap ((np:Int)+1)=(np:Int)+1:=IntWalk.i64_in _ (by have:=HL1.out;omega);obtain⟨ad,c9,hsl,hsh⟩:=zpE a1 k1 ws np w3 hlt (HS.out.below HB3.out);have HSH:=lhd hsh;have HLT:=lhd hlt;have hb4:Below w3.heap.size w3 (w3.alloc (.cells #[] 58)):=(Below.refl _ _).alloc (Nat.le_refl _) _;have HB4:=lhd hb4;have HOF:=lhd (zjg w3);have hl1:=HL1.out;have hl2:=HL2.out;have htl:(ws.take (np+1)).length=np+1:=by rw[List.length_take];omega
 have HTL:=lhd htl;clear hn hle hsh htl hb4 n0;go_wp2_with (first|(at_builtin;refine zqk _ rfl _ _ 37 rfl w3.heap.size 58 i0 (.agg #[.string ⟨#[]⟩,.int .i64 0,.int .i64 0,.int .i64 0]) 4 40 Tryz.underlying37 hi iz0 iz1 iz2 rfl (by decide) (.slice a5 (np+1) c5) (np+1) _ (by rfl) HO5.out a2 mo.length k2 (wds mo) (by rfl) (HS2.out.below (zd5 HB3.out HB5.out)) (by rw[zpQ];omega) (zpR mo) (by unfold maxLen;omega) (by omega) HB5.out.size ?_;intro v6 w6 hown hgrow;have HO6:=lhd hown;have HB6:=lhd (HB5.out.grown hgrow HB5.out.size (fun q hq=>(HO5.out.lt q hq).1));obtain⟨a6,c6,rfl,-,-⟩:=(SlR.of_own hown).shape;clear hown hgrow)|(at_builtin;refine zqk _ rfl _ _ 37 rfl w3.heap.size 58 i0 (.agg #[.string ⟨#[]⟩,.int .i64 0,.int .i64 0,.int .i64 0]) 4 40 Tryz.underlying37 hi iz0 iz1 iz2 rfl (by decide) (.slice (some ⟨w3.heap.size,0,none⟩) 0 0) 0 [] (by rfl) HOF.out ad (np+1) c9 (wds (ws.take (np+1))) (by rfl) (HSH.out.below HB4.out) (by rw[zpQ,HTL.out];omega) (zpR _) (by unfold maxLen;omega) (by omega) (by simp) ?_;intro v5 w5 hown hgrow;rw[Nat.zero_add,List.nil_append]at hown;have HO5:=lhd hown;have HB5:=lhd (HB4.out.grown hgrow HB4.out.size (fun q hq=>(HOF.out.lt q hq).1));obtain⟨a5,c5,rfl,-,-⟩:=(SlR.of_own hown).shape;clear hown hgrow))
 have HB6a:=lhd (zd5 HB3.out HB6.out);obtain⟨W2,hW2⟩:∃W2,W2=ws.take (np+1)++mo:=⟨_,rfl⟩;have hwl:W2.length=np+1+mo.length:=by rw[hW2,List.length_append,HTL.out]
 have hs6:SlR w6 (.slice a6 (np+1+mo.length) c6) W2.length (wds W2):=by
  have:=SlR.of_own HO6.out;rw[←zpK,←hW2,←hwl]at this;rw[←hwl];exact this
 have hpar:zjK W2=(st,np):=by
  have hp:=HP.out;have hn2:(zjK ws).2=np:=by rw[←hp]
  have:=zlt ws.length ws W2 ds0 (Nat.le_refl _) (by show(zjK ws).2<_;rw[hn2];exact HLT.out) (by
   show W2.take ((zjK ws).2+1)=ws.take ((zjK ws).2+1);rw[hn2,hW2,List.take_append_of_le_length (by rw[HTL.out];exact Nat.le_refl _),List.take_of_length_le (by rw[HTL.out];exact Nat.le_refl _)])
  show dRun ds0 W2=_;rw[this];exact hp.symm
 have hwn:wdsN W2≤2000000:=by
  have h1:=zpJ (List.take_sublist (np+1) ws);have h2:=zpH (ws.take (np+1)) mo;rw[←hW2]at h2;have:=HBB.out;omega
 have HHS:=lhd hs6;have HPAR:=lhd hpar;have HWN:=lhd hwn;have HWL:=lhd hwl;clear hs6 hpar hwn hW2 hwl;refine(zdh _ W2 w6 HHS.out (HG.out.below HB6a.out) (HE.out.below HB6a.out) (HM.out.below HB6a.out) (by have:=HWL.out;have:=HLT.out;omega) HWN.out).mono ?_;rintro e w7 ⟨vS2,vD2,vr2,rfl,hoS,hoD,hor,hb7⟩;rw[HPAR.out]at hoS hoD hor⊢;have hsS:=SlR.of_own hoS;have hsD:=SlR.of_own hoD;have hsr:=SlR.of_own hor;obtain⟨aS2,cS2,rfl,-,-⟩:=hsS.shape;obtain⟨aD2,cD2,rfl,-,-⟩:=hsD.shape;obtain⟨ar2,cr2,rfl,-,-⟩:=hsr.shape;dsimp only at hsS hsD hsr⊢;have hal:Below w7.heap.size w7 (w7.alloc (.cells #[.int .i64 st.sc,.string (bsB st.dt),.string (bsB st.vn),.string (bsB st.cm),.slice aS2 st.S.length cS2,.slice aD2 st.D.length cD2] 25)):=(Below.refl _ _).alloc (Nat.le_refl _) _;have HY8:=lhd (zaq.fresh w7 #[.int .i64 st.sc,.string (bsB st.dt),.string (bsB st.vn),.string (bsB st.cm),.slice aS2 st.S.length cS2,.slice aD2 st.D.length cD2] 25);have hb38:=zd5 HB6.out (zd5 hb7 hal);have HX8:=lhd (HX.out.below hb38 HZ.out);have HB8:=lhd (zd5 HB3.out hb38);have HT1:=lhd (HSS.out.below hb38);have HT2:=lhd (HSD.out.below hb38);have HT3:=lhd (HSR.out.below hb38);have HT4:=lhd (hsS.below hal);have HT5:=lhd (hsD.below hal);have HT6:=lhd (hsr.below hal);clear hoS hoD hor hsS hsD hsr hb7 hal hb38 HO5 HO6 HHS;go_upto_region 11 with fail;generalize w7.alloc (.cells #[.int .i64 st.sc,.string (bsB st.dt),.string (bsB st.vn),.string (bsB st.cm),.slice aS2 st.S.length cS2,.slice aD2 st.D.length cD2] 25)=w8 at*;generalize w7.heap.size=bY at*;have x0:=HX8.out.cell (j:=0) rfl;have y0:=HY8.out.cell (j:=0) rfl;have x1:=HX8.out.cell (j:=1) rfl;have y1:=HY8.out.cell (j:=1) rfl;have x2:=HX8.out.cell (j:=2) rfl;have y2:=HY8.out.cell (j:=2) rfl;have x3:=HX8.out.cell (j:=3) rfl;have y3:=HY8.out.cell (j:=3) rfl;have x4:=HX8.out.cell (j:=4) rfl;have y4:=HY8.out.cell (j:=4) rfl;have x5:=HX8.out.cell (j:=5) rfl;have y5:=HY8.out.cell (j:=5) rfl;have HSM:=lhd (zlg (toDD st) (.slice aS1 st.S.length cS1) (.slice aD1 st.D.length cD1) (.slice aS2 st.S.length cS2) (.slice aD2 st.D.length cD2) w8 HT1.out HT2.out HT4.out HT5.out);have HPB:=lhd (fun W (hW:Below w8.heap.size w8 W)=>zlG st.wrong _ _ W (HT3.out.below hW) (HT6.out.below hW));go_wp2_with fail;refine HSM.out.mono ?_;rintro e w9 ⟨rfl,hb9⟩;have HB9:=lhd hb9;clear hb9 x0 x1 x2 x3 x4 x5 y0 y1 y2 y3 y4 y5;go_wp2_with fail;refine(HPB.out _ HB9.out).mono ?_;rintro e w10 ⟨rfl,hb10⟩;go_wp2_with fail;go_ret;exact⟨zle rfl,zd5 HB8.out (zd5 HB9.out hb10)⟩
end Go.Proofs.YtcdekelomkcahaaGreatDoor
