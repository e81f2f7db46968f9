import Derived.Test.YtbiadennhnokhaaGreatDoorZ00
import Derived.Handy
import Derived.Test.YtbiadennhnokhaaGreatDoorZ30
import Derived.Test.YtbiadennhnokhaaGreatDoorZ38
set_option maxRecDepth 100000
set_option maxHeartbeats 16000000
namespace Go.Proofs.YtbiadennhnokhaaGreatDoor
open Go.RowKit
set_option linter.unusedSimpArgs false
theorem ztD {l st:List Sg} {d:List Dv} (h:zuG l st d=true) (hd:(d.any fun x=>decide (0≤x.1))=true):zuG l [] d=false:=by
 rw[←Bool.not_eq_true];intro h2;obtain⟨-,-,-,hf⟩:=zuH h2;obtain⟨-,-,h3,-⟩:=zuH h;obtain⟨x,hx,h0⟩:=List.any_eq_true.1 hd;rw[decide_eq_true_iff]at h0;obtain⟨i,hi,rfl⟩:=List.mem_iff_getElem.1 hx;have:=hf i l[i] d[i] (List.getElem?_eq_getElem (by omega)) (List.getElem?_eq_getElem hi);unfold zsB at this;rw[if_pos (.inr (by simpa using h0))]at this;cases this
theorem ztE {l st:List Sg} {d:List Dv} (h:zuG l st d=true) (hd:st=[]∨(d.any fun x=>decide (0≤x.1))=false):zuG l [] d=true:=by
 rcases hd with rfl|hd
 ·exact h
 obtain⟨h1,h2,h3,h4⟩:=zuH h;unfold zuG at h⊢;simp only[Bool.and_eq_true,List.all_eq_true,decide_eq_true_iff]at h⊢;obtain⟨⟨⟨⟨⟨-,-⟩,-⟩,h5⟩,-⟩,h6⟩:=h;refine⟨⟨⟨⟨⟨h1,by simp⟩,h3⟩,h5⟩,fun x hx=>by cases hx⟩,fun p hp=>?_⟩;have h7:=h6 p hp;have h8:p.2∈d:=(List.of_mem_zip hp).2;rw[List.any_eq_false]at hd;have h9:=hd _ h8;rw[decide_eq_true_iff]at h9;unfold zsB at h7⊢;by_cases h10:p.2.1< -1∨(st.length:Int)≤p.2.1
 ·rw[if_pos h10]at h7;cases h7
 have e:p.2.1= -1:=by omega
 rw[if_neg h10,if_neg (by omega),if_pos (.inl e)]at h7;rw[if_neg (by simp;omega),if_neg (by omega),if_pos (.inl e)];exact h7
theorem zul:(srcT tr0).G=[]:=by
 unfold srcT;split<;>rfl
theorem ztM {l st:List Sg} {d:List Dv}:(ztL l st d).2=(if(zuG l st d&&!!st.all svS)=true then 0 else 1)∧((zuG l st d&&!!st.all svS)=false→(ztL l st d).1=[]):=by
 unfold ztL;cases st.all svS<;>cases zuG l st d<;>simp
theorem ztb (d:Dv) (w:World):Calls Tryz.prog 46 #[.agg #[.int .i64 d.1,.int .i64 d.2.1,.bool d.2.2]] w fun e w'=>e=.returned (.bool (decide (0≤d.1)))∧Below w.heap.size w w':=by
 go_enter Tryz.func46,Tryz.ntmps46;go_wp2_with fail;go_ret;exact⟨rfl,(Below.refl _ _).alloc (Nat.le_refl _) _⟩
theorem zrT {D:List Dv} {j:Nat} (h:j<D.length):(D.drop j).any (fun x=>decide (0≤x.1))=(decide (0≤D[j].1)||(D.drop (j+1)).any (fun x=>decide (0≤x.1))):=by
 rw[List.drop_eq_getElem_cons h,List.any_cons]
theorem zsX (v:Value) (D:List Dv) (w:World) (hs:SlR w v D.length (dvs D)):
 Calls Tryz.prog 112 #[v,(.func (.func 46) #[] #[])] w (zq7 (D.any fun x=>decide (0≤x.1)) w):=by
 obtain⟨a,cap,rfl,hc,hm⟩:=hs.shape;unfold maxLen at hm;have HS:=lhd hs;clear hs;go_enter Tryz.func112,Tryz.ntmps112;go_wp2_with fail;go_loopw [8] (fun i wr=>∃j:Nat,j≤D.length∧i=.int .i64 j∧(D.drop j).any (fun x=>decide (0≤x.1))=D.any (fun x=>decide (0≤x.1))∧Below w.heap.size w wr) (fun i _=>D.length-(intOf i).toNat)
 case atStart=>exact⟨0,Nat.zero_le _,rfl,rfl,Below.refl _ _⟩
 case round=>
  obtain⟨j,hj,rfl,hgo,hb⟩:=hrel;have HGO:=lhd hgo;have HB:=lhd hb;clear hgo hb;by_cases hlt:j<D.length
  ·obtain⟨b,o,rfl,d0,d1,d2⟩:=zrY (HS.out.below HB.out) hlt;have HC:=lhd (ztb D[j] wr);have HGO2:=lhd ((zrT hlt).symm.trans HGO.out);generalize D[j]=x at d0 d1 d2 HC HGO2;obtain⟨xk,xn,xl⟩:=x;dsimp only at d0 d1 d2 HC HGO2;go_wp2_with fail;refine HC.out.mono ?_;rintro e w1 ⟨rfl,hb1⟩;have HB1:=lhd (zem HB.out hb1);clear hb1 d0 d1 d2;cases hp:decide (0≤xk)
   ·have HGO3:=lhd (show(D.drop (j+1)).any (fun x=>decide (0≤x.1))=D.any (fun x=>decide (0≤x.1))by rw[←HGO2.out,hp];simp);clear hp;go_wp2_with fail;go_roundw;case rel=>exact⟨j+1,by omega,by go_num,HGO3.out,HB1.out⟩
    case measure=>simp[intOf];omega
   ·have HR:=lhd (show true=D.any (fun x=>decide (0≤x.1))by rw[←HGO2.out,hp];rfl);clear hp;go_wp2_with fail;go_ret;exact⟨⟨j,rfl,by rw[←HR.out];simp,by omega⟩,HB1.out⟩
  ·obtain rfl:j=D.length:=by omega
   have HR:=lhd (show false=D.any (fun x=>decide (0≤x.1))by rw[←HGO.out,List.drop_length];rfl);go_wp2_with fail;go_ret;exact⟨⟨-1,rfl,by rw[←HR.out];rfl,by omega⟩,HB.out⟩
theorem zrS (v:Value) (D:List Dv) (w:World) (hs:SlR w v D.length (dvs D)):
 Calls Tryz.prog 45 #[v,(.func (.func 46) #[] #[])] w fun e w'=>e=.returned (.bool (D.any fun x=>decide (0≤x.1)))∧Below w.heap.size w w':=by
 have HI:=lhd (zsX v D w hs);generalize (D.any fun x=>decide (0≤x.1))=r at HI;obtain⟨a,cap,rfl,hc,hm⟩:=hs.shape;clear hs;go_enter Tryz.func45,Tryz.ntmps45;go_wp2_with fail;refine HI.out.mono ?_;rintro e w1 ⟨⟨i,rfl,hi,hi1⟩,hb⟩;have HH:=lhd hi;clear hi;go_wp2_with fail;go_ret;exact⟨zli HH.out,hb⟩
theorem law_AliasRefuses (v v2 v3:Value) (L S:List (Sg×Value)) (D:List Dv) (w:World) (hs:Sigs w v L) (ht:Sigs w v2 S) (hd:SlR w v3 D.length (dvs D)) (hg:Glob w) (hm:Glm w):
 Calls Tryz.prog 10 #[v,v2,v3] w fun e w'=>e=.returned (.bool true)∧Below w.heap.size w w':=by
 obtain⟨a,cap,rfl,hc,-⟩:=hs.s.shape;obtain⟨a2,cap2,rfl,hc2,-⟩:=ht.s.shape;obtain⟨a3,cap3,rfl,hc3,-⟩:=hd.shape;have HG:=lhd hg;have HM:=lhd hm;have HS:=lhd hs;have HT:=lhd ht;have HD:=lhd hd;clear hg hm hs ht hd;go_enter Tryz.func10,Tryz.ntmps10;go_wp2_with fail;refine(law_awake29 w HG.out).mono ?_;rintro e w1 ⟨rfl,hb1⟩;have HB1:=lhd hb1;clear hb1;go_wp2_with fail;refine(ztA _ L 8 80 _ (HS.out.below HB1.out) (by omega) (by omega)).mono ?_;rintro e w2 ⟨rfl,rfl⟩;cases hf1:zso (L.map Prod.fst) 8 80
 ·clear hf1;go_wp2_with fail;go_ret;exact⟨rfl,HB1.out⟩
 obtain⟨hfit,hl8,-⟩:=zsp hf1 (by omega);have hl:L.length≤8:=by omega
 clear hf1 hfit hl8;go_wp2_with fail;refine(ztA _ S 8 80 _ (HT.out.below HB1.out) (by omega) (by omega)).mono ?_;rintro e w3 ⟨rfl,rfl⟩;cases hf2:zso (S.map Prod.fst) 8 80
 ·clear hf2;go_wp2_with fail;go_ret;exact⟨rfl,HB1.out⟩
 obtain⟨hfit,-,-⟩:=zsp hf2 (by omega);have HF:=lhd hfit;clear hf2 hfit;by_cases hd10:(10:Int)<(D.length:Int)
 ·go_wp2_with fail;go_ret;exact⟨rfl,HB1.out⟩
 have HRS:=lhd (zrd _ _ _ L S D w3 (HG.out.below HB1.out) (HS.out.below HB1.out) (HT.out.below HB1.out) (HD.out.below HB1.out) HF.out);have HVA:=lhd (fun W hW=>zrf _ _ _ L S D W (HS.out.below hW) (HT.out.below hW) (HD.out.below hW));have HCN:=lhd (fun W (hW:Below w.heap.size w W)=>zrQ _ S W (HG.out.below hW) (HT.out.below hW) HF.out);obtain⟨hr1,hr2⟩:=ztM (l:=L.map Prod.fst) (st:=S.map Prod.fst) (d:=D);have HR1:=lhd hr1;have HR2:=lhd hr2;clear hr1 hr2;go_wp2_with fail;refine HRS.out.mono ?_;rintro e w4 ⟨v4,M,rfl,hm4,ho4,hb4⟩;have HB4:=lhd (zem HB1.out hb4)
 have HML:=lhd (show(zuG (L.map Prod.fst) (S.map Prod.fst) D&&!!(S.map Prod.fst).all svS)=false→M=[]from fun h=>by
  rw[HR2.out h]at hm4;exact List.map_eq_nil_iff.1 hm4)
 obtain⟨a4,c4,rfl,-,-⟩:=(SlR.of_own ho4.s).shape;rw[HR1.out];clear hb4 hm4 ho4 HRS HR2 HR1;cases hv:zuG (L.map Prod.fst) (S.map Prod.fst) D
 ·rw[hv]at HML HVA;obtain rfl:=HML.out rfl;clear HML hv;go_wp2_with fail;refine(HVA.out w4 HB4.out).mono ?_;rintro e w5 ⟨rfl,hb5⟩;have HB5:=lhd (zem HB4.out hb5);clear hb5;go_wp2_with fail;go_ret;exact⟨rfl,HB5.out⟩
 have HVL:=lhd hv;rw[hv]at HML HVA;clear hv;cases ha:(S.map Prod.fst).all svS
 ·rw[ha]at HML HCN;obtain rfl:=HML.out rfl;clear HML ha;go_wp2_with fail;refine(HVA.out w4 HB4.out).mono ?_;rintro e w5 ⟨rfl,hb5⟩;have HB5:=lhd (zem HB4.out hb5);clear hb5;go_wp2_with fail;refine(HCN.out w5 HB5.out).mono ?_;rintro e w6 ⟨rfl,hb6⟩;have HB6:=lhd (zem HB5.out hb6);clear hb6;go_wp2_with fail;go_ret;exact⟨rfl,HB6.out⟩
 rw[ha]at HML HCN;clear HML ha;go_wp2_with fail;refine(HVA.out w4 HB4.out).mono ?_;rintro e w5 ⟨rfl,hb5⟩;have HB5:=lhd (zem HB4.out hb5);clear hb5;go_wp2_with fail;refine(HCN.out w5 HB5.out).mono ?_;rintro e w6 ⟨rfl,hb6⟩;have HB6:=lhd (zem HB5.out hb6);have HTS:=lhd (zo6 tr0 tp0 w6 (zo0 _) ⟨⟨by decide,by decide,by decide⟩,⟨by decide,by decide⟩,⟨fun s hs=>(by cases hs),fun s hs=>(by cases hs)⟩,fun s hs=>(by cases hs),by decide⟩ (by decide) (HG.out.below HB6.out) (HM.out.below HB6.out) (fun x hx=>by cases hx));clear hb6;go_wp2_with fail;refine HTS.out.mono ?_;rintro e w7 ⟨q,rfl,hq,hb7⟩;have HB7:=lhd (zem HB6.out hb7);have HAS:=lhd (zre (srcT tr0) q _ _ L D w7 hq (by rw[zul];decide) (HS.out.below HB7.out) (HD.out.below HB7.out) ⟨by omega,by omega⟩);unfold AsP at HAS;rw[zul]at HAS;clear hb7 hq HTS;go_wp2_with fail;refine HAS.out.mono ?_;rintro e w8 ⟨he,hb8⟩;have HB8:=lhd (zem HB7.out hb8);have HCD:=lhd (zrS _ D w8 (HD.out.below HB8.out));clear hb8 HAS;have HVL0:=HVL.out;have hany0:([]:List Sg).map (fun s=>((s.1,s.2.1,[]):Sg))=[]:=rfl;rw[hany0]at he;clear hany0 HVL;by_cases hS:0<S.length
 ·have hSi:(0:Int)<(S.length:Int):=by omega
  cases hany:D.any (fun x=>decide (0≤x.1))
  ·rw[if_pos (ztE HVL0 (.inr hany))]at he;obtain⟨b,vl,vd,rfl,ham⟩:=he;have HAM:=lhd ham;rw[hany]at HCD;clear HVL0 hany ham hS;go_wp2_with fail;refine HCD.out.mono ?_;rintro e w9 ⟨rfl,hb9⟩;have HB9:=lhd (zem HB8.out hb9);have HSG:=lhd (zrt (HAM.out.below hb9));clear hb9;go_wp2_with fail;refine HSG.out.mono ?_;rintro e w10 ⟨rfl,rfl⟩;go_wp2_with fail;go_ret;exact⟨rfl,HB9.out⟩
  ·rw[if_neg (by rw[ztD HVL0 hany];decide)]at he;subst he;rw[hany]at HCD;clear HVL0 hany hS;go_wp2_with fail;refine HCD.out.mono ?_;rintro e w9 ⟨rfl,hb9⟩;have HB9:=lhd (zem HB8.out hb9);clear hb9;go_wp2_with fail;go_ret;exact⟨rfl,HB9.out⟩
 ·have hSi:¬(0:Int)<(S.length:Int):=by omega
  obtain rfl:S=[]:=List.eq_nil_of_length_eq_zero (by omega);rw[if_pos (ztE HVL0 (.inl rfl))]at he;obtain⟨b,vl,vd,rfl,ham⟩:=he;have HSG:=lhd (zrt ham);clear HVL0 ham hS;go_wp2_with fail;refine HSG.out.mono ?_;rintro e w10 ⟨rfl,rfl⟩;go_wp2_with fail;go_ret;exact⟨rfl,HB8.out⟩
end Go.Proofs.YtbiadennhnokhaaGreatDoor
