import Derived.Test.YtbiadennhnokhaaGreatDoorZ00
import Derived.Test.YtbiadennhnokhaaGreatDoorZ33
import Derived.Test.YtbiadennhnokhaaGreatDoorZ35
set_option maxRecDepth 100000
set_option maxHeartbeats 16000000
namespace Go.Proofs.YtbiadennhnokhaaGreatDoor
open Go.RowKit
def zkB (L:List (Sg×Value)) (st:List Nat):List (Sg×Value):=st.map fun k=>L.getD k ((0,0,[]),.slice none 0 0)
theorem zkC {L:List (Sg×Value)} {st:List Nat} (h:∀k∈st,k<L.length):(zkB L st).map Prod.fst=st.map (sgAt (L.map Prod.fst)):=by
 unfold zkB;rw[List.map_map];apply List.map_congr_left;intro k hk;have:=h k hk;rw[zmB (by simpa using this)];simp[List.getD,this]
theorem zkD (L:List (Sg×Value)) (st:List Nat):(zkB L st).length=st.length:=by simp[zkB]
theorem zkE {L:List (Sg×Value)} {st:List Nat} (h:∀k∈st,k<L.length):∀x∈zkB L st,x∈L:=by
 intro x hx;obtain⟨k,hk,rfl⟩:=List.mem_map.1 hx;have:=h k hk;simp[List.getD,this]
theorem law_pick (v v2:Value) (L:List (Sg×Value)) (st:List Nat) (w:World) (hs:Sigs w v L) (ht:SlR w v2 st.length (nats st)) (hin:∀k∈st,k<L.length) (hl:st.length≤1000):
 Calls Tryz.prog 48 #[v,v2] w fun e w'=>∃v',e=.returned (.tuple #[v',.bool true])∧w'.ownsRow w.heap.size 45 3 v' (zkB L st).length (sgs (zkB L st))∧Below w.heap.size w w':=by
 obtain⟨i0,hi,iz0,iz1,iz2⟩:=info_parts (P:=Tryz.prog) zmF;obtain⟨a,cap,rfl,hc,hm⟩:=hs.s.shape;obtain⟨a2,cap2,rfl,hc2,hm2⟩:=ht.shape;have HS:=lhd hs;have HT:=lhd ht;have HIN:=lhd hin;clear hs ht hin hm hm2;go_enter Tryz.func48,Tryz.ntmps48;go_wp2_with fail;go_loopw [6,11] (fun o_ i wr=>∃(j:Nat),j≤st.length∧i=.int .i64 j∧wr.ownsRow w.heap.size 45 3 o_ j (sgs (zkB L (st.take j)))∧Below w.heap.size w wr) (fun _ i _=>st.length-(intOf i).toNat)
 case atStart=>exact⟨0,Nat.zero_le _,rfl,World.ownsRow_nil _ _ _ _,Below.refl _ _⟩
 case round=>
  obtain⟨j,hj,rfl,ho,hb⟩:=hrel;obtain⟨ao,co,rfl,-,-⟩:=(SlR.of_own ho).shape;have HO:=lhd ho;have HB:=lhd hb;clear ho hb;by_cases hlt:j<st.length
  ·obtain⟨bs,os,c',hv,-,-,hcell⟩:=(HT.out.below HB.out).at (by omega);injection hv with e1 e2 e3;subst e1;clear e2 e3;obtain⟨kk,hkk⟩:∃kk,st[j]=kk:=⟨_,rfl⟩;have hki:kk<L.length:=hkk▸HIN.out st[j] (List.getElem_mem hlt);have hkc:=hcell j (.int .i64 (kk:Int)) (by simp[nats,hlt,hkk]);obtain⟨b,o,rfl,y0,y1,y2,hd⟩:=(HS.out.below HB.out).at hki
   have HP:=lhd (show sgs (zkB L (st.take (j+1)))=sgs (zkB L (st.take j))++ [.int .i64 L[kk].1.1,.int .i64 L[kk].1.2.1,L[kk].2]by
    rw[List.take_succ_eq_append_getElem hlt,hkk];unfold zkB;rw[List.map_append,zmG];simp[sgs,sgC,List.getD,hki])
   generalize L[kk]=x at y0 y1 y2 hd HP;obtain⟨⟨xk,xn,xl⟩,xv⟩:=x;dsimp only at y0 y1 y2 hd HP;obtain⟨xa,xc,rfl,-,-⟩:=hd.shape;have hk0:decide ((kk:Int)<0)=false:=by rw[decide_eq_false_iff_not];omega
   have hk1:decide ((L.length:Int)≤(kk:Int))=false:=by rw[decide_eq_false_iff_not];omega
   have HC:=lhd (World.news_of_block (w:=wr.alloc (.cells #[.int .i64 xk,.int .i64 xn,.slice xa xl.length xc] 45)) (cs:=#[.int .i64 xk,.int .i64 xn,.slice xa xl.length xc]) (t:=45) (fr:=(0,0)) (by exact heap_alloc_new wr _));have hszb:=HB.out.size;clear hcell hd;go_wp2_with (at_builtin;refine wpList_append_own _ rfl _ _ 24 rfl w.heap.size 45 i0 (.agg #[.int .i64 0,.int .i64 0,.slice none 0 0]) 3 40 Tryz.underlying24 hi iz0 iz1 iz2 rfl (by decide) _ _ _ rfl (World.ownsRow.alloc (by exact HO.out) _) ⟨wr.heap.size,0,none⟩ 1 1 [.int .i64 xk,.int .i64 xn,.slice xa xl.length xc] rfl rfl HC.out (by simp[Value.oneCell']) (by unfold maxLen;omega) (by omega) (by simp;omega) ?_)
   intro v6 w6 ho6 hg6 _;have HO6:=lhd ho6;have HB6:=lhd ((HB.out.alloc HB.out.size (.cells #[.int .i64 xk,.int .i64 xn,.slice xa xl.length xc] 45)).grown hg6 (by simp;omega) (fun q hq=>(HO.out.lt q hq).1));clear ho6 hg6;go_wp2_with fail;go_roundw;case rel=>exact⟨j+1,by omega,by go_num,by rw[HP.out];exact HO6.out,HB6.out⟩
   case measure=>simp[intOf];omega
  ·obtain rfl:j=st.length:=by omega
   have HO2:=lhd (show wr.ownsRow w.heap.size 45 3 (.slice ao st.length co) (zkB L st).length (sgs (zkB L st))by have:=HO.out;rw[List.take_length]at this;rw[zkD];exact this);go_wp2_with fail;refine bodyPost_ret (v:=.tuple #[.slice ao st.length co,.bool true]) (by simp[results,Tryz.results48,go_sem]) rfl ?_;exact⟨_,rfl,HO2.out,HB.out⟩
def exS:List Sg:=[(0,2,[(1,⟨#[48,49]⟩),(3,⟨#[49,49]⟩)]),(0,1,[(1,⟨#[48]⟩),(3,⟨#[49]⟩)]),(0,1,[(1,⟨#[49]⟩),(3,⟨#[48]⟩)])]
def exD:List Dv:=[(0,0,false),(0,1,false),(0,1,true)]
theorem zev:ordF exS=[0,1,2]:=by
 unfold ordF;rw[List.mergeSort_of_pairwise]
 ·rfl
 ·decide
theorem zey:runF exS [0,1,2]=([0],exD):=by kernel_rfl
theorem zet:exS.all svS=true:=by kernel_rfl
theorem zeu:zeN exS=([0],exD):=by
 have hk:zon exS=[0]:=by
  unfold zon zg6;rw[zev,zey];simp
 unfold zeN;rw[if_pos zet,hk];refine Prod.ext rfl ?_;unfold zdO;rw[zev,zey,hk];rfl
theorem zex:zlD exS (exS.take 1) exD=(exS,0):=by kernel_rfl
theorem zez:zqw exS (exS.take 1) exD=true:=by kernel_rfl
theorem zew:zll (0,1,true) 0 1 ⟨#[48,49]⟩=⟨#[49]⟩:=by kernel_rfl
theorem Sigs.take1 {w:World} {a:Option Addr} {n cap:Nat} {L:List (Sg×Value)} (h:Sigs w (.slice a n cap) L) (hn:n=L.length) (hl:0<L.length) (hc:1≤cap):Sigs w (.slice a 1 cap) (L.take 1):=by
 obtain⟨x,M,rfl⟩:∃x M,L=x::M:=by
  cases L with
  |nil=>simp at hl
  |cons x M=>exact⟨x,M,rfl⟩
 subst hn;have hs:=h.s;rw[show sgs (x::M)=sgs [x]++sgs M by simp[sgs]]at hs;exact⟨hs.cut (by simp) hc (Nat.le_refl _),fun y hy=>h.m y (List.mem_of_mem_take hy)⟩
theorem zkl {w:World} {b n cap:Nat} {C:Array Value} {xs:List Value} (h:zas w b C.toList) (hx:xs=C.toList) (hn:n≤cap) (hm:cap≤maxLen):SlR w (.slice (some ⟨b,0,none⟩) n cap) n xs:=by
 subst hx;exact⟨_,cap,rfl,hn,hm,fun h=>by simp at h,fun _=>⟨b,0,rfl,fun j u hj=>by rw[Nat.zero_add];exact h.cell hj⟩⟩
def zaf (w:World) (e:Ending) (w':World):Prop:=∃g M,e=.returned (.slice (some ⟨g,0,none⟩) 3 3)∧M.map Prod.fst=exS∧Sigs w' (.slice (some ⟨g,0,none⟩) 3 3) M∧Below w.heap.size w w'
theorem law_example29 (w:World):
 Calls Tryz.prog 100 #[] w (zaf w):=by
 have h0:=zas.fresh w #[.int .i64 1,.string ⟨#[48,49]⟩,.int .i64 3,.string ⟨#[49,49]⟩] 53;have hb0:Below w.heap.size w (w.alloc (.cells #[.int .i64 1,.string ⟨#[48,49]⟩,.int .i64 3,.string ⟨#[49,49]⟩] 53)):=(Below.refl _ _).alloc (Nat.le_refl _) _;have hz0:(w.alloc (.cells #[.int .i64 1,.string ⟨#[48,49]⟩,.int .i64 3,.string ⟨#[49,49]⟩] 53)).heap.size=w.heap.size+1:=by simp
 go_enter Tryz.func100,Tryz.ntmps100;go_wp2_with fail;generalize w.alloc (.cells #[.int .i64 1,.string ⟨#[48,49]⟩,.int .i64 3,.string ⟨#[49,49]⟩] 53)=w1 at h0 hb0 hz0⊢;have h1:=zas.fresh w1 #[.int .i64 1,.string ⟨#[48]⟩,.int .i64 3,.string ⟨#[49]⟩] 53;have h0:=h0.alloc (by omega) (.cells #[.int .i64 1,.string ⟨#[48]⟩,.int .i64 3,.string ⟨#[49]⟩] 53);have hb1:=hb0.alloc hb0.size (.cells #[.int .i64 1,.string ⟨#[48]⟩,.int .i64 3,.string ⟨#[49]⟩] 53);have hz1:(w1.alloc (.cells #[.int .i64 1,.string ⟨#[48]⟩,.int .i64 3,.string ⟨#[49]⟩] 53)).heap.size=w.heap.size+1+1:=by simp[hz0]
 rw[hz0]at h1;generalize w1.alloc (.cells #[.int .i64 1,.string ⟨#[48]⟩,.int .i64 3,.string ⟨#[49]⟩] 53)=w2 at h0 h1 hb1 hz1⊢;have h2:=zas.fresh w2 #[.int .i64 1,.string ⟨#[49]⟩,.int .i64 3,.string ⟨#[48]⟩] 53;have h0:=h0.alloc (by omega) (.cells #[.int .i64 1,.string ⟨#[49]⟩,.int .i64 3,.string ⟨#[48]⟩] 53);have h1:=h1.alloc (by omega) (.cells #[.int .i64 1,.string ⟨#[49]⟩,.int .i64 3,.string ⟨#[48]⟩] 53);have hb2:=hb1.alloc hb1.size (.cells #[.int .i64 1,.string ⟨#[49]⟩,.int .i64 3,.string ⟨#[48]⟩] 53);have hz2:(w2.alloc (.cells #[.int .i64 1,.string ⟨#[49]⟩,.int .i64 3,.string ⟨#[48]⟩] 53)).heap.size=w.heap.size+1+1+1:=by simp[hz1]
 rw[hz1]at h2;generalize w2.alloc (.cells #[.int .i64 1,.string ⟨#[49]⟩,.int .i64 3,.string ⟨#[48]⟩] 53)=w3 at h0 h1 h2 hb2 hz2⊢;have h3:=zas.fresh w3 #[.int .i64 0,.int .i64 2,.slice (some ⟨w.heap.size,0,none⟩) 2 2,.int .i64 0,.int .i64 1,.slice (some ⟨w.heap.size+1,0,none⟩) 2 2,.int .i64 0,.int .i64 1,.slice (some ⟨w.heap.size+1+1,0,none⟩) 2 2] 45;rw[hz2]at h3;have h0:=h0.alloc (by omega) (.cells #[.int .i64 0,.int .i64 2,.slice (some ⟨w.heap.size,0,none⟩) 2 2,.int .i64 0,.int .i64 1,.slice (some ⟨w.heap.size+1,0,none⟩) 2 2,.int .i64 0,.int .i64 1,.slice (some ⟨w.heap.size+1+1,0,none⟩) 2 2] 45);have h1:=h1.alloc (by omega) (.cells #[.int .i64 0,.int .i64 2,.slice (some ⟨w.heap.size,0,none⟩) 2 2,.int .i64 0,.int .i64 1,.slice (some ⟨w.heap.size+1,0,none⟩) 2 2,.int .i64 0,.int .i64 1,.slice (some ⟨w.heap.size+1+1,0,none⟩) 2 2] 45);have h2:=h2.alloc (by omega) (.cells #[.int .i64 0,.int .i64 2,.slice (some ⟨w.heap.size,0,none⟩) 2 2,.int .i64 0,.int .i64 1,.slice (some ⟨w.heap.size+1,0,none⟩) 2 2,.int .i64 0,.int .i64 1,.slice (some ⟨w.heap.size+1+1,0,none⟩) 2 2] 45);have hb3:=hb2.alloc hb2.size (.cells #[.int .i64 0,.int .i64 2,.slice (some ⟨w.heap.size,0,none⟩) 2 2,.int .i64 0,.int .i64 1,.slice (some ⟨w.heap.size+1,0,none⟩) 2 2,.int .i64 0,.int .i64 1,.slice (some ⟨w.heap.size+1+1,0,none⟩) 2 2] 45);refine bodyPost_ret (v:=.slice (some ⟨w.heap.size+1+1+1,0,none⟩) 3 3) (by simp[results,Tryz.results100,go_sem]) rfl ?_;refine⟨_,[((0,2,[(1,⟨#[48,49]⟩),(3,⟨#[49,49]⟩)]),.slice (some ⟨w.heap.size,0,none⟩) 2 2),((0,1,[(1,⟨#[48]⟩),(3,⟨#[49]⟩)]),.slice (some ⟨w.heap.size+1,0,none⟩) 2 2),((0,1,[(1,⟨#[49]⟩),(3,⟨#[48]⟩)]),.slice (some ⟨w.heap.size+1+1,0,none⟩) 2 2)],rfl,rfl,⟨zkl h3 rfl (Nat.le_refl _) (by decide),fun x hx=>?_⟩,hb3⟩;rcases List.mem_cons.1 hx with rfl|hx
 ·exact zkl h0 rfl (Nat.le_refl _) (by decide)
 ·rcases List.mem_cons.1 hx with rfl|hx
  ·exact zkl h1 rfl (Nat.le_refl _) (by decide)
  ·rcases List.mem_cons.1 hx with rfl|hx
   ·exact zkl h2 rfl (Nat.le_refl _) (by decide)
   ·cases hx
theorem zes:∀s∈exS,Fit s.2.2:=by
 show ∀s∈exS,s.2.2.length≤1000000∧∀c∈s.2.2,c.2.size≤1000000;decide
theorem zer {M:List (Sg×Value)} (h:M.map Prod.fst=exS):FitS M∧FitS (M.take 1)∧M.length=3:=by
 have hl:M.length=3:=by have:=congrArg List.length h;simpa[exS] using this
 have hf:∀x∈M,Fit x.1.2.2:=fun x hx=>zes x.1 (h▸List.mem_map_of_mem hx);exact⟨⟨by omega,hf⟩,⟨by rw[List.length_take];omega,fun x hx=>hf x (List.mem_of_mem_take hx)⟩,hl⟩
theorem law_awake29 (w:World) (hg:Glob w):
 Calls Tryz.prog 37 #[] w fun e w'=>e=.returned (.bool true)∧Below w.heap.size w w':=by
 have HG:=lhd hg;clear hg;go_enter Tryz.func37,Tryz.ntmps37;go_wp2_with fail;refine(law_example29 w).mono ?_;rintro e w1 ⟨g,M,rfl,hM,hs1,hb1⟩;obtain⟨hf,hf1,hml⟩:=zer hM;have HM:=lhd hM;have HS1:=lhd hs1;have HB1:=lhd hb1;have HF1:=lhd hf1;have HFI:=lhd (zaK _ M w1 (HG.out.below hb1) hs1 hf (by omega));rw[HM.out,zeu]at HFI;have HT1:=lhd (hs1.take1 hml.symm (by omega) (by decide));clear hM hs1 hb1 hf hf1 hml;go_wp2_with fail;refine HFI.out.mono ?_;rintro e w2 ⟨v1,v2,rfl,ho1,ho2,hb2⟩;obtain⟨b1,o1,c1,rfl,-,-,hc1⟩:=(SlR.of_own (show w2.ownsRow w1.heap.size 3 1 v1 1 (nats [0])from ho1)).at (by decide);have k0:w2.cell? ⟨b1,o1,none⟩=some (.int .i64 0):=hc1 0 (.int .i64 0) rfl;have ho2':SlR w2 v2 3 (dvs exD):=ho2;obtain⟨b2,o2,c2,rfl,-,-,hc2⟩:=ho2'.at (by decide);have HD:=lhd ho2';have HB2:=lhd hb2;have k6:=hc2 6 (.int .i64 0) rfl;have k7:=hc2 7 (.int .i64 1) rfl;have k8:=hc2 8 (.bool true) rfl;have hbx:=(Below.refl w2.heap.size w2).alloc (Nat.le_refl _) (.cells #[.int .i64 0,.int .i64 0,.bool false,.int .i64 0,.int .i64 1,.bool false,.int .i64 0,.int .i64 1,.bool true] 87);have HE:=lhd (zkl (xs:=dvs exD) (n:=3) (cap:=3) (zas.fresh w2 #[.int .i64 0,.int .i64 0,.bool false,.int .i64 0,.int .i64 1,.bool false,.int .i64 0,.int .i64 1,.bool true] 87) rfl (Nat.le_refl _) (by decide));have HBX:=lhd hbx;clear ho1 ho2 ho2' hc1 hc2 hb2 hbx;go_wp2_with fail;refine(zls _ _ exD exD _ (HD.out.below HBX.out) HE.out).mono ?_;rw[decide_eq_true (show exD=exD from rfl)];rintro e w3 ⟨rfl,hb3⟩;have HB3:=lhd (zeG HBX.out hb3);have HB03:=lhd (zeG (zeG HB1.out HB2.out) HB3.out);have HB13:=lhd (zeG HB2.out HB3.out);have HRS:=lhd (zaM _ _ _ M (M.take 1) exD w3 (HG.out.below HB03.out) (HS1.out.below HB13.out) (HT1.out.below HB13.out) (HD.out.below HB3.out) HF1.out);rw[List.map_take,HM.out,zex]at HRS;clear hb3;go_wp2_with fail;refine HRS.out.mono ?_;rintro e w4 ⟨v4,M4,rfl,hM4,ho4,hb4⟩;have HB4:=lhd (zeG HB13.out hb4);have HB24:=lhd (zeG HB3.out hb4);have HS4:=lhd ho4.sigs;obtain⟨a4,c4,rfl,-,-⟩:=ho4.sigs.s.shape;have HSI:=lhd (zlu _ _ M4 M w4 ho4.sigs (HS1.out.below HB4.out));rw[hM4,HM.out,decide_eq_true (show exS=exS from rfl)]at HSI;clear hM4 ho4 hb4;go_wp2_with fail;refine HSI.out.mono ?_;rintro e w5 ⟨rfl,hb5⟩;have HB5:=lhd (zeG HB4.out hb5);have HB25:=lhd (zeG HB24.out hb5);have HVA:=lhd (zaO _ _ _ M (M.take 1) exD w5 (HS1.out.below HB5.out) (HT1.out.below HB5.out) (HD.out.below HB25.out));rw[List.map_take,HM.out,zez]at HVA;clear hb5;go_wp2_with fail;refine HVA.out.mono ?_;rintro e w6 ⟨rfl,hb6⟩;have HB6:=lhd (zeG HB5.out hb6);have HB26:=lhd (zeG HB25.out hb6);have d0:=(HB26.out.cell (p:=⟨b2,o2+6,none⟩) (zcn k6)).trans k6;have d1:=(HB26.out.cell (p:=⟨b2,o2+7,none⟩) (zcn k7)).trans k7;have d2:=(HB26.out.cell (p:=⟨b2,o2+8,none⟩) (zcn k8)).trans k8;have HRD:=lhd (zaL (0,1,true) 0 1 ⟨#[48,49]⟩ w6 (HG.out.below (zeG HB1.out HB6.out)) (by decide));rw[zew]at HRD;clear hb6 k6 k7 k8 k0;go_wp2_with fail;refine HRD.out.mono ?_;rintro e w7 ⟨rfl,hb7⟩;have HB7:=lhd (zeG (zeG HB1.out HB6.out) hb7);clear hb7 d0 d1 d2;go_wp2_with fail;go_ret;exact⟨rfl,HB7.out⟩
end Go.Proofs.YtbiadennhnokhaaGreatDoor
