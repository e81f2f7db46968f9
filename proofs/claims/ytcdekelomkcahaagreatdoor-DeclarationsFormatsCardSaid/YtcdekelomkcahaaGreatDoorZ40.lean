import Derived.Test.YtcdekelomkcahaaGreatDoorZ00
import Derived.Test.YtcdekelomkcahaaGreatDoorZ36
import Derived.Test.YtcdekelomkcahaaGreatDoorZ38
set_option maxRecDepth 100000
set_option maxHeartbeats 16000000
namespace Go.Proofs.YtcdekelomkcahaaGreatDoor
open Go.RowKit
set_option linter.unusedSimpArgs false
def zei (d:DD):Bs:=if zoN d=true then fmtD d else []
structure DOk (d:DD):Prop where
 l:d.S.length≤1000∧d.D.length≤1000
 t:d.dt.length≤100000∧d.vn.length≤100000∧d.cm.length≤100000
 n:(∀s∈d.S,s.1.length≤100000)∧∀x∈d.D,x.nm.length≤100000∧x.code.length≤140737488351232
theorem zdg (d:DD) (vS vD:Value) (w:World) (hG:Glob w) (hM:Glm w) (hS:SlR w vS d.S.length (scs d.S)) (hD:SlR w vD d.D.length (dcls d.D)) (ho:DOk d):
 Calls Tryz.prog 15 #[ddV d vS vD] w fun e w'=>e=.returned (.string (bsB (zei d)))∧Below w.heap.size w w':=by
 have HV:=lhd (fun W (hW:Below w.heap.size w W)=>zdK d vS vD W (hG.below hW) (hM.below hW) (hS.below hW) (hD.below hW) ho.l ho.t ho.n);by_cases hv:zoN d=true
 ·have hd:=zoP.1 hv;rw[show zei d=fmtD d from if_pos hv];refine zdf d vS vD w hG hS hD (fun x hx=>zpB (hd.dv x hx)) hd.sf ho.l.2 ho.l.1 (zej hd) fun W hW=>?_;have:=HV.out W hW;rwa [hv]at this
 ·have hv:zoN d=false:=by simpa using hv
  have HF:=lhd (show zei d=[]from if_neg (by rw[hv];simp));obtain⟨aS,cS,rfl,-,-⟩:=hS.shape;obtain⟨aD,cD,rfl,-,-⟩:=hD.shape;have hal:Below w.heap.size w (w.alloc (.cells #[.int .i64 d.sc,.string (bsB d.dt),.string (bsB d.vn),.string (bsB d.cm),.slice aS d.S.length cS,.slice aD d.D.length cD] 25)):=(Below.refl _ _).alloc (Nat.le_refl _) _;have HB1:=lhd hal;have hc:=HV.out _ hal;rw[hv]at hc;have HC:=lhd hc;have hx:=zaq.fresh w #[.int .i64 d.sc,.string (bsB d.dt),.string (bsB d.vn),.string (bsB d.cm),.slice aS d.S.length cS,.slice aD d.D.length cD] 25;have x0:=hx.cell (j:=0) rfl;have x1:=hx.cell (j:=1) rfl;have x2:=hx.cell (j:=2) rfl;have x3:=hx.cell (j:=3) rfl;have x4:=hx.cell (j:=4) rfl;have x5:=hx.cell (j:=5) rfl;clear hG hM hS hD ho HV hv hal hc hx;go_enter Tryz.func15,Tryz.ntmps15;go_wp2_with fail;refine HC.out.mono ?_;rintro e w1 ⟨rfl,hb1⟩;go_wp2_with fail;go_ret;exact⟨by rw[HF.out];rfl,zd5 HB1.out hb1⟩
def fewH (S:List Sc) (V:List Vr):Bool:=S.all (fun s=>decide (s.1.length≤60))&&V.all (fun v=>decide (v.nm.length≤60))&&(decide (S.length≤40)&&decide (V.length≤140))
theorem zqK (v v2:Value) (S:List Sc) (V:List Vr) (w:World) (hs:SlR w v S.length (scs S)) (hv:SlR w v2 V.length (vrs V)):
 Calls Tryz.prog 30 #[v,v2] w fun e w'=>e=.returned (.bool (fewH S V))∧w'=w:=by
 obtain⟨a,cap,rfl,hc,hm⟩:=hs.shape;obtain⟨a2,cap2,rfl,hc2,hm2⟩:=hv.shape;unfold maxLen at hm hm2;have HS:=lhd hs;have HV:=lhd hv;clear hs hv;go_enter Tryz.func30,Tryz.ntmps30;go_wp2_with fail;go_loopw [5] (fun i wr=>∃k:Nat,k≤S.length∧i=.int .i64 k∧(S.take k).all (fun s=>decide (s.1.length≤60))=true∧wr=w) (fun i _=>S.length-(intOf i).toNat)
 case atStart=>exact⟨0,Nat.zero_le _,rfl,rfl,rfl⟩
 case round=>
  obtain⟨k,hk,rfl,hal,rfl⟩:=hrel;have HA:=lhd hal;clear hal;by_cases hlt:k<S.length
  ·obtain⟨b,o,rfl,hcell⟩:=HS.out.scs hlt
   have HTK:=lhd (show(S.take (k+1)).all (fun s=>decide (s.1.length≤60))=((S.take k).all (fun s=>decide (s.1.length≤60))&&decide (S[k].1.length≤60))by
    rw[List.take_succ_eq_append_getElem hlt,List.all_append];simp)
   have HMM:=lhd (List.getElem_mem hlt);generalize S[k]=x at*;obtain⟨nm,ty,pa⟩:=x;have d0:wr.cell? ⟨b,o+k*3,none⟩=some (.string (bsB nm)):=hcell 0 _ rfl;have hsz:(bsB nm).size=nm.length:=rfl;clear hcell;dsimp only at HTK;by_cases hx:nm.length≤60
   ·have bx:¬(60:Int)<((bsB nm).size:Int):=by rw[hsz];omega
    have HA2:=lhd (show(S.take (k+1)).all (fun s=>decide (s.1.length≤60))=true by rw[HTK.out,HA.out,decide_eq_true hx];rfl);clear hx hsz;go_wp2_with fail;go_roundw;case rel=>exact⟨k+1,hlt,by go_num,HA2.out,by trivial⟩
    case measure=>simp[intOf];omega
   ·have bx:(60:Int)<((bsB nm).size:Int):=by rw[hsz];omega
    have HR:=lhd (show false=fewH S V by
     unfold fewH
     have:S.all (fun s=>decide (s.1.length≤60))=false:=by
      rw[List.all_eq_false];exact⟨_,HMM.out,by simpa using hx⟩
     rw[this];rfl)
    clear hx hsz;go_wp2_with fail;go_ret;exact⟨zle HR.out,rfl⟩
  ·obtain rfl:k=S.length:=by omega
   have hal:=HA.out;rw[List.take_length]at hal;have HA1:=lhd hal;clear hal hlt;go_wp2_with fail;go_loopw [6] (fun i wq=>∃k:Nat,k≤V.length∧i=.int .i64 k∧(V.take k).all (fun v=>decide (v.nm.length≤60))=true∧wq=wr) (fun i _=>V.length-(intOf i).toNat)
   case atStart=>exact⟨0,Nat.zero_le _,rfl,rfl,rfl⟩
   case round=>
    obtain⟨k,hk,rfl,hal,rfl⟩:=hrel;have HA:=lhd hal;clear hal;by_cases hlt:k<V.length
    ·obtain⟨b,o,rfl,hcell⟩:=HV.out.vrs hlt
     have HTK:=lhd (show(V.take (k+1)).all (fun v=>decide (v.nm.length≤60))=((V.take k).all (fun v=>decide (v.nm.length≤60))&&decide (V[k].nm.length≤60))by
      rw[List.take_succ_eq_append_getElem hlt,List.all_append];simp)
     have HMM:=lhd (List.getElem_mem hlt);generalize V[k]=x at*;obtain⟨nm,ty,sc,sg,rg,mb,lb⟩:=x;have d0:wr.cell? ⟨b,o+k*7,none⟩=some (.string (bsB nm)):=hcell 0 _ rfl;have hsz:(bsB nm).size=nm.length:=rfl;clear hcell;dsimp only at HTK;by_cases hx:nm.length≤60
     ·have bx:¬(60:Int)<((bsB nm).size:Int):=by rw[hsz];omega
      have HA2:=lhd (show(V.take (k+1)).all (fun v=>decide (v.nm.length≤60))=true by rw[HTK.out,HA.out,decide_eq_true hx];rfl);clear hx hsz;go_wp2_with fail;go_roundw;case rel=>exact⟨k+1,hlt,by go_num,HA2.out,by trivial⟩
      case measure=>simp[intOf];omega
     ·have bx:(60:Int)<((bsB nm).size:Int):=by rw[hsz];omega
      have HR:=lhd (show false=fewH S V by
       unfold fewH
       have:V.all (fun v=>decide (v.nm.length≤60))=false:=by
        rw[List.all_eq_false];exact⟨_,HMM.out,by simpa using hx⟩
       rw[this,Bool.and_false];rfl)
      clear hx hsz;go_wp2_with fail;go_ret;exact⟨zle HR.out,rfl⟩
    ·obtain rfl:k=V.length:=by omega
     have hal:=HA.out;rw[List.take_length]at hal;have HR:=lhd (show(decide (S.length≤40)&&decide (V.length≤140))=fewH S V by unfold fewH;rw[HA1.out,hal];rfl);clear hal hlt;by_cases h1:S.length≤40
     ·have b1:(S.length:Int)≤40:=by omega
      by_cases h2:V.length≤140
      ·have b2:(V.length:Int)≤140:=by omega
       have HR2:=lhd (show true=fewH S V by rw[←HR.out,decide_eq_true h1,decide_eq_true h2];rfl);clear h1 h2;go_wp2_with fail;go_ret;exact⟨zle HR2.out,rfl⟩
      ·have b2:¬(V.length:Int)≤140:=by omega
       have HR2:=lhd (show false=fewH S V by rw[←HR.out,decide_eq_false h2,Bool.and_false]);clear h1 h2;go_wp2_with fail;go_ret;exact⟨zle HR2.out,rfl⟩
     ·have b1:¬(S.length:Int)≤40:=by omega
      have HR2:=lhd (show false=fewH S V by rw[←HR.out,decide_eq_false h1];rfl);clear h1;go_wp2_with fail;go_ret;exact⟨zle HR2.out,rfl⟩
structure FewD (d:DD):Prop where
 D:d.D.length≤140∧∀x∈d.D,x.nm.length+x.code.length≤100
 S:d.S.length≤40∧∀s∈d.S,s.1.length≤60
 t:d.dt.length+d.vn.length+d.cm.length≤700
structure TxD (d:DD):Prop where
 D:∀x∈d.D,x.nm.length≤140737488351232∧x.code.length≤140737488351232
 t:d.dt.length≤140737488351232∧d.vn.length≤140737488351232∧d.cm.length≤140737488351232
theorem FewD.ok {d:DD} (h:FewD d):DOk d:=
 ⟨⟨by have:=h.S.1;omega,by have:=h.D.1;omega⟩,by have:=h.t;omega,⟨fun s hs=>by have:=h.S.2 s hs;omega,fun x hx=>by have:=h.D.2 x hx;omega⟩⟩
def zip (d:DD) (w:World) (e:Ending) (w':World):Prop:=∃b:Bool,e=.returned (.bool b)∧Below w.heap.size w w'∧(b=true→FewD d)
theorem zqL (d:DD) (vS vD:Value) (w:World) (hS:SlR w vS d.S.length (scs d.S)) (hD:SlR w vD d.D.length (dcls d.D)) (ht:TxD d):
 Calls Tryz.prog 10 #[ddV d vS vD] w (zip d w):=by
 obtain⟨aS,kS,rfl,-,-⟩:=hS.shape;obtain⟨a,cap,rfl,hcap,hmax⟩:=hD.shape;unfold maxLen at hmax;have HSS:=lhd hS;have HS:=lhd hD;have HT:=lhd ht.D;have HT2:=lhd ht.t;have HP:=lhd (show zip d w=fun e w'=>∃b:Bool,e=.returned (.bool b)∧Below w.heap.size w w'∧(b=true→FewD d)from rfl);obtain⟨sc,dt,vn,cm,S,L⟩:=d;dsimp only at HSS HS HT HT2 hcap⊢;clear hS hD ht;have hal:Below w.heap.size w (w.alloc (.cells #[.int .i64 sc,.string (bsB dt),.string (bsB vn),.string (bsB cm),.slice aS S.length kS,.slice a L.length cap] 25)):=(Below.refl _ _).alloc (Nat.le_refl _) _;have hx:=zaq.fresh w #[.int .i64 sc,.string (bsB dt),.string (bsB vn),.string (bsB cm),.slice aS S.length kS,.slice a L.length cap] 25;go_enter Tryz.func10,Tryz.ntmps10;go_wp2_with fail;generalize hw1:w.alloc (.cells #[.int .i64 sc,.string (bsB dt),.string (bsB vn),.string (bsB cm),.slice aS S.length kS,.slice a L.length cap] 25)=w1 at*;have HB:=lhd hal;have HX:=lhd hx;clear hx hal hw1;go_loopw [3] (fun i wr=>∃(j n:Nat),j≤L.length∧i=.int .i64 j∧wr=w1.drewN n∧∀d∈L.take j,d.nm.length+d.code.length≤100) (fun i _=>L.length-(intOf i).toNat)
 case atStart=>exact⟨0,0,Nat.zero_le _,rfl,rfl,by simp⟩
 case round=>
  obtain⟨j,n,hj,rfl,rfl,hn⟩:=hrel;have HN:=lhd hn;have hx:zaq (w1.drewN n) w.heap.size [.int .i64 sc,.string (bsB dt),.string (bsB vn),.string (bsB cm),.slice aS S.length kS,.slice a L.length cap]:=HX.out;have x5:=hx.cell (j:=5) rfl;have x4:=hx.cell (j:=4) rfl;clear hn;by_cases hlt:j<L.length
  ·obtain⟨b,o,rfl,hcl⟩:=(HS.out.below (HB.out.trans (Below.refl _ w1)):SlR w1 (.slice a L.length cap) L.length (dcls L)).dcls hlt;have htk:L.take (j+1)=L.take j++ [L[j]]:=List.take_succ_eq_append_getElem hlt;obtain⟨ht1,ht2⟩:=HT.out _ (List.getElem_mem hlt);have HMEM:=lhd (List.getElem_mem hlt);generalize hd:L[j]=d at hcl htk ht1 ht2 HMEM;have g0:(w1.drewN n).cell? ⟨b,o+j*10,none⟩=some (.string (bsB d.nm)):=hcl 0 _ rfl;have g7:(w1.drewN n).cell? ⟨b,o+j*10+7,none⟩=some (.string (bsB d.code)):=hcl 7 _ rfl;have HTK:=lhd htk;have q1:(0:Int)≤(j:Int):=by omega
   have q2:(j:Int)<(L.length:Int):=by omega
   have hw:IntKind.i64.wrap ((j:Int)+1)=(j:Int)+1:=IntWalk.i64_in _ (by omega);have z1:=zbk d.nm;have z2:=zbk d.code;clear hcl htk hd;have hws:IntKind.i64.wrap ((d.nm.length:Int)+(d.code.length:Int))=(d.nm.length:Int)+(d.code.length:Int):=IntWalk.i64_in _ (by omega);by_cases hgt:(100:Int)<(d.nm.length:Int)+(d.code.length:Int)
   ·have hd1:decide ((100:Int)<(d.nm.length:Int)+(d.code.length:Int))=true:=decide_eq_true hgt;go_wp2_with fail
    go_region_held3 (fun w'=>w'.cell? ⟨w.heap.size,5,none⟩=some (.slice (some ⟨b,o,none⟩) L.length cap)∧w'.cell? ⟨b,o+j*10,none⟩=some (.string (bsB d.nm))∧w'.cell? ⟨b,o+j*10+7,none⟩=some (.string (bsB d.code)))
     (first|exact⟨x5,g0,g7⟩|go_keep)
     (first|fail "no arm")
    go_wp2_with fail;go_ret;exact⟨false,rfl,⟨HB.out.os,HB.out.tape,HB.out.output,HB.out.size,HB.out.block⟩,fun h=>by cases h⟩
   ·have hd1:decide ((100:Int)<(d.nm.length:Int)+(d.code.length:Int))=false:=decide_eq_false hgt;go_wp2_with fail
    go_region_held3 (fun w'=>w'.cell? ⟨w.heap.size,5,none⟩=some (.slice (some ⟨b,o,none⟩) L.length cap)∧w'.cell? ⟨b,o+j*10,none⟩=some (.string (bsB d.nm))∧w'.cell? ⟨b,o+j*10+7,none⟩=some (.string (bsB d.code)))
     (first|exact⟨x5,g0,g7⟩|go_keep)
     (first|fail "no arm")
    go_wp2_with fail;go_roundw
    case rel=>
     refine⟨j+1,n+1,hlt,by go_num,rfl,fun x hx=>?_⟩;rw[HTK.out]at hx;rcases List.mem_append.1 hx with hx|hx
     ·exact HN.out x hx
     ·obtain rfl:=List.mem_singleton.1 hx;omega
    case measure=>simp[intOf];omega
  ·obtain rfl:j=L.length:=by omega
   have x1:=hx.cell (j:=1) rfl;have x2:=hx.cell (j:=2) rfl;have x3:=hx.cell (j:=3) rfl;have HBN:=lhd (show Below w.heap.size w (w1.drewN n)from⟨HB.out.os,HB.out.tape,HB.out.output,HB.out.size,HB.out.block⟩);have HC:=lhd (zqK _ _ S [] (w1.drewN n) (HSS.out.below HBN.out) (SlR.nil _));have HNN:=lhd (show ∀d∈L,d.nm.length+d.code.length≤100 from fun d hd=>HN.out d (by rw[List.take_length];exact hd));clear hlt;cases hf:fewH S []
   ·rw[hf]at HC;clear hf;go_wp2_with fail;refine HC.out.mono ?_;rintro e w2 ⟨rfl,he⟩;have he:=he.symm;subst he;go_wp2_with fail;go_ret;exact⟨false,rfl,HBN.out,fun h=>by cases h⟩
   rw[hf]at HC
   have HFS:=lhd (show S.length≤40∧∀s∈S,s.1.length≤60 by
    unfold fewH at hf;rw[Bool.and_eq_true,Bool.and_eq_true,Bool.and_eq_true,List.all_eq_true]at hf;exact⟨of_decide_eq_true hf.2.1,fun s hs=>of_decide_eq_true (hf.1.1 s hs)⟩)
   clear hf;by_cases h140:L.length≤140
   rotate_left
   ·have hd1:decide ((L.length:Int)≤140)=false:=by rw[decide_eq_false_iff_not];omega
    clear h140;go_wp2_with fail;refine HC.out.mono ?_;rintro e w2 ⟨rfl,he⟩;have he:=he.symm;subst he;go_wp2_with fail;go_ret;exact⟨false,rfl,HBN.out,fun h=>by cases h⟩
   have hd1:decide ((L.length:Int)≤140)=true:=by rw[decide_eq_true_iff];omega
   have z1:=zbk dt;have z2:=zbk vn;have z3:=zbk cm;obtain⟨t1,t2,t3⟩:=HT2.out;have hw1:IntKind.i64.wrap ((dt.length:Int)+(vn.length:Int))=(dt.length:Int)+(vn.length:Int):=IntWalk.i64_in _ (by omega);have hw2:IntKind.i64.wrap ((dt.length:Int)+(vn.length:Int)+(cm.length:Int))=(dt.length:Int)+(vn.length:Int)+(cm.length:Int):=IntWalk.i64_in _ (by omega);have HL140:=lhd h140;clear t1 t2 t3 h140;by_cases h700:dt.length+vn.length+cm.length≤700
   ·have hd2:decide ((dt.length:Int)+(vn.length:Int)+(cm.length:Int)≤700)=true:=by rw[decide_eq_true_iff];omega
    have HL7:=lhd h700;clear h700;go_wp2_with fail;refine HC.out.mono ?_;rintro e w2 ⟨rfl,he⟩;have he:=he.symm;subst he;go_wp2_with fail;go_ret;exact⟨true,rfl,HBN.out,fun _=>⟨⟨HL140.out,HNN.out⟩,HFS.out,HL7.out⟩⟩
   ·have hd2:decide ((dt.length:Int)+(vn.length:Int)+(cm.length:Int)≤700)=false:=by rw[decide_eq_false_iff_not];omega
    clear h700;go_wp2_with fail;refine HC.out.mono ?_;rintro e w2 ⟨rfl,he⟩;have he:=he.symm;subst he;go_wp2_with fail;go_ret;exact⟨false,rfl,HBN.out,fun h=>by cases h⟩
end Go.Proofs.YtcdekelomkcahaaGreatDoor
