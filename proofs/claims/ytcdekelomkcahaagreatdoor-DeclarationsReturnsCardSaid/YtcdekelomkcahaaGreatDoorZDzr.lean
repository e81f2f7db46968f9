import Derived.Test.YtcdekelomkcahaaGreatDoorZ00
import Derived.Test.YtcdekelomkcahaaGreatDoorZ03
import Derived.Test.YtcdekelomkcahaaGreatDoorZ17
import Derived.Test.YtcdekelomkcahaaGreatDoorZ20
import Derived.Test.YtcdekelomkcahaaGreatDoorZ23
import Derived.Test.YtcdekelomkcahaaGreatDoorZ31
import Derived.Test.YtcdekelomkcahaaGreatDoorZ34
import Derived.Test.YtcdekelomkcahaaGreatDoorZ49
set_option maxRecDepth 100000
set_option maxHeartbeats 16000000
namespace Go.Proofs.YtcdekelomkcahaaGreatDoor
open Go.RowKit
set_option linter.unusedSimpArgs false
def fewH (S:List Sc) (V:List Vr):Bool:=S.all (fun s=>decide (s.1.length≤60))&&V.all (fun v=>decide (v.nm.length≤60))&&(decide (S.length≤40)&&decide (V.length≤140))
theorem zqK (v v2:Value) (S:List Sc) (V:List Vr) (w:World) (hs:SlR w v S.length (scs S)) (hv:SlR w v2 V.length (vrs V)):
 Calls Tryz.prog 30 #[v,v2] w fun e w'=>e=.returned (.bool (fewH S V))∧w'=w:=by
 obtain⟨a,cap,rfl,hc,hm⟩:=hs.shape;obtain⟨a2,cap2,rfl,hc2,hm2⟩:=hv.shape;unfold maxLen at hm hm2;have HS:=lhd hs;have HV:=lhd hv;clear hs hv;go_enter Tryz.func30,Tryz.ntmps30;go_wp2_with fail;go_loopw [5] (fun i wr=>∃k:Nat,k≤S.length∧i=.int .i64 k∧(S.take k).all (fun s=>decide (s.1.length≤60))=true∧wr=w) (fun i _=>S.length-(intOf i).toNat)
 case atStart=>exact⟨0,Nat.zero_le _,rfl,rfl,rfl⟩
 case round=>
  obtain⟨k,hk,rfl,hal,rfl⟩:=hrel;have HA:=lhd hal;clear hal;by_cases hlt:k<S.length
  ·obtain⟨b,o,rfl,hcell⟩:=HS.out.scs hlt
   have HTK:=lhd (show(S.take (k+1)).all (fun s=>decide (s.1.length≤60))=((S.take k).all (fun s=>decide (s.1.length≤60))&&decide (S[k].1.length≤60))by
    rw[List.take_succ_eq_append_getElem hlt,List.all_append];simp)
   have HMM:=lhd (List.getElem_mem hlt);generalize S[k]=x at*;obtain⟨nm,ty,pa⟩:=x;have d0:wr.cell? ⟨b,o+k*3,none⟩=some (.string (bsB nm)):=hcell 0 _ rfl;have hsz:(bsB nm).size=nm.length:=rfl;clear hcell;dsimp only at HTK;by_cases hx:nm.length≤60
   ·have bx:¬(60:Int)<((bsB nm).size:Int):=by rw[hsz];omega
    have HA2:=lhd (show(S.take (k+1)).all (fun s=>decide (s.1.length≤60))=true by rw[HTK.out,HA.out,decide_eq_true hx];rfl);clear hx hsz;go_wp2_with fail;go_roundw;case rel=>exact⟨k+1,hlt,by go_num,HA2.out,by trivial⟩
    case measure=>simp[intOf];omega
   ·have bx:(60:Int)<((bsB nm).size:Int):=by rw[hsz];omega
    have HR:=lhd (show false=fewH S V by
     unfold fewH
     have:S.all (fun s=>decide (s.1.length≤60))=false:=by
      rw[List.all_eq_false];exact⟨_,HMM.out,by simpa using hx⟩
     rw[this];rfl)
    clear hx hsz;go_wp2_with fail;go_ret;exact⟨zle HR.out,rfl⟩
  ·obtain rfl:k=S.length:=by omega
   have hal:=HA.out;rw[List.take_length]at hal;have HA1:=lhd hal;clear hal hlt;go_wp2_with fail;go_loopw [6] (fun i wq=>∃k:Nat,k≤V.length∧i=.int .i64 k∧(V.take k).all (fun v=>decide (v.nm.length≤60))=true∧wq=wr) (fun i _=>V.length-(intOf i).toNat)
   case atStart=>exact⟨0,Nat.zero_le _,rfl,rfl,rfl⟩
   case round=>
    obtain⟨k,hk,rfl,hal,rfl⟩:=hrel;have HA:=lhd hal;clear hal;by_cases hlt:k<V.length
    ·obtain⟨b,o,rfl,hcell⟩:=HV.out.vrs hlt
     have HTK:=lhd (show(V.take (k+1)).all (fun v=>decide (v.nm.length≤60))=((V.take k).all (fun v=>decide (v.nm.length≤60))&&decide (V[k].nm.length≤60))by
      rw[List.take_succ_eq_append_getElem hlt,List.all_append];simp)
     have HMM:=lhd (List.getElem_mem hlt);generalize V[k]=x at*;obtain⟨nm,ty,sc,sg,rg,mb,lb⟩:=x;have d0:wr.cell? ⟨b,o+k*7,none⟩=some (.string (bsB nm)):=hcell 0 _ rfl;have hsz:(bsB nm).size=nm.length:=rfl;clear hcell;dsimp only at HTK;by_cases hx:nm.length≤60
     ·have bx:¬(60:Int)<((bsB nm).size:Int):=by rw[hsz];omega
      have HA2:=lhd (show(V.take (k+1)).all (fun v=>decide (v.nm.length≤60))=true by rw[HTK.out,HA.out,decide_eq_true hx];rfl);clear hx hsz;go_wp2_with fail;go_roundw;case rel=>exact⟨k+1,hlt,by go_num,HA2.out,by trivial⟩
      case measure=>simp[intOf];omega
     ·have bx:(60:Int)<((bsB nm).size:Int):=by rw[hsz];omega
      have HR:=lhd (show false=fewH S V by
       unfold fewH
       have:V.all (fun v=>decide (v.nm.length≤60))=false:=by
        rw[List.all_eq_false];exact⟨_,HMM.out,by simpa using hx⟩
       rw[this,Bool.and_false];rfl)
      clear hx hsz;go_wp2_with fail;go_ret;exact⟨zle HR.out,rfl⟩
    ·obtain rfl:k=V.length:=by omega
     have hal:=HA.out;rw[List.take_length]at hal;have HR:=lhd (show(decide (S.length≤40)&&decide (V.length≤140))=fewH S V by unfold fewH;rw[HA1.out,hal];rfl);clear hal hlt;by_cases h1:S.length≤40
     ·have b1:(S.length:Int)≤40:=by omega
      by_cases h2:V.length≤140
      ·have b2:(V.length:Int)≤140:=by omega
       have HR2:=lhd (show true=fewH S V by rw[←HR.out,decide_eq_true h1,decide_eq_true h2];rfl);clear h1 h2;go_wp2_with fail;go_ret;exact⟨zle HR2.out,rfl⟩
      ·have b2:¬(V.length:Int)≤140:=by omega
       have HR2:=lhd (show false=fewH S V by rw[←HR.out,decide_eq_false h2,Bool.and_false]);clear h1 h2;go_wp2_with fail;go_ret;exact⟨zle HR2.out,rfl⟩
     ·have b1:¬(S.length:Int)≤40:=by omega
      have HR2:=lhd (show false=fewH S V by rw[←HR.out,decide_eq_false h1];rfl);clear h1;go_wp2_with fail;go_ret;exact⟨zle HR2.out,rfl⟩
structure FewD (d:DD):Prop where
 D:d.D.length≤140∧∀x∈d.D,x.nm.length+x.code.length≤100
 S:d.S.length≤40∧∀s∈d.S,s.1.length≤60
 t:d.dt.length+d.vn.length+d.cm.length≤700
structure TxD (d:DD):Prop where
 D:∀x∈d.D,x.nm.length≤140737488351232∧x.code.length≤140737488351232
 t:d.dt.length≤140737488351232∧d.vn.length≤140737488351232∧d.cm.length≤140737488351232
theorem FewD.ok {d:DD} (h:FewD d):DOk d:=
 ⟨⟨by have:=h.S.1;omega,by have:=h.D.1;omega⟩,by have:=h.t;omega,⟨fun s hs=>by have:=h.S.2 s hs;omega,fun x hx=>by have:=h.D.2 x hx;omega⟩⟩
def zip (d:DD) (w:World) (e:Ending) (w':World):Prop:=∃b:Bool,e=.returned (.bool b)∧Below w.heap.size w w'∧(b=true→FewD d)
theorem zqL (d:DD) (vS vD:Value) (w:World) (hS:SlR w vS d.S.length (scs d.S)) (hD:SlR w vD d.D.length (dcls d.D)) (ht:TxD d):
 Calls Tryz.prog 10 #[ddV d vS vD] w (zip d w):=by
 obtain⟨aS,kS,rfl,-,-⟩:=hS.shape;obtain⟨a,cap,rfl,hcap,hmax⟩:=hD.shape;unfold maxLen at hmax;have HSS:=lhd hS;have HS:=lhd hD;have HT:=lhd ht.D;have HT2:=lhd ht.t;have HP:=lhd (show zip d w=fun e w'=>∃b:Bool,e=.returned (.bool b)∧Below w.heap.size w w'∧(b=true→FewD d)from rfl);obtain⟨sc,dt,vn,cm,S,L⟩:=d;dsimp only at HSS HS HT HT2 hcap⊢;clear hS hD ht;have hal:Below w.heap.size w (w.alloc (.cells #[.int .i64 sc,.string (bsB dt),.string (bsB vn),.string (bsB cm),.slice aS S.length kS,.slice a L.length cap] 25)):=(Below.refl _ _).alloc (Nat.le_refl _) _;have hx:=zaq.fresh w #[.int .i64 sc,.string (bsB dt),.string (bsB vn),.string (bsB cm),.slice aS S.length kS,.slice a L.length cap] 25;go_enter Tryz.func10,Tryz.ntmps10;go_wp2_with fail;generalize hw1:w.alloc (.cells #[.int .i64 sc,.string (bsB dt),.string (bsB vn),.string (bsB cm),.slice aS S.length kS,.slice a L.length cap] 25)=w1 at*;have HB:=lhd hal;have HX:=lhd hx;clear hx hal hw1;go_loopw [3] (fun i wr=>∃(j n:Nat),j≤L.length∧i=.int .i64 j∧wr=w1.drewN n∧∀d∈L.take j,d.nm.length+d.code.length≤100) (fun i _=>L.length-(intOf i).toNat)
 case atStart=>exact⟨0,0,Nat.zero_le _,rfl,rfl,by simp⟩
 case round=>
  obtain⟨j,n,hj,rfl,rfl,hn⟩:=hrel;have HN:=lhd hn;have hx:zaq (w1.drewN n) w.heap.size [.int .i64 sc,.string (bsB dt),.string (bsB vn),.string (bsB cm),.slice aS S.length kS,.slice a L.length cap]:=HX.out;have x5:=hx.cell (j:=5) rfl;have x4:=hx.cell (j:=4) rfl;clear hn;by_cases hlt:j<L.length
  ·obtain⟨b,o,rfl,hcl⟩:=(HS.out.below (HB.out.trans (Below.refl _ w1)):SlR w1 (.slice a L.length cap) L.length (dcls L)).dcls hlt;have htk:L.take (j+1)=L.take j++ [L[j]]:=List.take_succ_eq_append_getElem hlt;obtain⟨ht1,ht2⟩:=HT.out _ (List.getElem_mem hlt);have HMEM:=lhd (List.getElem_mem hlt);generalize hd:L[j]=d at hcl htk ht1 ht2 HMEM;have g0:(w1.drewN n).cell? ⟨b,o+j*10,none⟩=some (.string (bsB d.nm)):=hcl 0 _ rfl;have g7:(w1.drewN n).cell? ⟨b,o+j*10+7,none⟩=some (.string (bsB d.code)):=hcl 7 _ rfl;have HTK:=lhd htk;have q1:(0:Int)≤(j:Int):=by omega
   have q2:(j:Int)<(L.length:Int):=by omega
   have hw:IntKind.i64.wrap ((j:Int)+1)=(j:Int)+1:=IntWalk.i64_in _ (by omega);have z1:=zbk d.nm;have z2:=zbk d.code;clear hcl htk hd;have hws:IntKind.i64.wrap ((d.nm.length:Int)+(d.code.length:Int))=(d.nm.length:Int)+(d.code.length:Int):=IntWalk.i64_in _ (by omega);by_cases hgt:(100:Int)<(d.nm.length:Int)+(d.code.length:Int)
   ·have hd1:decide ((100:Int)<(d.nm.length:Int)+(d.code.length:Int))=true:=decide_eq_true hgt;go_wp2_with fail
    go_region_held3 (fun w'=>w'.cell? ⟨w.heap.size,5,none⟩=some (.slice (some ⟨b,o,none⟩) L.length cap)∧w'.cell? ⟨b,o+j*10,none⟩=some (.string (bsB d.nm))∧w'.cell? ⟨b,o+j*10+7,none⟩=some (.string (bsB d.code)))
     (first|exact⟨x5,g0,g7⟩|go_keep)
     (first|fail "no arm")
    go_wp2_with fail;go_ret;exact⟨false,rfl,⟨HB.out.os,HB.out.tape,HB.out.output,HB.out.size,HB.out.block⟩,fun h=>by cases h⟩
   ·have hd1:decide ((100:Int)<(d.nm.length:Int)+(d.code.length:Int))=false:=decide_eq_false hgt;go_wp2_with fail
    go_region_held3 (fun w'=>w'.cell? ⟨w.heap.size,5,none⟩=some (.slice (some ⟨b,o,none⟩) L.length cap)∧w'.cell? ⟨b,o+j*10,none⟩=some (.string (bsB d.nm))∧w'.cell? ⟨b,o+j*10+7,none⟩=some (.string (bsB d.code)))
     (first|exact⟨x5,g0,g7⟩|go_keep)
     (first|fail "no arm")
    go_wp2_with fail;go_roundw
    case rel=>
     refine⟨j+1,n+1,hlt,by go_num,rfl,fun x hx=>?_⟩;rw[HTK.out]at hx;rcases List.mem_append.1 hx with hx|hx
     ·exact HN.out x hx
     ·obtain rfl:=List.mem_singleton.1 hx;omega
    case measure=>simp[intOf];omega
  ·obtain rfl:j=L.length:=by omega
   have x1:=hx.cell (j:=1) rfl;have x2:=hx.cell (j:=2) rfl;have x3:=hx.cell (j:=3) rfl;have HBN:=lhd (show Below w.heap.size w (w1.drewN n)from⟨HB.out.os,HB.out.tape,HB.out.output,HB.out.size,HB.out.block⟩);have HC:=lhd (zqK _ _ S [] (w1.drewN n) (HSS.out.below HBN.out) (SlR.nil _));have HNN:=lhd (show ∀d∈L,d.nm.length+d.code.length≤100 from fun d hd=>HN.out d (by rw[List.take_length];exact hd));clear hlt;cases hf:fewH S []
   ·rw[hf]at HC;clear hf;go_wp2_with fail;refine HC.out.mono ?_;rintro e w2 ⟨rfl,he⟩;have he:=he.symm;subst he;go_wp2_with fail;go_ret;exact⟨false,rfl,HBN.out,fun h=>by cases h⟩
   rw[hf]at HC
   have HFS:=lhd (show S.length≤40∧∀s∈S,s.1.length≤60 by
    unfold fewH at hf;rw[Bool.and_eq_true,Bool.and_eq_true,Bool.and_eq_true,List.all_eq_true]at hf;exact⟨of_decide_eq_true hf.2.1,fun s hs=>of_decide_eq_true (hf.1.1 s hs)⟩)
   clear hf;by_cases h140:L.length≤140
   rotate_left
   ·have hd1:decide ((L.length:Int)≤140)=false:=by rw[decide_eq_false_iff_not];omega
    clear h140;go_wp2_with fail;refine HC.out.mono ?_;rintro e w2 ⟨rfl,he⟩;have he:=he.symm;subst he;go_wp2_with fail;go_ret;exact⟨false,rfl,HBN.out,fun h=>by cases h⟩
   have hd1:decide ((L.length:Int)≤140)=true:=by rw[decide_eq_true_iff];omega
   have z1:=zbk dt;have z2:=zbk vn;have z3:=zbk cm;obtain⟨t1,t2,t3⟩:=HT2.out;have hw1:IntKind.i64.wrap ((dt.length:Int)+(vn.length:Int))=(dt.length:Int)+(vn.length:Int):=IntWalk.i64_in _ (by omega);have hw2:IntKind.i64.wrap ((dt.length:Int)+(vn.length:Int)+(cm.length:Int))=(dt.length:Int)+(vn.length:Int)+(cm.length:Int):=IntWalk.i64_in _ (by omega);have HL140:=lhd h140;clear t1 t2 t3 h140;by_cases h700:dt.length+vn.length+cm.length≤700
   ·have hd2:decide ((dt.length:Int)+(vn.length:Int)+(cm.length:Int)≤700)=true:=by rw[decide_eq_true_iff];omega
    have HL7:=lhd h700;clear h700;go_wp2_with fail;refine HC.out.mono ?_;rintro e w2 ⟨rfl,he⟩;have he:=he.symm;subst he;go_wp2_with fail;go_ret;exact⟨true,rfl,HBN.out,fun _=>⟨⟨HL140.out,HNN.out⟩,HFS.out,HL7.out⟩⟩
   ·have hd2:decide ((dt.length:Int)+(vn.length:Int)+(cm.length:Int)≤700)=false:=by rw[decide_eq_false_iff_not];omega
    clear h700;go_wp2_with fail;refine HC.out.mono ?_;rintro e w2 ⟨rfl,he⟩;have he:=he.symm;subst he;go_wp2_with fail;go_ret;exact⟨false,rfl,HBN.out,fun h=>by cases h⟩
open Go.Joins Go.ChangeShapes Go.WideShapes Go.RowKit Go.Deep
theorem zqM {cs:List Value} (h:cs.length=3):∃a b c,cs=[a,b,c]:=by
 match cs,h with
 | [a,b,c],_=>exact⟨a,b,c,rfl⟩
theorem sixD {cs:List Value} (h:cs.length=6):∃a b c d e f,cs=[a,b,c,d,e,f]:=by
 match cs,h with
 | [a,b,c,d,e,f],_=>exact⟨a,b,c,d,e,f,rfl⟩
section
variable {H : Type} {enc : TypeId × Value → H} {w : World} {base : Nat} {spare : Nat → Bool} {held : Bool} {fuel : Nat} {cs : List Value} {x : DataW H × List MemPlace}
theorem zqJ (h:DataW.trod enc Tryz.prog w base spare held fuel 22 cs=some x) (hz:∀m∈x.1.weights Tryz.prog 22,m≤reachBytes):
 ∃(v:Value) (l:List Sc),cs=[v]∧SlR w v l.length (scs l)∧∀r∈l,r.1.length≤140737488351232:=
 ziR (encT:=scC) (k:=3) (fun _=>rfl) (by decide) (Q:=fun r:Sc=>r.1.length≤140737488351232) Tryz.underlying22 (by kernel_rfl) (fun n cs' y hl ht hy=>by
  obtain⟨a,b,c,rfl⟩:=zqM hl;obtain⟨n0,z0,h0,w0⟩:=fld Tryz.underlying84 ht hy 0 rfl (show Tryz.prog.cellsOf 9=1 by kernel_rfl) rfl;obtain⟨n1,z1,h1,-⟩:=fld Tryz.underlying84 ht hy 1 rfl (show Tryz.prog.cellsOf 3=1 by kernel_rfl) rfl;obtain⟨n2,z2,h2,-⟩:=fld Tryz.underlying84 ht hy 2 rfl (show Tryz.prog.cellsOf 3=1 by kernel_rfl) rfl;obtain⟨x0,rfl,q0⟩:=zgE h0 w0;obtain⟨x1,rfl⟩:=zgD h1;obtain⟨x2,rfl⟩:=zgD h2;exact⟨(x0,x1,x2),rfl,q0⟩) h hz
theorem zqI (h:DataW.trod enc Tryz.prog w base spare held fuel 25 cs=some x) (hz:∀m∈x.1.weights Tryz.prog 25,m≤reachBytes) (hl:cs.length=6):
 ∃(d:DD) (vS vD:Value),cs=[.int .i64 d.sc,.string (bsB d.dt),.string (bsB d.vn),.string (bsB d.cm),vS,vD]∧SlR w vS d.S.length (scs d.S)∧SlR w vD d.D.length (dcls d.D)∧TxD d:=by
 obtain⟨a,b,c,d,e,f,rfl⟩:=sixD hl;obtain⟨n0,z0,h0,-⟩:=fld Tryz.underlying25 h hz 0 rfl (show Tryz.prog.cellsOf 3=1 by kernel_rfl) rfl;obtain⟨n1,z1,h1,w1⟩:=fld Tryz.underlying25 h hz 1 rfl (show Tryz.prog.cellsOf 9=1 by kernel_rfl) rfl;obtain⟨n2,z2,h2,w2⟩:=fld Tryz.underlying25 h hz 2 rfl (show Tryz.prog.cellsOf 9=1 by kernel_rfl) rfl;obtain⟨n3,z3,h3,w3⟩:=fld Tryz.underlying25 h hz 3 rfl (show Tryz.prog.cellsOf 9=1 by kernel_rfl) rfl;obtain⟨n4,z4,h4,w4⟩:=fld Tryz.underlying25 h hz 4 rfl (show Tryz.prog.cellsOf 22=1 by kernel_rfl) rfl;obtain⟨n5,z5,h5,w5⟩:=fld Tryz.underlying25 h hz 5 rfl (show Tryz.prog.cellsOf 23=1 by kernel_rfl) rfl;obtain⟨x0,rfl⟩:=zgD h0;obtain⟨x1,rfl,q1⟩:=zgE h1 w1;obtain⟨x2,rfl,q2⟩:=zgE h2 w2;obtain⟨x3,rfl,q3⟩:=zgE h3 w3;obtain⟨v4,l4,e4,s4,-⟩:=zqJ h4 w4;injection e4 with e4 _;obtain⟨v5,l5,e5,s5,q5⟩:=ziO h5 w5;injection e5 with e5 _;subst e4 e5;exact⟨⟨x0,x1,x2,x3,l4,l5⟩,_,_,rfl,s4,s5,q5,q1,q2,q3⟩
theorem zqH {base':Nat} {v:Value} {d:DataW H} {ps:List MemPlace} (hk:Value.okWide Tryz.prog w .any base' 25 v) (h:DataW.Trod enc Tryz.prog w base spare held 25 v d ps) (hz:∀m∈d.weights Tryz.prog 25,m≤reachBytes):
 ∃(t:DD) (vS vD:Value),v=ddV t vS vD∧SlR w vS t.S.length (scs t.S)∧SlR w vD t.D.length (dcls t.D)∧TxD t:=by
 obtain⟨cs,rfl,hsz⟩:=okWide_struct Tryz.underlying25 hk;obtain⟨fuel,hf⟩:=h;have hcl:(Value.agg cs).cells=cs:=by simp[Value.cells]
 rw[hcl]at hf
 have hn:cs.toList.length=6:=by
  rw[Array.length_toList,hsz];kernel_rfl
 obtain⟨t,vS,vD,e,h1,h2,h3⟩:=zqI hf hz hn;refine⟨t,vS,vD,?_,h1,h2,h3⟩;exact congrArg Value.agg (Array.toList_inj.1 e)
end
open Go.RowKit
set_option linter.unusedSimpArgs false
theorem law_DeclarationsReturns (d:DD) (vS vD:Value) (w:World) (hg:Glob w) (he:zag w) (hm:Glm w) (hS:SlR w vS d.S.length (scs d.S)) (hD:SlR w vD d.D.length (dcls d.D)) (ht:TxD d):
 Calls Tryz.prog 4 #[ddV d vS vD] w fun e w'=>e=.returned (.bool true)∧Below w.heap.size w w':=by
 obtain⟨a1,k1,rfl,-,-⟩:=hS.shape;obtain⟨a2,k2,rfl,-,-⟩:=hD.shape;have HS:=lhd hS;have HD:=lhd hD;have HG:=lhd hg;have HE:=lhd he;have HM:=lhd hm;have HT:=lhd ht;clear hS hD hg he hm ht;have hal:Below w.heap.size w (w.alloc (.cells #[.int .i64 d.sc,.string (bsB d.dt),.string (bsB d.vn),.string (bsB d.cm),.slice a1 d.S.length k1,.slice a2 d.D.length k2] 25)):=(Below.refl _ _).alloc (Nat.le_refl _) _;have HX:=lhd (zaq.fresh w #[.int .i64 d.sc,.string (bsB d.dt),.string (bsB d.vn),.string (bsB d.cm),.slice a1 d.S.length k1,.slice a2 d.D.length k2] 25);have HZ:=lhd (show w.heap.size<(w.alloc (.cells #[.int .i64 d.sc,.string (bsB d.dt),.string (bsB d.vn),.string (bsB d.cm),.slice a1 d.S.length k1,.slice a2 d.D.length k2] 25)).heap.size by simp);have HB0:=lhd hal;clear hal;go_enter Tryz.func4,Tryz.ntmps4;go_wp2_with fail;generalize w.alloc (.cells #[.int .i64 d.sc,.string (bsB d.dt),.string (bsB d.vn),.string (bsB d.cm),.slice a1 d.S.length k1,.slice a2 d.D.length k2] 25)=w0 at*;refine(law_awake25 _ (HG.out.below HB0.out) (HE.out.below HB0.out) (HM.out.below HB0.out)).mono ?_;rintro e w1 ⟨rfl,hb1⟩;have HB1:=lhd (zd5 HB0.out hb1);have HX1:=lhd (HX.out.below hb1 HZ.out);have HZ1:=lhd (Nat.lt_of_lt_of_le HZ.out hb1.size);have x0:=HX1.out.cell (j:=0) rfl;have x1:=HX1.out.cell (j:=1) rfl;have x2:=HX1.out.cell (j:=2) rfl;have x3:=HX1.out.cell (j:=3) rfl;have x4:=HX1.out.cell (j:=4) rfl;have x5:=HX1.out.cell (j:=5) rfl;clear hb1 HX HZ;go_wp2_with fail;refine(zqL d _ _ w1 (HS.out.below HB1.out) (HD.out.below HB1.out) HT.out).mono ?_;rintro e w2 ⟨b,rfl,hb2,hf⟩;have HB2:=lhd (zd5 HB1.out hb2);have HX2:=lhd (HX1.out.below hb2 HZ1.out);have HZ2:=lhd (Nat.lt_of_lt_of_le HZ1.out hb2.size);have HF:=lhd hf;clear hb2 hf x0 x1 x2 x3 x4 x5 HX1 HZ1;cases b
 ·go_wp2_with fail;go_ret;exact⟨rfl,HB2.out⟩
 have HFF:=lhd (HF.out rfl);have x0:=HX2.out.cell (j:=0) rfl;have x1:=HX2.out.cell (j:=1) rfl;have x2:=HX2.out.cell (j:=2) rfl;have x3:=HX2.out.cell (j:=3) rfl;have x4:=HX2.out.cell (j:=4) rfl;have x5:=HX2.out.cell (j:=5) rfl;clear HF;go_wp2_with fail;refine(zdg d _ _ w2 (HG.out.below HB2.out) (HM.out.below HB2.out) (HS.out.below HB2.out) (HD.out.below HB2.out) HFF.out.ok).mono ?_;rintro e w3 ⟨rfl,hb3⟩;have HB3:=lhd (zd5 HB2.out hb3);have HX3:=lhd (HX2.out.below hb3 HZ2.out);have HZ3:=lhd (Nat.lt_of_lt_of_le HZ2.out hb3.size);clear hb3 x0 x1 x2 x3 x4 x5 HX2 HZ2;by_cases hv:zoN d=true
 rotate_left
 ·have he0:zei d=[]:=if_neg hv;have hem:(bsB ([]:Bs)).toList.isEmpty=true:=by rw[zbg];rfl
  rw[he0];clear he0;go_wp2_with fail;go_ret;exact⟨rfl,HB3.out⟩
 have hd:=zoP.1 hv;rw[show zei d=fmtD d from if_pos hv];have hne:=zek d;obtain⟨s,hs⟩:∃s,s=fmtD d:=⟨_,rfl⟩;have HSE:=lhd hs;have HVD:=lhd hd;rw[←hs]at hne⊢;have hem:(bsB s).toList.isEmpty=false:=by rw[zbg,decide_eq_false hne]
 have z1:=zbk s;clear hv hd hs hne;by_cases hlen:s.length≤16384
 rotate_left
 ·have hd1:decide ((16384:Int)<(s.length:Int))=true:=by rw[decide_eq_true_iff];omega
  clear hlen;go_wp2_with fail;go_ret;exact⟨rfl,HB3.out⟩
 have hd1:decide ((16384:Int)<(s.length:Int))=false:=by rw[decide_eq_false_iff_not];omega
 have HRD:=lhd (law_read25 s w3 (HG.out.below HB3.out) (HE.out.below HB3.out) (HM.out.below HB3.out) hlen);clear hlen;go_wp2_with fail;refine HRD.out.mono ?_;rintro e w4 ⟨vS4,vD4,vr4,ws,rfl,hw,-,hS4,hD4,hr4,hb4⟩;obtain⟨st,hp,hwr,e1,e2,e3,e4,e5,e6⟩:=zk0 HVD.out (ws:=ws) (by rw[hw,HSE.out])
 have hdd:toDD st=d:=by
  obtain⟨c1,c2,c3,c4,c5,c6⟩:=d;dsimp only at e1 e2 e3 e4 e5 e6;unfold toDD;rw[e1,e2,e3,e4,e5,e6]
 rw[hp]at hS4 hD4 hr4⊢;dsimp only at hS4 hD4 hr4⊢;rw[e5]at hS4;rw[e6]at hD4;rw[hwr]at hr4;rw[hdd];have hr0:SlR w4 vr4 0 []:=hr4;obtain⟨a5,k5,rfl,-,-⟩:=hS4.shape;obtain⟨a6,k6,rfl,-,-⟩:=hD4.shape;obtain⟨a7,k7,rfl,-,-⟩:=hr0.shape;have hal:Below w4.heap.size w4 (w4.alloc (.cells #[.int .i64 d.sc,.string (bsB d.dt),.string (bsB d.vn),.string (bsB d.cm),.slice a5 d.S.length k5,.slice a6 d.D.length k6] 25)):=(Below.refl _ _).alloc (Nat.le_refl _) _;have HY5:=lhd (zaq.fresh w4 #[.int .i64 d.sc,.string (bsB d.dt),.string (bsB d.vn),.string (bsB d.cm),.slice a5 d.S.length k5,.slice a6 d.D.length k6] 25);have hb35:=zd5 hb4 hal;have HX5:=lhd (HX3.out.below hb35 HZ3.out);have HB5:=lhd (zd5 HB3.out hb35);have HS5:=lhd (hS4.below hal);have HD5:=lhd (hD4.below hal);generalize ws.length=nw at*;clear hw hp hwr e1 e2 e3 e4 e5 e6 hdd hS4 hD4 hr4 hr0 hb4 hal hb35 HX3 HZ3 HRD hem hd1 z1;go_upto_region 9 with fail;generalize w4.alloc (.cells #[.int .i64 d.sc,.string (bsB d.dt),.string (bsB d.vn),.string (bsB d.cm),.slice a5 d.S.length k5,.slice a6 d.D.length k6] 25)=w5 at*;generalize w4.heap.size=bY at*;have x0:=HX5.out.cell (j:=0) rfl;have y0:=HY5.out.cell (j:=0) rfl;have x1:=HX5.out.cell (j:=1) rfl;have y1:=HY5.out.cell (j:=1) rfl;have x2:=HX5.out.cell (j:=2) rfl;have y2:=HY5.out.cell (j:=2) rfl;have x3:=HX5.out.cell (j:=3) rfl;have y3:=HY5.out.cell (j:=3) rfl;have x4:=HX5.out.cell (j:=4) rfl;have y4:=HY5.out.cell (j:=4) rfl;have x5:=HX5.out.cell (j:=5) rfl;have y5:=HY5.out.cell (j:=5) rfl;have HSM:=lhd (zlg d (.slice a5 d.S.length k5) (.slice a6 d.D.length k6) (.slice a1 d.S.length k1) (.slice a2 d.D.length k2) w5 HS5.out HD5.out (HS.out.below HB5.out) (HD.out.below HB5.out));go_wp2_with fail;refine HSM.out.mono ?_;rintro e w6 ⟨rfl,hb6⟩;go_wp2_with fail;go_ret;exact⟨zle rfl,zd5 HB5.out hb6⟩
end Go.Proofs.YtcdekelomkcahaaGreatDoor
