import Derived.Test.YtfppgpamkdkckaaGreatDoorZ00
import Derived.Test.YtfppgpamkdkckaaGreatDoorZ10
import Derived.Test.YtfppgpamkdkckaaGreatDoorZ12
set_option maxRecDepth 100000
set_option maxHeartbeats 16000000
namespace Go.Proofs.YtfppgpamkdkckaaGreatDoor
open Go.RowKit
set_option linter.unusedSimpArgs false
theorem zr0 (k n:Int) (s id:ByteArray) (w:World) (hv:vt k n=false):
 Calls Tryz.prog 57 #[.int .i64 k,.int .i64 n,.string s,.string id] w fun e w'=>e=.returned (.string (cmdB k n s id))∧Below w.heap.size w w':=by
 have HVV:=lhd (show cmdB k n s id=⟨#[]⟩from zcy (by rw[hv];simp));go_enter Tryz.func57,Tryz.ntmps57;go_wp2_with fail;refine(zsq k n _).mono ?_;rintro e w1 ⟨C,rfl,hb,hC⟩;have HB:=lhd hb;rw[hv];rcases hC with⟨rfl,-⟩|⟨B,-,⟨-,rfl⟩|⟨-,rfl⟩|⟨-,rfl⟩|⟨-,rfl⟩⟩
 all_goals
  clear hb hv;try unfold kd0
  try unfold kd1
  try unfold kd2
  try unfold kd3
  go_wp2_with fail;refine bodyPost_ret (v:=.string ⟨#[]⟩) (by simp[results,Tryz.results57,go_sem]) rfl ?_;rw[HVV.out];exact⟨rfl,HB.out.alloc HB.out.size _⟩
theorem zrU (k n:Int) (s id:ByteArray) (w:World) (hg:Glob w) (hs:s.size≤100000) (hid:id.size≤100000):
 Calls Tryz.prog 57 #[.int .i64 k,.int .i64 n,.string s,.string id] w fun e w'=>e=.returned (.string (cmdB k n s id))∧Below w.heap.size w w':=by
 cases hv:vt k n
 ·exact zr0 k n s id w hv
 ·have h4:k=0∨k=1∨k=2∨k=3:=by
   unfold vt at hv;simp at hv;omega
  rcases h4 with rfl|rfl|rfl|rfl
  ·exact zrV n s id w hv hs hid
  ·exact zrW n s id w hg hv hs hid
  ·exact zrX n s id w hg hv hs hid
  ·exact zrY n s id w hg hv hs hid
theorem zls {w:World} {b:Nat} {C:Array Value} {T:TypeId} (h:w.heap[b]? =some (.cells C T (0,0))):zan w b C.toList:=fun j v hj=>by
 rw[Array.getElem?_toList]at hj;exact⟨by simp[World.cell?,h,hj],by simp[World.frozen?,h]⟩
theorem zcu (k n:Int) (id:Bs):cmdL cv k n (vi k n).data.toList id≠ []↔cnt cv (id,k,n)=true:=by
 rw[zcF];constructor
 ·intro h;obtain⟨h1,-,h3⟩:=zcx h;exact⟨h1,h3⟩
 ·rintro⟨h1,h2⟩;have h3:=zdy.vi_ok k n h1;unfold cmdL;rw[if_pos (by rw[Bool.and_eq_true,Bool.and_eq_true];exact⟨⟨h1,h3⟩,h2⟩)];split
  ·intro h;exact(zcY h2).1 (List.append_eq_nil_iff.1 h).2
  ·intro h;cases h
theorem zcs (k n:Int) (id:Bs):(cmdB k n (vi k n) (bsB id)).toList.isEmpty=!cnt cv (id,k,n):=by
 unfold cmdB;rw[ByteArray.toList_eq,zbq,zbq];cases h:cnt cv (id,k,n)
 ·have:cmdL cv k n (vi k n).data.toList id=[]:=by
   refine Classical.not_not.1 fun hne=>?_;rw[(zcu k n id).1 hne]at h;cases h
  rw[this];rfl
 ·have:=(zcu k n id).2 h;cases hc:cmdL cv k n (vi k n).data.toList id with
  |nil=>exact absurd hc this
  |cons a l=>rfl
theorem zsY (k n:Int):(vi k n).size≤128:=by
 unfold vi;split
 ·split
  ·unfold allR;split
   ·exact Nat.zero_le _
   ·rename_i h
    show(List.replicate n.toNat (120:UInt8)).toArray.size≤128;simp;omega
  ·split
   ·decide
   ·exact Nat.zero_le _
 ·exact Nat.zero_le _
theorem zmA (d:Dcl) (w:World) (hg:Glob w) (hc:d.code.length≤1000):Calls Tryz.prog 58 #[dclV d] w fun e w'=>e=.returned (.bool (cnt cv d.dc))∧Below w.heap.size w w':=by
 obtain⟨n0,n1,n2,n3,n4,n5,n6,n7,n8,n9⟩:=d;have hal:Below w.heap.size w (w.alloc (.cells #[.string (bsB n0),.int .i64 n1,.int .i64 n2,.int .i64 n3,.bool n4,.int .i64 n5,.int .i64 n6,.string (bsB n7),.int .i64 n8,.int .i64 n9] 68)):=(Below.refl _ _).alloc (Nat.le_refl _) _;have hx:=zan.fresh w #[.string (bsB n0),.int .i64 n1,.int .i64 n2,.int .i64 n3,.bool n4,.int .i64 n5,.int .i64 n6,.string (bsB n7),.int .i64 n8,.int .i64 n9] 68;have hz:w.heap.size<(w.alloc (.cells #[.string (bsB n0),.int .i64 n1,.int .i64 n2,.int .i64 n3,.bool n4,.int .i64 n5,.int .i64 n6,.string (bsB n7),.int .i64 n8,.int .i64 n9] 68)).heap.size:=by simp
 generalize hw1:w.alloc (.cells #[.string (bsB n0),.int .i64 n1,.int .i64 n2,.int .i64 n3,.bool n4,.int .i64 n5,.int .i64 n6,.string (bsB n7),.int .i64 n8,.int .i64 n9] 68)=w1 at*;have HX:=lhd hx;have HB:=lhd hal;have HG:=lhd (hg.below hal);have v7:=hx.cell (j:=7) rfl;have v8:=hx.cell (j:=8) rfl;have v9:=hx.cell (j:=9) rfl;have hem:=zcs n8 n9 n7;have hvs:=zsY n8 n9;have hcs:(bsB n7).size≤100000:=by rw[zbt];exact Nat.le_trans hc (by decide)
 have HR:=lhd (show cnt cv (n7,n8,n9)=cnt cv (Dcl.dc ⟨n0,n1,n2,n3,n4,n5,n6,n7,n8,n9⟩)from rfl);clear hx hal hg hc;go_enter Tryz.func58,Tryz.ntmps58;go_wp2_with fail
 go_region_held3 (fun w'=>w'.cell? ⟨w.heap.size,7,none⟩=some (.string (bsB n7))∧w'.cell? ⟨w.heap.size,8,none⟩=some (.int .i64 n8)∧w'.cell? ⟨w.heap.size,9,none⟩=some (.int .i64 n9))
  (first|exact⟨v7,v8,v9⟩|exact⟨x7,x8,x9⟩|exact⟨y7,y8,y9⟩|go_keep)
  (first
    |(go_at_call 59;refine(zr1 n8 n9 _).mono ?_;rintro e w2 ⟨rfl,hb2'⟩;have hb2:=zbc hb2';have HB2:=lhd hb2;have hx2:=HX.out.below hb2 hz;have hz2:=Nat.lt_of_lt_of_le hz hb2.size;have HX2:=lhd hx2;have x7:=hx2.cell (j:=7) rfl;have x8:=hx2.cell (j:=8) rfl;have x9:=hx2.cell (j:=9) rfl;clear hb2 hb2' hx2)
    |(go_at_call 57;refine(zrU n8 n9 (vi n8 n9) (bsB n7) _ (HG.out.below HB2.out) (by omega) hcs).mono ?_;rintro e w3 ⟨rfl,hb3⟩;have HB3:=lhd (zfj HB2.out hb3);have hx3:=HX2.out.below hb3 hz2;have y7:=hx3.cell (j:=7) rfl;have y8:=hx3.cell (j:=8) rfl;have y9:=hx3.cell (j:=9) rfl;clear hb3 hx3)
    |fail "no arm")
 cases hcn:cnt cv (n7,n8,n9)
 all_goals
  rw[hcn]at hem HR;clear hcn;go_wp2_with fail;go_ret;exact⟨znc HR.out,HB.out.trans (HB3.out.mono HB.out.size)⟩
theorem zh5 {L:List Dcl} {j:Nat} (hj:j<L.length) (x:BsM):knF (L.take (j+1)) x=(knF (L.take j) x).or (if cnt cv L[j].dc=true∧L[j].code=x then some L[j]else none):=by
 rw[List.take_succ_eq_append_getElem hj];unfold knF;rw[List.find?_append];congr 1
 rw[List.find?_cons];by_cases h:cnt cv L[j].dc=true∧L[j].code=x
 ·rw[if_pos h,h.1,decide_eq_true h.2];rfl
 ·rw[if_neg h]
  have:(cnt cv L[j].dc&&decide (L[j].code=x))=false:=by
   rw[Bool.and_eq_false_iff,decide_eq_false_iff_not];cases hc:cnt cv L[j].dc
   ·exact .inl rfl
   ·exact .inr fun e=>h ⟨hc,e⟩
  rw[this];rfl
theorem zo4 {L:List Dcl} {j:Nat} (hj:j<L.length) (h:cnt cv L[j].dc=false∨(knF (L.take j) L[j].code).isSome=true) (x:BsM):sigF (L.take j) x=sigF (L.take (j+1)) x:=by
 unfold sigF;rw[zh5 hj];rcases h with h|h
 ·rw[if_neg (by rw[h];simp)];simp
 ·by_cases hx:L[j].code=x
  ·subst hx;obtain⟨d,hd⟩:=Option.isSome_iff_exists.1 h;rw[hd];rfl
  ·rw[if_neg (fun e=>hx e.2)];simp
theorem zo7 {L:List Dcl} {j:Nat} (hj:j<L.length) (h:cnt cv L[j].dc=true) (hn:(knF (L.take j) L[j].code).isSome=false) (x:BsM):(if x=(bsB L[j].code).data.toList then some (dclV L[j])else sigF (L.take j) x)=sigF (L.take (j+1)) x:=by
 rw[zbq];unfold sigF;rw[zh5 hj];by_cases hx:x=L[j].code
 ·subst hx;rw[if_pos rfl,if_pos ⟨h,rfl⟩];rw[Option.isSome_eq_false_iff,Option.isNone_iff_eq_none]at hn;rw[hn];rfl
 ·rw[if_neg hx,if_neg (fun e=>hx e.2.symm)];simp
theorem zpd {L:List Dcl} {w:World} {b n:Nat} (h:SMap Tryz.prog 9 w b n (sigF L)) {code:Bs} (hc:code.length≤140737488351232):
 (Instr.lookup 109 (.map (some b)) (.string (bsB code)) true).run Tryz.prog w=.ok (.tuple #[dclV ((knF L code).getD dz),.bool (knF L code).isSome]) w:=by
 have:=h.look (t:=109) Tryz.underlying9 Tryz.underlying109 (zt5 w) (bsB code) (by rw[zbt];unfold maxLen;omega);rw[zbq]at this;unfold sigF at this;rw[zo2,zo6]at this;exact this
theorem SMap.more {P:Program} {K:TypeId} {w:World} {b n n':Nat} {f:BsM→Option Value} (h:SMap P K w b n f) (hn:n≤n'):SMap P K w b n' f:=by
 obtain⟨D,ho,hf⟩:=h;exact⟨D,ho.mono hn,hf⟩
def zat (L:List Dcl) (w:World) (e:Ending) (w':World):Prop:=e=.returned (.map (some w.heap.size))∧SMap Tryz.prog 9 w' w.heap.size L.length (sigF L)∧Below w.heap.size w w'
theorem zmB (v:Value) (L:List Dcl) (w:World) (hs:SlR w v L.length (dcls L)) (hg:Glob w) (hc:∀d∈L,d.code.length≤1000) (hl:L.length≤1000):Calls Tryz.prog 52 #[v] w (zat L w):=by
 obtain⟨a,cap,rfl,-,-⟩:=hs.shape;have HS:=lhd hs;have HG:=lhd hg;have HC:=lhd hc;have hmm:= @run_makeMap Tryz.prog;have h0:=SMap.made w Tryz.prog 9;have b0:Below w.heap.size w (w.alloc (.map #[] 0)):=(Below.refl _ _).alloc (Nat.le_refl _) _;have HM0:=lhd (h0.ext (g:=sigF (L.take 0)) (fun s=>rfl));have HB0:=lhd b0;clear hs hg hc h0 b0;go_enter Tryz.func52,Tryz.ntmps52;go_wp2_with fail;clear hmm;go_loopw [11] (fun i wr=>∃j:Nat,j≤L.length∧i=.int .i64 j∧SMap Tryz.prog 9 wr w.heap.size j (sigF (L.take j))∧Below w.heap.size w wr) (fun i _=>L.length-(intOf i).toNat)
 case atStart=>exact⟨0,Nat.zero_le _,rfl,HM0.out,HB0.out⟩
 case round=>
  obtain⟨j,hj,rfl,hm,hb⟩:=hrel;have HM:=lhd hm;have HB:=lhd hb;clear hm hb;by_cases hlt:j<L.length
  ·obtain⟨b,o,rfl,hcl⟩:=(HS.out.below HB.out).dcls hlt;have HN:=lhd (fun h=>zo4 hlt h);have HY:=lhd (fun h h'=>zo7 hlt h h');have hcd:=HC.out L[j] (List.getElem_mem hlt);generalize L[j]=d at hcl HN HY hcd;obtain⟨n0,n1,n2,n3,n4,n5,n6,n7,n8,n9⟩:=d;have g0:wr.cell? ⟨b,o+j*10,none⟩=some (.string (bsB n0)):=hcl 0 _ rfl;have g1:wr.cell? ⟨b,o+j*10+1,none⟩=some (.int .i64 n1):=hcl 1 _ rfl;have g2:wr.cell? ⟨b,o+j*10+2,none⟩=some (.int .i64 n2):=hcl 2 _ rfl;have g3:wr.cell? ⟨b,o+j*10+3,none⟩=some (.int .i64 n3):=hcl 3 _ rfl;have g4:wr.cell? ⟨b,o+j*10+4,none⟩=some (.bool n4):=hcl 4 _ rfl;have g5:wr.cell? ⟨b,o+j*10+5,none⟩=some (.int .i64 n5):=hcl 5 _ rfl;have g6:wr.cell? ⟨b,o+j*10+6,none⟩=some (.int .i64 n6):=hcl 6 _ rfl;have g7:wr.cell? ⟨b,o+j*10+7,none⟩=some (.string (bsB n7)):=hcl 7 _ rfl;have g8:wr.cell? ⟨b,o+j*10+8,none⟩=some (.int .i64 n8):=hcl 8 _ rfl;have g9:wr.cell? ⟨b,o+j*10+9,none⟩=some (.int .i64 n9):=hcl 9 _ rfl;clear hcl;have hal:Below wr.heap.size wr (wr.alloc (.cells #[.string (bsB n0),.int .i64 n1,.int .i64 n2,.int .i64 n3,.bool n4,.int .i64 n5,.int .i64 n6,.string (bsB n7),.int .i64 n8,.int .i64 n9] 68)):=(Below.refl _ _).alloc (Nat.le_refl _) _;have HBK:=lhd (heap_alloc_new wr (.cells #[.string (bsB n0),.int .i64 n1,.int .i64 n2,.int .i64 n3,.bool n4,.int .i64 n5,.int .i64 n6,.string (bsB n7),.int .i64 n8,.int .i64 n9] 68));generalize hw1:wr.alloc (.cells #[.string (bsB n0),.int .i64 n1,.int .i64 n2,.int .i64 n3,.bool n4,.int .i64 n5,.int .i64 n6,.string (bsB n7),.int .i64 n8,.int .i64 n9] 68)=w1 at*;have x0:=(zls HBK.out).cell (j:=0) rfl;have x1:=(zls HBK.out).cell (j:=1) rfl;have x2:=(zls HBK.out).cell (j:=2) rfl;have x3:=(zls HBK.out).cell (j:=3) rfl;have x4:=(zls HBK.out).cell (j:=4) rfl;have x5:=(zls HBK.out).cell (j:=5) rfl;have x6:=(zls HBK.out).cell (j:=6) rfl;have x7:=(zls HBK.out).cell (j:=7) rfl;have x8:=(zls HBK.out).cell (j:=8) rfl;have x9:=(zls HBK.out).cell (j:=9) rfl;have HB1:=lhd (HB.out.trans (hal.mono HB.out.size));have HM1:=lhd (HM.out.below hal HM.out.lt);have HCN:=lhd (zmA ⟨n0,n1,n2,n3,n4,n5,n6,n7,n8,n9⟩ w1 (HG.out.below HB1.out) hcd);clear hal;go_wp2_with fail;refine HCN.out.mono ?_;rintro e w2 ⟨rfl,hb2⟩;have HB2:=lhd (HB1.out.trans (hb2.mono HB1.out.size));have hm2:=HM1.out.below hb2 HM1.out.lt;have HM2:=lhd hm2;have hbk2:=HBK.out;rw[←hb2.block _ (Array.getElem?_eq_some_iff.1 HBK.out).1]at hbk2;have y0:=(zls hbk2).cell (j:=0) rfl;have y1:=(zls hbk2).cell (j:=1) rfl;have y2:=(zls hbk2).cell (j:=2) rfl;have y3:=(zls hbk2).cell (j:=3) rfl;have y4:=(zls hbk2).cell (j:=4) rfl;have y5:=(zls hbk2).cell (j:=5) rfl;have y6:=(zls hbk2).cell (j:=6) rfl;have y7:=(zls hbk2).cell (j:=7) rfl;have y8:=(zls hbk2).cell (j:=8) rfl;have y9:=(zls hbk2).cell (j:=9) rfl;have hlk:=zpd hm2 (code:=n7) (by omega);clear x0 x1 x2 x3 x4 x5 x6 x7 x8 x9 g0 g1 g2 g3 g4 g5 g6 g7 g8 g9 hb2 hm2 hbk2;generalize hcn:cnt cv (Dcl.dc ⟨n0,n1,n2,n3,n4,n5,n6,n7,n8,n9⟩)=cn at*;cases cn
   ·have HB8:=HB2;have HM8:=lhd (HM2.out.ext (HN.out (.inl rfl)));have HM9:=lhd (SMap.more HM8.out (Nat.le_succ j));clear hcn hlk;go_wp2_with fail;go_roundw;case rel=>exact⟨j+1,by omega,by go_num,HM9.out,HB8.out⟩
    case measure=>simp[intOf];omega
   ·generalize hks:(knF (L.take j) n7).isSome=ks at*;generalize hkd:(knF (L.take j) n7).getD dz=d at*;obtain⟨m0,m1,m2,m3,m4,m5,m6,m7,m8,m9⟩:=d;cases ks
    ·have hal3:Below w2.heap.size w2 (w2.alloc (.cells #[.string (bsB m0),.int .i64 m1,.int .i64 m2,.int .i64 m3,.bool m4,.int .i64 m5,.int .i64 m6,.string (bsB m7),.int .i64 m8,.int .i64 m9] 68)):=(Below.refl _ _).alloc (Nat.le_refl _) _;have HB3:=lhd (HB2.out.trans (hal3.mono HB2.out.size));have hm3:=HM2.out.below hal3 HM2.out.lt;generalize hw3:w2.alloc (.cells #[.string (bsB m0),.int .i64 m1,.int .i64 m2,.int .i64 m3,.bool m4,.int .i64 m5,.int .i64 m6,.string (bsB m7),.int .i64 m8,.int .i64 m9] 68)=w3 at*;have z0:=(hal3.cell (zbU y0)).trans y0;have z1:=(hal3.cell (zbU y1)).trans y1;have z2:=(hal3.cell (zbU y2)).trans y2;have z3:=(hal3.cell (zbU y3)).trans y3;have z4:=(hal3.cell (zbU y4)).trans y4;have z5:=(hal3.cell (zbU y5)).trans y5;have z6:=(hal3.cell (zbU y6)).trans y6;have z7:=(hal3.cell (zbU y7)).trans y7;have z8:=(hal3.cell (zbU y8)).trans y8;have z9:=(hal3.cell (zbU y9)).trans y9;obtain⟨w4,r4,h4,q4⟩:=hm3.put (t:=109) Tryz.underlying9 Tryz.underlying109 (by unfold maxLen;omega) (bsB n7) (by rw[zbt];unfold maxLen;omega) (dclV ⟨n0,n1,n2,n3,n4,n5,n6,n7,n8,n9⟩);have HB8:=lhd (HB3.out.grown q4 HB3.out.size (fun k e=>by cases e;exact Nat.le_refl _));have HM9:=lhd (h4.ext (HY.out rfl rfl));clear hal3 hm3 h4 q4 hcn hks hkd;go_wp2_with fail;go_roundw;case rel=>exact⟨j+1,by omega,by go_num,HM9.out,HB8.out⟩
     case measure=>simp[intOf];omega
    ·have hal3:Below w2.heap.size w2 (w2.alloc (.cells #[.string (bsB m0),.int .i64 m1,.int .i64 m2,.int .i64 m3,.bool m4,.int .i64 m5,.int .i64 m6,.string (bsB m7),.int .i64 m8,.int .i64 m9] 68)):=(Below.refl _ _).alloc (Nat.le_refl _) _;have HB8:=lhd (HB2.out.trans (hal3.mono HB2.out.size));have HM9:=lhd (SMap.more ((HM2.out.below hal3 HM2.out.lt).ext (HN.out (.inr rfl))) (Nat.le_succ j));clear hal3 hcn hks hkd;go_wp2_with fail;go_roundw;case rel=>exact⟨j+1,by omega,by go_num,HM9.out,HB8.out⟩
     case measure=>simp[intOf];omega
  ·obtain rfl:j=L.length:=by omega
   have HM2:=lhd (show SMap Tryz.prog 9 wr w.heap.size L.length (sigF L)by have:=HM.out;rwa [List.take_length]at this);go_wp2_with fail;go_ret;exact⟨rfl,HM2.out,HB.out⟩
theorem zcv (k n:Int) (v id:Bs):(cmdB k n (bsB v) (bsB id)).toList.isEmpty=decide (cmdL cv k n v id=[]):=by
 unfold cmdB;rw[ByteArray.toList_eq,zbq,zbq,zbq];cases cmdL cv k n v id with
 |nil=>rfl
 |cons a l=>rfl
theorem zpe {L:List Dcl} {w:World} {b n:Nat} (h:SMap Tryz.prog 9 w b n (sigF L)) {code:Bs} (hc:code.length≤140737488351232):
 (Instr.lookup 109 (.map (some b)) (.string (bsB code)) false).run Tryz.prog w=.ok (dclV ((knF L code).getD dz)) w:=by
 have:=h.look1 (t:=109) Tryz.underlying9 Tryz.underlying109 (zt5 w) (bsB code) (by rw[zbt];unfold maxLen;omega);rw[zbq]at this;unfold sigF at this;rw[zo2]at this;exact this
abbrev knd (L:List Dcl):Bs→Option Dc:=knL cv (L.map Dcl.dc)
theorem zb1 (v:Value) (mb mn:Nat) (rs:List Rc) (L:List Dcl) (w:World) (hs:SlR w v rs.length (recs rs)) (hm:SMap Tryz.prog 9 w mb mn (sigF L)) (hg:Glob w)
 (hr:∀r∈rs,r.2.2.1.length≤1000∧r.2.2.2.length≤1000) (hl:rs.length≤1000000):
 Calls Tryz.prog 53 #[v,.map (some mb)] w fun e w'=>e=.returned (.bool (zsz cv (knd L) 0 false rs))∧Below w.heap.size w w':=by
 obtain⟨a,cap,rfl,hcap,hmax⟩:=hs.shape;have HS:=lhd hs;have HG:=lhd hg;have HM:=lhd hm;have HR:=lhd hr;have hmlt:=hm.lt;clear hs hg hm hr;go_enter Tryz.func53,Tryz.ntmps53;go_wp2_with fail
 go_loopw [5,6,13] (fun la of i wr=>∃(j:Nat) (x:Int) (b:Bool),j≤rs.length∧la=.int .i64 x∧of=.bool b∧i=.int .i64 j∧zsz cv (knd L) x b (rs.drop j)=zsz cv (knd L) 0 false rs∧Below w.heap.size w wr)
  (fun _ _ i _=>rs.length-(intOf i).toNat)
 case atStart=>exact⟨0,0,false,Nat.zero_le _,rfl,rfl,rfl,rfl,Below.refl _ _⟩
 case round=>
  obtain⟨j,x,b,hj,rfl,rfl,rfl,hv,hb⟩:=hrel;have HV:=lhd hv;have HB:=lhd hb;by_cases hlt:j<rs.length
  ·obtain⟨bb,oo,rfl,c0,c1,c2,c3⟩:=(HS.out.below hb).recs hlt;have hdr:rs.drop j=rs[j]::rs.drop (j+1):=List.drop_eq_getElem_cons hlt;rw[hdr]at HV;obtain⟨hr1,hr2⟩:=HR.out _ (List.getElem_mem hlt);obtain⟨r,hr⟩:∃r,rs[j]=r:=⟨_,rfl⟩;rw[hr]at c0 c1 c2 c3 HV hr1 hr2;clear hdr hr hv;obtain⟨k,t,code,vl⟩:=r;dsimp only at c0 c1 c2 c3 hr1 hr2;have hal:Below wr.heap.size wr (wr.alloc (.cells #[.int .i64 k,.int .i64 t,.string (bsB code),.string (bsB vl)] 47)):=(Below.refl _ _).alloc (Nat.le_refl _) _;have hx:=zan.fresh wr #[.int .i64 k,.int .i64 t,.string (bsB code),.string (bsB vl)] 47;have hz:wr.heap.size<(wr.alloc (.cells #[.int .i64 k,.int .i64 t,.string (bsB code),.string (bsB vl)] 47)).heap.size:=by simp
   have HB1:=lhd (zfj hb hal);have HX:=lhd hx;have x0:=hx.cell (j:=0) rfl;have x1:=hx.cell (j:=1) rfl;have x2:=hx.cell (j:=2) rfl;have x3:=hx.cell (j:=3) rfl;have he1:(bsB code).toList=code:=by rw[ByteArray.toList_eq,zbq]
   have he2:(bsB vl).toList=vl:=by rw[ByteArray.toList_eq,zbq]
   have q1:(0:Int)≤(j:Int):=by omega
   have q2:(j:Int)<(rs.length:Int):=by omega
   have hw:IntKind.i64.wrap ((j:Int)+1)=(j:Int)+1:=IntWalk.i64_in _ (by omega);clear hb hal hx;by_cases k0:k=0
   ·subst k0;by_cases hc:code=[]
    ·by_cases hvl:vl=[]
     ·by_cases ht:t<x
      ·skip
       have HF:=lhd (show zsz cv (knd L) 0 false rs=false by rw[←HV.out];simp[zsz,hc,hvl,ht]);clear HV;go_wp2_with fail;all_goals (go_ret;first|exact⟨znc HF.out.symm,HB.out.alloc HB.out.size _⟩|exact⟨znc HF.out.symm,(HB.out.alloc HB.out.size _).alloc (HB.out.alloc HB.out.size _).size _⟩)
      ·by_cases ht2:t≤1099511627776
       ·have HT:=lhd (show zsz cv (knd L) t b (rs.drop (j+1))=zsz cv (knd L) 0 false rs by rw[←HV.out];simp[zsz,hc,hvl,ht,ht2]);have hd1:decide (t<x)=false:=decide_eq_false ht;have hd2:decide ((1099511627776:Int)<t)=false:=decide_eq_false (by omega);subst hc hvl;clear ht ht2;go_wp2_with fail;go_roundw;case rel=>exact⟨j+1,t,b,by omega,rfl,rfl,by go_num,HT.out,HB.out.alloc HB.out.size _⟩
        case measure=>simp[intOf];omega
       ·have hd2:decide ((1099511627776:Int)<t)=true:=decide_eq_true (by omega);have HF:=lhd (show zsz cv (knd L) 0 false rs=false by rw[←HV.out];simp[zsz,hc,hvl,ht,ht2]);clear HV;go_wp2_with fail;all_goals (go_ret;first|exact⟨znc HF.out.symm,HB.out.alloc HB.out.size _⟩|exact⟨znc HF.out.symm,(HB.out.alloc HB.out.size _).alloc (HB.out.alloc HB.out.size _).size _⟩)
     ·skip
      have HF:=lhd (show zsz cv (knd L) 0 false rs=false by rw[←HV.out];simp[zsz,hc,hvl]);clear HV;go_wp2_with fail;all_goals (go_ret;first|exact⟨znc HF.out.symm,HB.out.alloc HB.out.size _⟩|exact⟨znc HF.out.symm,(HB.out.alloc HB.out.size _).alloc (HB.out.alloc HB.out.size _).size _⟩)
    ·skip
     have HF:=lhd (show zsz cv (knd L) 0 false rs=false by rw[←HV.out];simp[zsz,hc]);clear HV;go_wp2_with fail;all_goals (go_ret;first|exact⟨znc HF.out.symm,HB.out.alloc HB.out.size _⟩|exact⟨znc HF.out.symm,(HB.out.alloc HB.out.size _).alloc (HB.out.alloc HB.out.size _).size _⟩)
   by_cases k1:k=1
   ·subst k1;have hkn:knd L code=(knF L code).map Dcl.dc:=zh4 L code;have hlk:=zpd (HM.out.below HB1.out hmlt) (code:=code) (by omega);have hcs:(bsB code).size≤100000:=by rw[zbt];omega
    have hvs:(bsB vl).size≤100000:=by rw[zbt];omega
    cases hkf:knF L code with
    |none=>
     rw[hkf]at hlk hkn;have hkn2:knd L code=none:=hkn;have HF:=lhd (show zsz cv (knd L) 0 false rs=false by rw[←HV.out];simp[zsz,hkn2]);clear HV;go_wp2_with fail;all_goals (go_ret;first|exact⟨znc HF.out.symm,HB.out.alloc HB.out.size _⟩|exact⟨znc HF.out.symm,(HB.out.alloc HB.out.size _).alloc (HB.out.alloc HB.out.size _).size _⟩)
    |some d=>
     rw[hkf]at hlk hkn;obtain⟨n0,n1,n2,n3,n4,n5,n6,n7,n8,n9⟩:=d;have hkn2:knd L code=some (n7,n8,n9):=hkn;rw[show((some (⟨n0,n1,n2,n3,n4,n5,n6,n7,n8,n9⟩:Dcl)).getD dz)=⟨n0,n1,n2,n3,n4,n5,n6,n7,n8,n9⟩from rfl]at hlk;dsimp only[dclV]at hlk;clear hkn hkf;have hal2:Below (wr.alloc (.cells #[.int .i64 1,.int .i64 t,.string (bsB code),.string (bsB vl)] 47)).heap.size (wr.alloc (.cells #[.int .i64 1,.int .i64 t,.string (bsB code),.string (bsB vl)] 47)) ((wr.alloc (.cells #[.int .i64 1,.int .i64 t,.string (bsB code),.string (bsB vl)] 47)).alloc (.cells #[.string (bsB n0),.int .i64 n1,.int .i64 n2,.int .i64 n3,.bool n4,.int .i64 n5,.int .i64 n6,.string (bsB n7),.int .i64 n8,.int .i64 n9] 68)):=(Below.refl _ _).alloc (Nat.le_refl _) _;have hx2:=HX.out.below hal2 hz;have hy2:=zan.fresh (wr.alloc (.cells #[.int .i64 1,.int .i64 t,.string (bsB code),.string (bsB vl)] 47)) #[.string (bsB n0),.int .i64 n1,.int .i64 n2,.int .i64 n3,.bool n4,.int .i64 n5,.int .i64 n6,.string (bsB n7),.int .i64 n8,.int .i64 n9] 68;rw[World.size_alloc]at hy2;have HX2:=lhd hx2;have HY2:=lhd hy2;have hz2:wr.heap.size+1<((wr.alloc (.cells #[.int .i64 1,.int .i64 t,.string (bsB code),.string (bsB vl)] 47)).alloc (.cells #[.string (bsB n0),.int .i64 n1,.int .i64 n2,.int .i64 n3,.bool n4,.int .i64 n5,.int .i64 n6,.string (bsB n7),.int .i64 n8,.int .i64 n9] 68)).heap.size:=by simp
     have HB2:=lhd (zfj HB1.out hal2);have y1:=hx2.cell (j:=1) rfl;have y2:=hx2.cell (j:=2) rfl;have y3:=hx2.cell (j:=3) rfl;have z8:=hy2.cell (j:=8) rfl;have z9:=hy2.cell (j:=9) rfl;have HC:=lhd (zrU n8 n9 (bsB vl) (bsB code) _ (HG.out.below HB2.out) hvs hcs);have hce:=zcv n8 n9 vl code;clear hal2 hx2 hy2;by_cases ht:t=0
     ·by_cases hcm:cmdL cv n8 n9 vl code=[]
      ·have HF:=lhd (show zsz cv (knd L) 0 false rs=false by rw[←HV.out];simp[zsz,hkn2,hcm]);rw[decide_eq_true hcm]at hce;subst ht;go_wp2_with (go_at_call 57;refine HC.out.mono ?_;rintro e w3 ⟨rfl,hb3⟩;have HB3:=lhd (zfj HB2.out hb3))
       all_goals (go_ret;exact⟨znc HF.out.symm,HB3.out⟩)
      ·rw[decide_eq_false hcm]at hce;cases b
       ·have HT:=lhd (show zsz cv (knd L) x false (rs.drop (j+1))=zsz cv (knd L) 0 false rs by rw[←HV.out];simp[zsz,hkn2,hcm,ht]);subst ht;go_wp2_with (go_at_call 57;refine HC.out.mono ?_;rintro e w3 ⟨rfl,hb3⟩;have HB3:=lhd (zfj HB2.out hb3))
        go_roundw;case rel=>exact⟨j+1,x,false,by omega,rfl,rfl,by go_num,HT.out,HB3.out⟩
        case measure=>simp[intOf];omega
       ·by_cases h8:n8=0
        ·have HF:=lhd (show zsz cv (knd L) 0 false rs=false by rw[←HV.out];simp[zsz,hkn2,h8]);subst ht;subst h8;go_wp2_with (go_at_call 57;refine HC.out.mono ?_;rintro e w3 ⟨rfl,hb3⟩;have HB3:=lhd (zfj HB2.out hb3);have z8:=(HY2.out.below hb3 hz2).cell (j:=8) rfl)
         all_goals (go_ret;exact⟨znc HF.out.symm,HB3.out⟩)
        ·have HT:=lhd (show zsz cv (knd L) x true (rs.drop (j+1))=zsz cv (knd L) 0 false rs by rw[←HV.out];simp[zsz,hkn2,hcm,ht,h8]);have h8b:((n8:Int)==0)=false:=by rw[beq_eq_false_iff_ne];exact h8
         subst ht;go_wp2_with (go_at_call 57;refine HC.out.mono ?_;rintro e w3 ⟨rfl,hb3⟩;have HB3:=lhd (zfj HB2.out hb3);have z8:=(HY2.out.below hb3 hz2).cell (j:=8) rfl)
         go_roundw;case rel=>exact⟨j+1,x,true,by omega,rfl,rfl,by go_num,HT.out,HB3.out⟩
         case measure=>simp[intOf];omega
     ·have HF:=lhd (show zsz cv (knd L) 0 false rs=false by rw[←HV.out];simp[zsz,hkn2,ht]);have htb:((t:Int)==0)=false:=by rw[beq_eq_false_iff_ne];exact ht
      clear HV;go_wp2_with fail;all_goals (go_ret;exact⟨znc HF.out.symm,HB2.out⟩)
   by_cases k2:k=2
   ·subst k2;by_cases ht:t=0
    ·by_cases hc:code=[]
     ·by_cases hvl:vl=[]
      ·subst ht hc hvl;cases b
       ·have HT:=lhd (show zsz cv (knd L) x true (rs.drop (j+1))=zsz cv (knd L) 0 false rs by rw[←HV.out];simp[zsz]);go_wp2_with fail;go_roundw;case rel=>exact⟨j+1,x,true,by omega,rfl,rfl,by go_num,HT.out,HB.out.alloc HB.out.size _⟩
        case measure=>simp[intOf];omega
       ·skip
        have HF:=lhd (show zsz cv (knd L) 0 false rs=false by rw[←HV.out];simp[zsz]);clear HV;go_wp2_with fail;all_goals (go_ret;first|exact⟨znc HF.out.symm,HB.out.alloc HB.out.size _⟩|exact⟨znc HF.out.symm,(HB.out.alloc HB.out.size _).alloc (HB.out.alloc HB.out.size _).size _⟩)
      ·skip
       have HF:=lhd (show zsz cv (knd L) 0 false rs=false by rw[←HV.out];simp[zsz,hvl]);clear HV;go_wp2_with fail;all_goals (go_ret;first|exact⟨znc HF.out.symm,HB.out.alloc HB.out.size _⟩|exact⟨znc HF.out.symm,(HB.out.alloc HB.out.size _).alloc (HB.out.alloc HB.out.size _).size _⟩)
     ·skip
      have HF:=lhd (show zsz cv (knd L) 0 false rs=false by rw[←HV.out];simp[zsz,hc]);clear HV;go_wp2_with fail;all_goals (go_ret;first|exact⟨znc HF.out.symm,HB.out.alloc HB.out.size _⟩|exact⟨znc HF.out.symm,(HB.out.alloc HB.out.size _).alloc (HB.out.alloc HB.out.size _).size _⟩)
    ·skip
     have HF:=lhd (show zsz cv (knd L) 0 false rs=false by rw[←HV.out];simp[zsz,ht]);clear HV;go_wp2_with fail;all_goals (go_ret;first|exact⟨znc HF.out.symm,HB.out.alloc HB.out.size _⟩|exact⟨znc HF.out.symm,(HB.out.alloc HB.out.size _).alloc (HB.out.alloc HB.out.size _).size _⟩)
   by_cases k3:k=3
   ·subst k3;by_cases ht:t=0
    ·by_cases hc:code=[]
     ·by_cases hvl:vl=[]
      ·subst ht hc hvl;cases b
       ·skip
        have HF:=lhd (show zsz cv (knd L) 0 false rs=false by rw[←HV.out];simp[zsz]);clear HV;go_wp2_with fail;all_goals (go_ret;first|exact⟨znc HF.out.symm,HB.out.alloc HB.out.size _⟩|exact⟨znc HF.out.symm,(HB.out.alloc HB.out.size _).alloc (HB.out.alloc HB.out.size _).size _⟩)
       ·have HT:=lhd (show zsz cv (knd L) x false (rs.drop (j+1))=zsz cv (knd L) 0 false rs by rw[←HV.out];simp[zsz]);go_wp2_with fail;go_roundw;case rel=>exact⟨j+1,x,false,by omega,rfl,rfl,by go_num,HT.out,HB.out.alloc HB.out.size _⟩
        case measure=>simp[intOf];omega
      ·skip
       have HF:=lhd (show zsz cv (knd L) 0 false rs=false by rw[←HV.out];simp[zsz,hvl]);clear HV;go_wp2_with fail;all_goals (go_ret;first|exact⟨znc HF.out.symm,HB.out.alloc HB.out.size _⟩|exact⟨znc HF.out.symm,(HB.out.alloc HB.out.size _).alloc (HB.out.alloc HB.out.size _).size _⟩)
     ·skip
      have HF:=lhd (show zsz cv (knd L) 0 false rs=false by rw[←HV.out];simp[zsz,hc]);clear HV;go_wp2_with fail;all_goals (go_ret;first|exact⟨znc HF.out.symm,HB.out.alloc HB.out.size _⟩|exact⟨znc HF.out.symm,(HB.out.alloc HB.out.size _).alloc (HB.out.alloc HB.out.size _).size _⟩)
    ·skip
     have HF:=lhd (show zsz cv (knd L) 0 false rs=false by rw[←HV.out];simp[zsz,ht]);clear HV;go_wp2_with fail;all_goals (go_ret;first|exact⟨znc HF.out.symm,HB.out.alloc HB.out.size _⟩|exact⟨znc HF.out.symm,(HB.out.alloc HB.out.size _).alloc (HB.out.alloc HB.out.size _).size _⟩)
   by_cases k4:k=4
   ·subst k4;by_cases ht:t=0
    ·by_cases hc:code=[]
     ·by_cases hvl:vl=[]
      ·subst ht hc hvl;have HT:=lhd (show zsz cv (knd L) x b (rs.drop (j+1))=zsz cv (knd L) 0 false rs by rw[←HV.out];simp[zsz]);go_wp2_with fail;go_roundw;case rel=>exact⟨j+1,x,b,by omega,rfl,rfl,by go_num,HT.out,HB.out.alloc HB.out.size _⟩
       case measure=>simp[intOf];omega
      ·skip
       have HF:=lhd (show zsz cv (knd L) 0 false rs=false by rw[←HV.out];simp[zsz,hvl]);clear HV;go_wp2_with fail;all_goals (go_ret;first|exact⟨znc HF.out.symm,HB.out.alloc HB.out.size _⟩|exact⟨znc HF.out.symm,(HB.out.alloc HB.out.size _).alloc (HB.out.alloc HB.out.size _).size _⟩)
     ·skip
      have HF:=lhd (show zsz cv (knd L) 0 false rs=false by rw[←HV.out];simp[zsz,hc]);clear HV;go_wp2_with fail;all_goals (go_ret;first|exact⟨znc HF.out.symm,HB.out.alloc HB.out.size _⟩|exact⟨znc HF.out.symm,(HB.out.alloc HB.out.size _).alloc (HB.out.alloc HB.out.size _).size _⟩)
    ·skip
     have HF:=lhd (show zsz cv (knd L) 0 false rs=false by rw[←HV.out];simp[zsz,ht]);clear HV;go_wp2_with fail;all_goals (go_ret;first|exact⟨znc HF.out.symm,HB.out.alloc HB.out.size _⟩|exact⟨znc HF.out.symm,(HB.out.alloc HB.out.size _).alloc (HB.out.alloc HB.out.size _).size _⟩)
   ·have hk0:(k==(0:Int))=false:=by rw[beq_eq_false_iff_ne];exact k0
    have hk1:(k==(1:Int))=false:=by rw[beq_eq_false_iff_ne];exact k1
    have hk2:(k==(2:Int))=false:=by rw[beq_eq_false_iff_ne];exact k2
    have hk3:(k==(3:Int))=false:=by rw[beq_eq_false_iff_ne];exact k3
    have hk4:(k==(4:Int))=false:=by rw[beq_eq_false_iff_ne];exact k4
    have HF:=lhd (show zsz cv (knd L) 0 false rs=false by rw[←HV.out];simp[zsz,k0,k1,k2,k3,k4]);clear HV;go_wp2_with fail;all_goals (go_ret;first|exact⟨znc HF.out.symm,HB.out.alloc HB.out.size _⟩|exact⟨znc HF.out.symm,(HB.out.alloc HB.out.size _).alloc (HB.out.alloc HB.out.size _).size _⟩)
  ·obtain rfl:j=rs.length:=by omega
   rw[List.drop_length]at HV;have e:zsz cv (knd L) 0 false rs=true:=by rw[←HV.out];rfl
   clear hv;go_wp2_with fail;go_ret;exact⟨znc e.symm,HB.out⟩
end Go.Proofs.YtfppgpamkdkckaaGreatDoor
