import Derived.Test.YtfppgpamkdkckaaGreatDoorZ00
import Derived.Test.YtfppgpamkdkckaaGreatDoorZ36
import Derived.Test.YtfppgpamkdkckaaGreatDoorZ40
import Derived.Test.YtfppgpamkdkckaaGreatDoorZ41
set_option maxRecDepth 100000
set_option maxHeartbeats 16000000
namespace Go.Proofs.YtfppgpamkdkckaaGreatDoor
open Go.RowKit
set_option linter.unusedSimpArgs false
theorem zt1 (B b:Nat) (d0 d1 d2 d3:Value) (S:List Sc) (D:List Dcl) (vS vD:Value) (w0:World) (hw0:B=w0.heap.size) (hS:SlR w0 vS S.length (scs S)) (hD:SlR w0 vD D.length (dcls D)) (hg:Glob w0) (hv:∀x∈D,WV x) (hF:Fst (parS S) S.length) (hDl:D.length≤1000) (hSl:S.length≤1000):
 ∀(f:Nat) (p:Int) (bs:Bs) (w:World),p<(S.length:Int)→(S.length:Int)-p≤(f:Int)→Below B w0 w→WrI B b d0 d1 d2 d3 vS vD (Lib.byteCells bs) w→bs.length+(ziu (inT S D f p)).length≤1000000000→
  Calls Tryz.prog 50 #[.pointer (some ⟨b,0,none⟩),.int .i64 p] w (zar B b d0 d1 d2 d3 vS vD (bs++ziu (inT S D f p)) w)
 |0,p,bs,w,hp,hf,hb,h,hl=>by exfalso;omega
 |f+1,p,bs,w,hp,hf,hb,h,hl=>by
  refine zt2 B b d0 d1 d2 d3 S D vS vD f p bs w0 w hw0 hb hS hD hg hv h hl hDl hSl fun i bs' W hi hpi hbW hW hlW=>?_;have:=(hF i hi).2;exact zt1 B b d0 d1 d2 d3 S D vS vD w0 hw0 hS hD hg hv hF hDl hSl f (i:Int) bs' W (by omega) (by omega) hbW hW hlW
def zk9 (d:DD):List (Bs×Bs):=[(znt,d.dt),(znD,d.vn),(zns,d.cm),(znB,znQ d.sc)]
def zla (d:DD) (k:Nat):Bs:=ziu (((zk9 d).take k).flatMap fun x=>optT x.1 x.2)
theorem zld (d:DD) {k:Nat} (hk:k<(zk9 d).length):zla d (k+1)=zla d k++if(zk9 d)[k].2=[]then []else ziq [(zk9 d)[k].1,(zk9 d)[k].2]:=by
 unfold zla;rw[List.take_succ_eq_append_getElem hk,List.flatMap_append,ziv];congr 1
 simp only[List.flatMap_cons,List.flatMap_nil,List.append_nil];unfold optT;by_cases h:(zk9 d)[k].2=[]
 ·rw[if_pos h,if_pos h];rfl
 ·rw[if_neg h,if_neg h];simp[ziu];rfl
theorem zlb (d:DD) {k:Nat} {kx tx:Bs} (hx:(zk9 d)[k]? =some (kx,tx)):zla d (k+1)=zla d k++if tx=[]then []else ziq [kx,tx]:=by
 obtain⟨hk,hx'⟩:=List.getElem?_eq_some_iff.1 hx;have:=zld d hk;rw[hx']at this;exact this
theorem zlc (d:DD) (k:Nat):(zla d k).length≤(zla d 4).length:=by
 have h4:zla d 4=ziu ((zk9 d).flatMap fun x=>optT x.1 x.2):=rfl;rw[h4];conv=>rhs;rw[←List.take_append_drop k (zk9 d)]
 unfold zla;rw[List.flatMap_append,ziv,List.length_append];omega
theorem zfB (d:DD):fmtD d=zla d 4++ziu (inT d.S d.D (d.S.length+1) (-1))++ziq [zny]:=by
 unfold fmtD zit
 have h4:zla d 4=ziu (optT znt d.dt++(optT znD d.vn++(optT zns d.cm++optT znB (znQ d.sc)))):=by
  unfold zla zk9;simp
 rw[h4];simp only[ziv,List.append_assoc];simp[ziu];rfl
theorem zec (d:DD) (vS vD:Value) (w:World) (hG:Glob w) (hS:SlR w vS d.S.length (scs d.S)) (hD:SlR w vD d.D.length (dcls d.D)) (hv:∀x∈d.D,WV x) (hF:Fst (parS d.S) d.S.length) (hDl:d.D.length≤1000) (hSl:d.S.length≤1000) (hl:(fmtD d).length≤1000000000)
 (hV:∀W,Below w.heap.size w W→Calls Tryz.prog 47 #[.agg #[.int .i64 d.sc,.string (bsB d.dt),.string (bsB d.vn),.string (bsB d.cm),vS,vD]] W fun e w'=>e=.returned (.bool true)∧Below W.heap.size W w'):
 Calls Tryz.prog 25 #[.agg #[.int .i64 d.sc,.string (bsB d.dt),.string (bsB d.vn),.string (bsB d.cm),vS,vD]] w fun e w'=>e=.returned (.string (bsB (fmtD d)))∧Below w.heap.size w w':=by
 obtain⟨aS,cS,rfl,-,-⟩:=hS.shape;obtain⟨aD,cD,rfl,-,-⟩:=hD.shape;have HSS:=lhd hS;have HSD:=lhd hD;have HG:=lhd hG;have HV:=lhd hV;have HL:=lhd hl;have HWV:=lhd hv;have HF:=lhd hF;have hal:Below w.heap.size w (w.alloc (.cells #[.int .i64 d.sc,.string (bsB d.dt),.string (bsB d.vn),.string (bsB d.cm),.slice aS d.S.length cS,.slice aD d.D.length cD] 40)):=(Below.refl _ _).alloc (Nat.le_refl _) _;have HB1:=lhd hal;have HK1:=lhd (heap_alloc_new w (.cells #[.int .i64 d.sc,.string (bsB d.dt),.string (bsB d.vn),.string (bsB d.cm),.slice aS d.S.length cS,.slice aD d.D.length cD] 40));clear hS hD hG hV hl hv hF hal;go_enter Tryz.func25,Tryz.ntmps25;go_wp2_with fail;refine(HV.out _ HB1.out).mono ?_;rintro e w1 ⟨rfl,hb1⟩;have HB2:=lhd (zfj HB1.out hb1);have HK2:=lhd ((hb1.block w.heap.size (by simp)).trans HK1.out);have hz1:w.heap.size<w1.heap.size:=by have:=hb1.size;simp at this;omega
 clear hb1
 have q0:∀V:World,V.heap[w.heap.size]? =some (.cells #[.int .i64 d.sc,.string (bsB d.dt),.string (bsB d.vn),.string (bsB d.cm),.slice aS d.S.length cS,.slice aD d.D.length cD] 40 (0,0))→V.cell? ⟨w.heap.size,0,none⟩=some (.int .i64 d.sc)∧V.cell? ⟨w.heap.size,1,none⟩=some (.string (bsB d.dt))∧V.cell? ⟨w.heap.size,2,none⟩=some (.string (bsB d.vn))∧V.cell? ⟨w.heap.size,3,none⟩=some (.string (bsB d.cm))∧V.cell? ⟨w.heap.size,4,none⟩=some (.slice aS d.S.length cS)∧V.cell? ⟨w.heap.size,5,none⟩=some (.slice aD d.D.length cD):=
  fun V h=>⟨by rw[Lib.cell_of_heap h];rfl,by rw[Lib.cell_of_heap h];rfl,by rw[Lib.cell_of_heap h];rfl,by rw[Lib.cell_of_heap h];rfl,by rw[Lib.cell_of_heap h];rfl,by rw[Lib.cell_of_heap h];rfl⟩
 have HQ:=lhd q0;clear q0;obtain⟨e0,e1,e2,e3,e4,e5⟩:=HQ.out _ HK2.out;go_upto_region 4 with fail;have hbw:Below w1.heap.size w1 (w1.alloc (.cells #[.int .i64 d.sc,.string (bsB d.dt),.string (bsB d.vn),.string (bsB d.cm),.slice aS d.S.length cS,.slice aD d.D.length cD,.pointer none,.slice none 0 0] 103)):=(Below.refl _ _).alloc (Nat.le_refl _) _;have HB3:=lhd (zfj HB2.out hbw);have HK3:=lhd ((hbw.block w.heap.size hz1).trans HK2.out)
 have HW3:=lhd (show WrI w.heap.size w1.heap.size (.int .i64 d.sc) (.string (bsB d.dt)) (.string (bsB d.vn)) (.string (bsB d.cm)) (.slice aS d.S.length cS) (.slice aD d.D.length cD) (Lib.byteCells []) (w1.alloc (.cells #[.int .i64 d.sc,.string (bsB d.dt),.string (bsB d.vn),.string (bsB d.cm),.slice aS d.S.length cS,.slice aD d.D.length cD,.pointer none,.slice none 0 0] 103))from
  .inl ⟨Nat.le_of_lt hz1,.slice none 0 0,heap_alloc_new _ _,⟨by simp[Lib.byteCells],.inl ⟨rfl,rfl⟩⟩⟩)
 generalize w1.alloc (.cells #[.int .i64 d.sc,.string (bsB d.dt),.string (bsB d.vn),.string (bsB d.cm),.slice aS d.S.length cS,.slice aD d.D.length cD,.pointer none,.slice none 0 0] 103)=w2 at*;clear e0 e1 e2 e3 e4 e5 hbw;have HSV:=lhd (fun(V:World) (hV:Below w2.heap.size w2 V)=>HQ.out V ((hV.block w.heap.size (by have:=(Array.getElem?_eq_some_iff.1 HK3.out).1;exact this)).trans HK3.out));have hbq:Below w2.heap.size w2 w2.drew:=(Below.refl _ _).drew;refine wp_region_held_drew (S:=fun V=>V.cell? ⟨w.heap.size,0,none⟩=some (.int .i64 d.sc)∧V.cell? ⟨w.heap.size,1,none⟩=some (.string (bsB d.dt))∧V.cell? ⟨w.heap.size,2,none⟩=some (.string (bsB d.vn))∧V.cell? ⟨w.heap.size,3,none⟩=some (.string (bsB d.cm))∧V.cell? ⟨w.heap.size,4,none⟩=some (.slice aS d.S.length cS)∧V.cell? ⟨w.heap.size,5,none⟩=some (.slice aD d.D.length cD)) (by kernel_rfl) (HSV.out _ hbq) (fun hHeld=>?_);refine tkH 0 hHeld (v:=?_) ?_;simp only[tkS];refine tkH 1 hHeld (v:=?_) ?_;simp only[tkS];refine tkH 2 hHeld (v:=?_) ?_;simp only[tkS];refine tkH 3 hHeld (v:=?_) ?_;simp only[tkS];refine tkH 4 hHeld (v:=?_) ?_;simp only[tkS];refine tkH 5 hHeld (v:=?_) ?_;simp only[tkS];refine tkH 6 hHeld (v:=?_) ?_;simp only[tkS];refine tkH 7 hHeld (v:=?_) ?_;simp only[tkS];refine tkH 8 hHeld (v:=?_) ?_;simp only[tkS];refine tkH 9 hHeld (v:=?_) ?_;simp only[tkS];refine tkH 10 hHeld (v:=?_) ?_;simp only[tkS];refine tkH 15 hHeld (v:=?_) ?_;simp only[tkS];generalize w2.drew=wC at*;refine oneH 11 (fun K hK=>?_);go_simp;refine(zra d.sc wC (HG.out.below (zfj HB3.out hbq))).mono ?_;rintro e w5 ⟨rfl,hb5⟩;have hbq:=zfj hbq hb5;clear hHeld hb5;go_wp2_with fail;refine hK.out _ _ (HSV.out _ hbq) (fun hHeld=>?_);clear hK;try simp only[tkS]
 refine tkH 12 hHeld (v:=?_) ?_;simp only[tkS];refine oneH 13 (fun K hK=>?_);go_simp;have hal6:Below w5.heap.size w5 (w5.alloc (.cells #[.string ⟨#[36,100,97,116,101]⟩,.string (bsB d.dt),.string ⟨#[36,118,101,114,115,105,111,110]⟩,.string (bsB d.vn),.string ⟨#[36,99,111,109,109,101,110,116]⟩,.string (bsB d.cm),.string ⟨#[36,116,105,109,101,115,99,97,108,101]⟩,.string (bsB (znQ d.sc))] 104)):=(Below.refl _ _).alloc (Nat.le_refl _) _;have hbq:=zfj hbq hal6;have HB6:=lhd (zfj HB3.out hbq);have HW6:=lhd (HW3.out.below hbq);have HR6:=lhd (heap_alloc_new w5 (.cells #[.string ⟨#[36,100,97,116,101]⟩,.string (bsB d.dt),.string ⟨#[36,118,101,114,115,105,111,110]⟩,.string (bsB d.vn),.string ⟨#[36,99,111,109,109,101,110,116]⟩,.string (bsB d.cm),.string ⟨#[36,116,105,109,101,115,99,97,108,101]⟩,.string (bsB (znQ d.sc))] 104));refine hK.out _ _ (HSV.out _ hbq) (fun hHeld=>?_);clear hK;try simp only[tkS]
 generalize w5.alloc (.cells #[.string ⟨#[36,100,97,116,101]⟩,.string (bsB d.dt),.string ⟨#[36,118,101,114,115,105,111,110]⟩,.string (bsB d.vn),.string ⟨#[36,99,111,109,109,101,110,116]⟩,.string (bsB d.cm),.string ⟨#[36,116,105,109,101,115,99,97,108,101]⟩,.string (bsB (znQ d.sc))] 104)=w6 at*;refine tkH 14 hHeld (v:=?_) ?_;simp only[tkS];refine wpAnyH_done (by kernel_rfl) ?_ _;clear hHeld hal6 hbq;go_wp2_with fail;obtain⟨r,hr⟩:∃r,r=w5.heap.size:=⟨_,rfl⟩;rw[←hr]at HR6⊢;clear hr;go_loopw [27] (fun i wr=>∃k:Nat,k≤4∧i=.int .i64 k∧WrI w.heap.size w1.heap.size (.int .i64 d.sc) (.string (bsB d.dt)) (.string (bsB d.vn)) (.string (bsB d.cm)) (.slice aS d.S.length cS) (.slice aD d.D.length cD) (Lib.byteCells (zla d k)) wr∧KW w.heap.size w6 wr∧Below w.heap.size w wr) (fun i _=>4-(intOf i).toNat)
 case atStart=>exact⟨0,Nat.zero_le _,rfl,HW6.out,KW.refl _ _,HB6.out⟩
 case round=>
  obtain⟨k,hk,rfl,hwr,hkw,hbr⟩:=hrel;have HWR:=lhd hwr;have HKW:=lhd hkw;have HBR:=lhd hbr;clear hwr hkw hbr;by_cases hlt:k<4
  ·have hkr:=HKW.out.keep _ _ HR6.out (fun C T fr e=>by injection e with _ e _;subst e;decide)
   obtain⟨kx,tx,hx,e0,e1⟩:∃kx tx,(zk9 d)[k]? =some (kx,tx)∧wr.cell? ⟨r,k*2,none⟩=some (.string (bsB kx))∧wr.cell? ⟨r,k*2+1,none⟩=some (.string (bsB tx)):=by
    have h4:k=0∨k=1∨k=2∨k=3:=by omega
    rcases h4 with rfl|rfl|rfl|rfl<;>exact⟨_,_,rfl,by rw[Lib.cell_of_heap hkr];rfl,by rw[Lib.cell_of_heap hkr];rfl⟩
   have HST:=lhd (zlb d hx);have HLE:=lhd (zlc d (k+1));clear hx hkr;have hbB:Below wr.heap.size wr (wr.alloc (.cells #[.string (bsB kx),.string (bsB tx)] 104)):=(Below.refl _ _).alloc (Nat.le_refl _) _;have HWB:=lhd (HWR.out.below hbB);have HKB:=lhd (HKW.out.trans (KW.of_below hbB HBR.out.size));have HBB:=lhd (zfj HBR.out hbB);have HXB:=lhd (heap_alloc_new wr (.cells #[.string (bsB kx),.string (bsB tx)] 104));clear hbB;by_cases ht:tx=[]
   ·have hb:(bsB tx).toList.isEmpty=true:=by rw[zbp,decide_eq_true ht]
    have HS2:=lhd (show zla d (k+1)=zla d k by rw[HST.out,if_pos ht,List.append_nil]);clear HST ht;go_wp2_with fail;go_roundw;case rel=>exact⟨k+1,hlt,by go_num,by rw[HS2.out];exact HWB.out,HKB.out,HBB.out⟩
    case measure=>simp[intOf];omega
   ·have hb:(bsB tx).toList.isEmpty=false:=by rw[zbp,decide_eq_false ht]
    have HS2:=lhd (show zla d (k+1)=zla d k++ziq [kx,tx]by rw[HST.out,if_neg ht]);clear HST ht;go_wp2_with fail
    refine(zt0 w.heap.size w1.heap.size _ _ _ _ _ _ (zla d k) wr.heap.size #[.string (bsB kx),.string (bsB tx)] 104 [kx,tx] _ HWB.out HXB.out rfl (by simp) (by
     have h1:=congrArg List.length HS2.out;have h2:=HLE.out;have h3:=HL.out;rw[zfB]at h3;simp only[List.length_append]at h1 h3⊢;omega) HBB.out.size).mono ?_
    rintro e w7 ⟨rfl,h7,k7⟩;have HW7:=lhd h7;have HK7:=lhd (HKB.out.trans k7);have HB7:=lhd (HBB.out.trans k7.b);clear h7 k7;go_wp2_with fail;go_roundw;case rel=>exact⟨k+1,hlt,by go_num,by rw[HS2.out];exact HW7.out,HK7.out,HB7.out⟩
    case measure=>simp[intOf];omega
  ·obtain rfl:k=4:=by omega
   have HLN:=lhd (show(zla d 4).length+((ziu (inT d.S d.D (d.S.length+1) (-1))).length+(ziq [zny]).length)≤1000000000 by
    have:=HL.out;rw[zfB]at this;simp only[List.length_append]at this;omega)
   go_wp2_with fail;refine(zt1 w.heap.size w1.heap.size _ _ _ _ d.S d.D _ _ w rfl HSS.out HSD.out HG.out HWV.out HF.out hDl hSl (d.S.length+1) (-1) (zla d 4) wr (by omega) (by omega) HBR.out HWR.out (by have:=HLN.out;omega)).mono ?_;rintro e w10 ⟨rfl,h10,k10⟩;have HW10:=lhd h10;have HB10:=lhd (HBR.out.trans k10.b);have hal:Below w10.heap.size w10 (w10.alloc (.cells #[.string ⟨#[36,101,110,100,100,101,102,105,110,105,116,105,111,110,115]⟩] 9)):=(Below.refl _ _).alloc (Nat.le_refl _) _;have HO11:=lhd (zlF (w:=w10) (B:=w.heap.size) (C:=#[.string ⟨#[36,101,110,100,100,101,102,105,110,105,116,105,111,110,115]⟩]) (n:=1) HB10.out.size rfl (by omega));have HW11:=lhd (HW10.out.below hal);have HB11:=lhd (zfj HB10.out hal);clear h10 k10 hal;go_wp2_with fail;refine(ztZ w.heap.size w1.heap.size _ _ _ _ _ _ _ _ [zny] _ HW11.out HO11.out (by simp) (by have:=HLN.out;simp only[List.length_append]at this⊢;omega) HB11.out.size).mono ?_;rintro e w12 ⟨rfl,h12,k12⟩;rw[←zfB]at h12;have HW12:=lhd h12;have HB12:=lhd (HB11.out.trans k12.b)
   have hne:fmtD d≠ []:=by
    intro h;rw[zfB]at h;have:=congrArg List.length h;simp[ziq]at this
   clear h12 k12;go_wp2_with fail;refine(ztU w.heap.size w1.heap.size _ _ _ _ _ _ _ w12 HW12.out hne).mono ?_;rintro e w13 ⟨rfl,hb13⟩;have HB13:=lhd (HB12.out.trans hb13);clear hb13;go_wp2_with fail;exact bodyPost_ret (v:=.string (bsB (fmtD d))) (by simp[results,Tryz.results25,go_sem]) rfl ⟨rfl,HB13.out⟩
theorem zhO:∀l:List Bs,(joinL l).length≤(l.map fun x=>x.length+1).sum
 | []=>Nat.le_refl _
 | [w]=>by simp[joinL]
 |w::x::l=>by
  rw[zhN,List.length_append,List.length_cons,List.map_cons,List.sum_cons];have:=zhO (x::l);omega
theorem zog (ws:List Bs):(secT ws).length≤(ws.map fun x=>x.length+1).sum+5:=by
 unfold secT;have:=zhO (ws++ [sEnd]);rw[List.map_append,List.sum_append]at this;exact this
theorem zjg {l:List Bs} {m:Nat} (h:∀x∈l,x.length≤m) (t:Int):(zjf l t).length≤m:=by
 unfold zjf;split
 ·exact Nat.zero_le _
 ·by_cases ht:t.toNat<l.length
  ·rw[List.getD_eq_getElem?_getD,List.getElem?_eq_getElem ht];exact h _ (List.getElem_mem ht)
  ·rw[List.getD_eq_getElem?_getD,List.getElem?_eq_none (by omega)];exact Nat.zero_le _
theorem zjj {s:Bs} (h:zjh s=true):s.length≤32:=by
 unfold zjh at h;rw[Bool.and_eq_true,Bool.and_eq_true,Bool.and_eq_true]at h;exact of_decide_eq_true h.1.1.2
theorem zcR {s:Bs} (h:codeOk s=true):s.length≤8:=by
 unfold codeOk at h;rw[Bool.and_eq_true,Bool.and_eq_true,Bool.and_eq_true]at h;exact of_decide_eq_true h.1.1.2
theorem zbk {n:Int} (h:zbj n=true): -32768≤n∧n≤32768:=by
 unfold zbj at h;rw[Bool.and_eq_true]at h;exact⟨of_decide_eq_true h.1,of_decide_eq_true h.2⟩
theorem zqg {n:Nat} {x:Dcl} (h:VV n x):1≤szD x∧szD x≤128:=by
 unfold szD;by_cases hk:x.kind=0
 ·rw[if_pos hk];exact h.w0 hk
 ·rw[if_neg hk];split<;>omega
theorem ztp {n:Nat} {x:Dcl} (h:VV n x):WV x where
 nm:=h.nm
 rg hr:=⟨(h.r1 hr).2.1,(h.r1 hr).2.2.1⟩
 sz:=by have:=zqg h;omega
 wd:=by
  by_cases hk:x.kind=0
  ·have:=h.w0 hk;omega
  ·rw[h.w1 hk];exact Int.le_refl _
theorem zna {n:Nat} {x:Dcl} (h:VV n x):(refT x).length≤300:=by
 unfold refT;have h1:=zhO (refW x);have h2:=zjj h.nm;unfold refW at h1⊢;by_cases hr:x.rg=true
 ·rw[if_pos hr]at h1⊢;have b1:=zbk (h.r1 hr).2.1;have b2:=zbk (h.r1 hr).2.2.1;have i1:=zhy x.mb (by omega);have i2:=zhy x.lb (by omega)
  have h3:(rngT x.mb x.lb).length≤203:=by
   unfold rngT;split<;>simp only[List.length_cons,List.length_append,List.length_nil]<;>omega
  simp only[List.map_cons,List.map_nil,List.sum_cons,List.sum_nil]at h1;omega
 ·rw[if_neg hr]at h1⊢;simp only[List.map_cons,List.map_nil,List.sum_cons,List.sum_nil]at h1;omega
theorem zsJ {n:Nat} {x:Dcl} (h:VV n x):(varT x).length≤1000:=by
 unfold varT;have h1:=zog [sVar,zjf varW x.ty,Lib.itoa (szD x),x.code,refT x];have h2:=zjg (l:=varW) (m:=9) (by decide) x.ty;have h3:=zqg h;have h4:=zhy (szD x) (by omega);have h5:=zcR h.cd;have h6:=zna h;have h7:sVar.length=4:=rfl;simp only[List.map_cons,List.map_nil,List.sum_cons,List.sum_nil]at h1;omega
theorem zn9 {s:Sc} (h:zjh s.1=true):(zn7 s).length≤1000:=by
 unfold zn7;have h1:=zog [znA,zjf zn8 s.2.1,s.1];have h2:=zjg (l:=zn8) (m:=9) (by decide) s.2.1;have h3:=zjj h;have h4:znA.length=6:=rfl;simp only[List.map_cons,List.map_nil,List.sum_cons,List.sum_nil]at h1;omega
theorem ztC {s:Bs} (h:ztA s=true):s.length≤200:=by
 unfold ztA at h;rw[Bool.or_eq_true]at h;rcases h with h|h
 ·rw[of_decide_eq_true h];exact Nat.zero_le _
 ·rw[Bool.and_eq_true]at h;exact of_decide_eq_true h.2
theorem zk8 {k t:Bs} (hk:k.length≤20) (ht:t.length≤200):∀x∈optT k t,x.length≤1000:=by
 unfold optT;intro x hx;split at hx
 ·cases hx
 ·obtain rfl:=List.mem_singleton.1 hx;have h1:=zog [k,t];simp only[List.map_cons,List.map_nil,List.sum_cons,List.sum_nil]at h1;omega
theorem zk7 (k t:Bs):(optT k t).length≤1:=by
 unfold optT;split<;>simp
theorem znS {n:Int} (h: -15≤n∧n≤2):(znQ n).length≤200:=by
 have:∀k:Fin 18,(znQ ((k:Int)-15)).length≤200:=by decide+kernel
 have h1:=this ⟨(n+15).toNat,by omega⟩;dsimp only at h1;rwa [show(((n+15).toNat:Nat):Int)-15=n by omega]at h1
theorem zgW (S:List Sc) (D:List Dcl):∀(f:Nat) (p:Int),(inT S D f p).length≤(pre (parS S) S.length f p).length*(D.length+2)+D.length
 |0,_=>Nat.zero_le _
 |f+1,p=>by
  rw[zmv];show((D.filter fun x=>decide (x.sc=p)).map varT++(List.range S.length).flatMap fun i=>if parS S i=p then zn7 (S.getD i ([],0,0))::(inT S D f i++ [secT [znC]])else []).length≤_;rw[List.length_append,List.length_map];have h1:(D.filter fun x=>decide (x.sc=p)).length≤D.length:=List.length_filter_le _ _
  have key:∀l:List Nat,(l.flatMap fun i=>if parS S i=p then zn7 (S.getD i ([],0,0))::(inT S D f i++ [secT [znC]])else []).length≤(l.flatMap fun i=>if parS S i=p then i::pre (parS S) S.length f i else []).length*(D.length+2):=fun l=>by
   induction l with
   |nil=>exact Nat.zero_le _
   |cons i l ih=>
    rw[List.flatMap_cons,List.flatMap_cons,List.length_append,List.length_append,Nat.add_mul];refine Nat.add_le_add ?_ ih;by_cases hp:parS S i=p
    ·rw[if_pos hp,if_pos hp];have:=zgW S D f i;simp only[List.length_cons,List.length_append,List.length_nil];rw[Nat.add_mul];omega
    ·rw[if_neg hp,if_neg hp];exact Nat.zero_le _
  have:=key (List.range S.length);omega
theorem zgX {S:List Sc} {D:List Dcl} {m:Nat} (hS:∀s∈S,zjh s.1=true) (hD:∀x∈D,VV m x):∀(f:Nat) (p:Int),∀y∈inT S D f p,y.length≤1000
 |0,_,y,hy=>by cases hy
 |f+1,p,y,hy=>by
  rw[show inT S D (f+1) p=(D.filter fun x=>decide (x.sc=p)).map varT++(List.range S.length).flatMap fun i=>if parS S i=p then zn7 (S.getD i ([],0,0))::(inT S D f i++ [secT [znC]])else []from rfl]at hy;rcases List.mem_append.1 hy with hy|hy
  ·obtain⟨x,hx,rfl⟩:=List.mem_map.1 hy;exact zsJ (hD x (List.mem_filter.1 hx).1)
  ·obtain⟨i,hi,hy⟩:=List.mem_flatMap.1 hy;have hi:=List.mem_range.1 hi;split at hy
   ·rcases List.mem_cons.1 hy with rfl|hy
    ·rw[List.getD_eq_getElem?_getD,List.getElem?_eq_getElem hi];exact zn9 (hS _ (List.getElem_mem hi))
    ·rcases List.mem_append.1 hy with hy|hy
     ·exact zgX hS hD f i y hy
     ·obtain rfl:=List.mem_singleton.1 hy;decide
   ·cases hy
theorem ziz:∀{L:List Bs},(∀x∈L,x.length≤1000)→(ziu L).length≤L.length*1001
 | [],_=>Nat.zero_le _
 |x::L,h=>by
  rw[ziw,List.length_append,List.length_cons];have h1:=h x List.mem_cons_self;have h2:=ziz (L:=L) fun y hy=>h y (List.mem_cons_of_mem _ hy);have h3:(zir x).length=x.length+1:=by unfold zir;simp
  omega
theorem zfI {d:DD} (h:VD d):(fmtD d).length≤1000000000:=by
 have hc:(zit d).length≤10000:=by
  unfold zit;have h1:=zgW d.S d.D (d.S.length+1) (-1);rw[zmo h.sf]at h1;have h2:=zk7 znt d.dt;have h3:=zk7 znD d.vn;have h4:=zk7 zns d.cm;have h5:=zk7 znB (znQ d.sc);have h6:d.S.length*(d.D.length+2)≤32*130:=Nat.mul_le_mul h.sn (by have:=h.dn;omega);have h7:=h.dn;simp only[List.length_append,List.length_cons,List.length_nil];omega
 have hl:=ziz (L:=zit d) fun x hx=>by
  unfold zit at hx;simp only[List.mem_append,List.mem_singleton]at hx;rcases hx with hx|hx|hx|hx|hx|rfl
  ·exact zk8 (by decide) (ztC h.dt) x hx
  ·exact zk8 (by decide) (ztC h.vn) x hx
  ·exact zk8 (by decide) (ztC h.cm) x hx
  ·exact zk8 (by decide) (znS h.sc) x hx
  ·exact zgX (fun s hs=>(h.sm s hs).1) h.dv _ _ x hx
  ·decide
 unfold fmtD;omega
def zfF (d:DD):Bs:=if validD d=true then fmtD d else []
structure DOk (d:DD):Prop where
 l:d.S.length≤1000∧d.D.length≤1000
 t:d.dt.length≤100000∧d.vn.length≤100000∧d.cm.length≤100000
 n:(∀s∈d.S,s.1.length≤100000)∧∀x∈d.D,x.nm.length≤100000∧x.code.length≤140737488351232
theorem zed (d:DD) (vS vD:Value) (w:World) (hG:Glob w) (hM:Glm w) (hS:SlR w vS d.S.length (scs d.S)) (hD:SlR w vD d.D.length (dcls d.D)) (ho:DOk d):
 Calls Tryz.prog 25 #[ddV d vS vD] w fun e w'=>e=.returned (.string (bsB (zfF d)))∧Below w.heap.size w w':=by
 have HV:=lhd (fun W (hW:Below w.heap.size w W)=>zel d vS vD W (hG.below hW) (hM.below hW) (hS.below hW) (hD.below hW) ho.l ho.t ho.n);by_cases hv:validD d=true
 ·have hd:=zsA.1 hv;rw[show zfF d=fmtD d from if_pos hv];refine zec d vS vD w hG hS hD (fun x hx=>ztp (hd.dv x hx)) hd.sf ho.l.2 ho.l.1 (zfI hd) fun W hW=>?_;have:=HV.out W hW;rwa [hv]at this
 ·have hv:validD d=false:=by simpa using hv
  have HF:=lhd (show zfF d=[]from if_neg (by rw[hv];simp));obtain⟨aS,cS,rfl,-,-⟩:=hS.shape;obtain⟨aD,cD,rfl,-,-⟩:=hD.shape;have hal:Below w.heap.size w (w.alloc (.cells #[.int .i64 d.sc,.string (bsB d.dt),.string (bsB d.vn),.string (bsB d.cm),.slice aS d.S.length cS,.slice aD d.D.length cD] 40)):=(Below.refl _ _).alloc (Nat.le_refl _) _;have HB1:=lhd hal;have hc:=HV.out _ hal;rw[hv]at hc;have HC:=lhd hc;have hx:=zan.fresh w #[.int .i64 d.sc,.string (bsB d.dt),.string (bsB d.vn),.string (bsB d.cm),.slice aS d.S.length cS,.slice aD d.D.length cD] 40;have x0:=hx.cell (j:=0) rfl;have x1:=hx.cell (j:=1) rfl;have x2:=hx.cell (j:=2) rfl;have x3:=hx.cell (j:=3) rfl;have x4:=hx.cell (j:=4) rfl;have x5:=hx.cell (j:=5) rfl;clear hG hM hS hD ho HV hv hal hc hx;go_enter Tryz.func25,Tryz.ntmps25;go_wp2_with fail;refine HC.out.mono ?_;rintro e w1 ⟨rfl,hb1⟩;go_wp2_with fail;go_ret;exact⟨by rw[HF.out];rfl,zfj HB1.out hb1⟩
theorem zcH (n:Int):(zcG n).length≤3:=by
 unfold zcG;split
 ·simp
 split
 ·simp
 split
 ·simp
 split<;>simp
theorem ztk {k n:Int} {v:ByteArray} (h:vv k n v=true):v.data.toList.length≤128:=by
 have h1:bsB v.data.toList=v:=zbs v;rw[←h1]at h;exact ztl h
theorem zrI {f:Nat→Sg→List Rc} {G:List Sg} {r:Rc} (h:r∈upX f G G.length):∃n,∃s∈G,r∈f n s:=by
 unfold upX at h;obtain⟨n,hn,hr⟩:=List.mem_flatMap.1 h;have hn:=List.mem_range.1 hn;rw[List.getD,List.getElem?_eq_getElem hn]at hr;exact⟨n,G[n],List.getElem_mem hn,hr⟩
theorem zaU {k n x:Int} {l:List Ch} (h:sv k n l=true) (h0:0≤x) (h1:x≤1099511627776):(atR k n l x).1.data.toList.length≤128:=by
 rw[zaV h h0 h1];exact zsc (fun v=>v.data.toList.length≤128) (ztk (ztn (zp6.1 h).1)) (fun c hc=>ztk (zp7 h c hc).2.2)
def Shrt (r:Rc):Prop:=r.2.2.1.length≤3∧r.2.2.2.length≤128
theorem zbZ {n:Nat} {v:ByteArray} (h:v.data.toList.length≤128):Shrt (chE n v):=⟨zcH n,h⟩
theorem zty {k n x y:Int} {l:List Ch} {c:Ch} (h:c∈winR k n l x y):c∈l:=by
 unfold winR at h;split at h
 ·cases h
 split at h
 ·cases h
 ·exact List.mem_of_mem_take (List.mem_of_mem_drop h)
theorem ziY {t:Tr} {x:Int} (h:ValidT t) (h0:0≤x) (h1:x≤1099511627776):∀r∈momE t x,Shrt r:=by
 intro r hr;have he:∀a b:Int,Shrt (a,b,[],[]):=fun a b=>⟨by simp,by simp⟩;unfold momE at hr;rcases List.mem_cons.1 hr with rfl|hr
 ·exact he _ _
 rcases List.mem_append.1 hr with hr|hr
 ·split at hr
  ·rcases List.mem_cons.1 hr with rfl|hr
   ·exact he _ _
   ·obtain⟨n,s,hs,hr⟩:=zrI hr;unfold p1E at hr;split at hr
    ·cases hr
    split at hr
    ·obtain rfl:=List.mem_singleton.1 hr;exact zbZ (ztk (ztn (zp6.1 (h.s s hs)).1))
    ·obtain rfl:=List.mem_singleton.1 hr;exact zbZ (zaU (h.s s hs) (Int.le_refl _) (by decide))
  ·cases hr
 rcases List.mem_append.1 hr with hr|hr
 ·split at hr
  ·rcases List.mem_cons.1 hr with rfl|hr
   ·exact he _ _
   ·obtain⟨n,s,hs,hr⟩:=zrI hr;unfold p2E at hr;split at hr
    ·obtain rfl:=List.mem_singleton.1 hr;exact zbZ (zaU (h.s s hs) h0 h1)
    ·cases hr
  ·cases hr
 rcases List.mem_append.1 hr with hr|hr
 ·obtain⟨n,s,hs,hr⟩:=zrI hr;unfold p3E at hr;split at hr
  ·cases hr
  ·rename_i c l hw
   split at hr
   ·obtain rfl:=List.mem_singleton.1 hr;exact zbZ (ztk (zp7 (h.s s hs) c (zty (k:=s.1) (n:=s.2.1) (x:=x) (y:=x) (by rw[hw];simp))).2.2)
   ·cases hr
 ·split at hr
  ·obtain rfl:=List.mem_singleton.1 hr;exact he _ _
  ·cases hr
theorem zm8 {t:Tr} (h:ValidT t):∀r∈zm1 t,r.2.2.1.length≤1000∧r.2.2.2.length≤1000:=by
 intro r hr;unfold zm1 at hr;obtain⟨x,hx,hr⟩:=List.mem_flatMap.1 hr;obtain⟨h0,h1⟩:=zqN h x hx;have:=ziY h h0 (Int.le_trans h1 h.t.hi) r hr;unfold Shrt at this;omega
def zff (t:Tr):Bs×Int:=
 if zsv t=true then(if 16384<(zfF (decE t)++zfM cv ((decE t).D.map Dcl.dc) (zm1 t)).length then([],9)else(zfF (decE t)++zfM cv ((decE t).D.map Dcl.dc) (zm1 t),0))else([],1)
end Go.Proofs.YtfppgpamkdkckaaGreatDoor
