import Derived.Test.YtcdekelomkcahaaGreatDoorZ00
import Derived.Test.YtcdekelomkcahaaGreatDoorZ33
set_option maxRecDepth 100000
set_option maxHeartbeats 16000000
namespace Go.Proofs.YtcdekelomkcahaaGreatDoor
open Go.RowKit
set_option linter.unusedSimpArgs false
theorem zqv (B b:Nat) (d0 d1 d2 d3:Value) (S:List Sc) (D:List Dcl) (vS vD:Value) (w0:World) (hw0:B=w0.heap.size) (hS:SlR w0 vS S.length (scs S)) (hD:SlR w0 vD D.length (dcls D)) (hg:Glob w0) (hv:∀x∈D,WV x) (hF:Fst (parS S) S.length) (hDl:D.length≤1000) (hSl:S.length≤1000):
 ∀(f:Nat) (p:Int) (bs:Bs) (w:World),p<(S.length:Int)→(S.length:Int)-p≤(f:Int)→Below B w0 w→WrI B b d0 d1 d2 d3 vS vD (Lib.byteCells bs) w→bs.length+(zgS (inT S D f p)).length≤1000000000→
  Calls Tryz.prog 40 #[.pointer (some ⟨b,0,none⟩),.int .i64 p] w (zaw B b d0 d1 d2 d3 vS vD (bs++zgS (inT S D f p)) w)
 |0,p,bs,w,hp,hf,hb,h,hl=>by exfalso;omega
 |f+1,p,bs,w,hp,hf,hb,h,hl=>by
  refine zqw B b d0 d1 d2 d3 S D vS vD f p bs w0 w hw0 hb hS hD hg hv h hl hDl hSl fun i bs' W hi hpi hbW hW hlW=>?_;have:=(hF i hi).2;exact zqv B b d0 d1 d2 d3 S D vS vD w0 hw0 hS hD hg hv hF hDl hSl f (i:Int) bs' W (by omega) (by omega) hbW hW hlW
def zi1 (d:DD):List (Bs×Bs):=[(zlw,d.dt),(zlF,d.vn),(zlv,d.cm),(zlD,zlU d.sc)]
def zi2 (d:DD) (k:Nat):Bs:=zgS (((zi1 d).take k).flatMap fun x=>optT x.1 x.2)
theorem zi5 (d:DD) {k:Nat} (hk:k<(zi1 d).length):zi2 d (k+1)=zi2 d k++if(zi1 d)[k].2=[]then []else zgL [(zi1 d)[k].1,(zi1 d)[k].2]:=by
 unfold zi2;rw[List.take_succ_eq_append_getElem hk,List.flatMap_append,zgT];congr 1
 simp only[List.flatMap_cons,List.flatMap_nil,List.append_nil];unfold optT;by_cases h:(zi1 d)[k].2=[]
 ·rw[if_pos h,if_pos h];rfl
 ·rw[if_neg h,if_neg h];simp[zgS];rfl
theorem zi3 (d:DD) {k:Nat} {kx tx:Bs} (hx:(zi1 d)[k]? =some (kx,tx)):zi2 d (k+1)=zi2 d k++if tx=[]then []else zgL [kx,tx]:=by
 obtain⟨hk,hx'⟩:=List.getElem?_eq_some_iff.1 hx;have:=zi5 d hk;rw[hx']at this;exact this
theorem zi4 (d:DD) (k:Nat):(zi2 d k).length≤(zi2 d 4).length:=by
 have h4:zi2 d 4=zgS ((zi1 d).flatMap fun x=>optT x.1 x.2):=rfl;rw[h4];conv=>rhs;rw[←List.take_append_drop k (zi1 d)]
 unfold zi2;rw[List.flatMap_append,zgT,List.length_append];omega
theorem zeh (d:DD):fmtD d=zi2 d 4++zgS (inT d.S d.D (d.S.length+1) (-1))++zgL [zlB]:=by
 unfold fmtD zgR
 have h4:zi2 d 4=zgS (optT zlw d.dt++(optT zlF d.vn++(optT zlv d.cm++optT zlD (zlU d.sc)))):=by
  unfold zi2 zi1;simp
 rw[h4];simp only[zgT,List.append_assoc];simp[zgS];rfl
theorem zdf (d:DD) (vS vD:Value) (w:World) (hG:Glob w) (hS:SlR w vS d.S.length (scs d.S)) (hD:SlR w vD d.D.length (dcls d.D)) (hv:∀x∈d.D,WV x) (hF:Fst (parS d.S) d.S.length) (hDl:d.D.length≤1000) (hSl:d.S.length≤1000) (hl:(fmtD d).length≤1000000000)
 (hV:∀W,Below w.heap.size w W→Calls Tryz.prog 37 #[.agg #[.int .i64 d.sc,.string (bsB d.dt),.string (bsB d.vn),.string (bsB d.cm),vS,vD]] W fun e w'=>e=.returned (.bool true)∧Below W.heap.size W w'):
 Calls Tryz.prog 15 #[.agg #[.int .i64 d.sc,.string (bsB d.dt),.string (bsB d.vn),.string (bsB d.cm),vS,vD]] w fun e w'=>e=.returned (.string (bsB (fmtD d)))∧Below w.heap.size w w':=by
 obtain⟨aS,cS,rfl,-,-⟩:=hS.shape;obtain⟨aD,cD,rfl,-,-⟩:=hD.shape;have HSS:=lhd hS;have HSD:=lhd hD;have HG:=lhd hG;have HV:=lhd hV;have HL:=lhd hl;have HWV:=lhd hv;have HF:=lhd hF;have hal:Below w.heap.size w (w.alloc (.cells #[.int .i64 d.sc,.string (bsB d.dt),.string (bsB d.vn),.string (bsB d.cm),.slice aS d.S.length cS,.slice aD d.D.length cD] 25)):=(Below.refl _ _).alloc (Nat.le_refl _) _;have HB1:=lhd hal;have HK1:=lhd (heap_alloc_new w (.cells #[.int .i64 d.sc,.string (bsB d.dt),.string (bsB d.vn),.string (bsB d.cm),.slice aS d.S.length cS,.slice aD d.D.length cD] 25));clear hS hD hG hV hl hv hF hal;go_enter Tryz.func15,Tryz.ntmps15;go_wp2_with fail;refine(HV.out _ HB1.out).mono ?_;rintro e w1 ⟨rfl,hb1⟩;have HB2:=lhd (zd5 HB1.out hb1);have HK2:=lhd ((hb1.block w.heap.size (by simp)).trans HK1.out);have hz1:w.heap.size<w1.heap.size:=by have:=hb1.size;simp at this;omega
 clear hb1
 have q0:∀V:World,V.heap[w.heap.size]? =some (.cells #[.int .i64 d.sc,.string (bsB d.dt),.string (bsB d.vn),.string (bsB d.cm),.slice aS d.S.length cS,.slice aD d.D.length cD] 25 (0,0))→V.cell? ⟨w.heap.size,0,none⟩=some (.int .i64 d.sc)∧V.cell? ⟨w.heap.size,1,none⟩=some (.string (bsB d.dt))∧V.cell? ⟨w.heap.size,2,none⟩=some (.string (bsB d.vn))∧V.cell? ⟨w.heap.size,3,none⟩=some (.string (bsB d.cm))∧V.cell? ⟨w.heap.size,4,none⟩=some (.slice aS d.S.length cS)∧V.cell? ⟨w.heap.size,5,none⟩=some (.slice aD d.D.length cD):=
  fun V h=>⟨by rw[Lib.cell_of_heap h];rfl,by rw[Lib.cell_of_heap h];rfl,by rw[Lib.cell_of_heap h];rfl,by rw[Lib.cell_of_heap h];rfl,by rw[Lib.cell_of_heap h];rfl,by rw[Lib.cell_of_heap h];rfl⟩
 have HQ:=lhd q0;clear q0;obtain⟨e0,e1,e2,e3,e4,e5⟩:=HQ.out _ HK2.out;go_upto_region 4 with fail;have hbw:Below w1.heap.size w1 (w1.alloc (.cells #[.int .i64 d.sc,.string (bsB d.dt),.string (bsB d.vn),.string (bsB d.cm),.slice aS d.S.length cS,.slice aD d.D.length cD,.pointer none,.slice none 0 0] 74)):=(Below.refl _ _).alloc (Nat.le_refl _) _;have HB3:=lhd (zd5 HB2.out hbw);have HK3:=lhd ((hbw.block w.heap.size hz1).trans HK2.out)
 have HW3:=lhd (show WrI w.heap.size w1.heap.size (.int .i64 d.sc) (.string (bsB d.dt)) (.string (bsB d.vn)) (.string (bsB d.cm)) (.slice aS d.S.length cS) (.slice aD d.D.length cD) (Lib.byteCells []) (w1.alloc (.cells #[.int .i64 d.sc,.string (bsB d.dt),.string (bsB d.vn),.string (bsB d.cm),.slice aS d.S.length cS,.slice aD d.D.length cD,.pointer none,.slice none 0 0] 74))from
  .inl ⟨Nat.le_of_lt hz1,.slice none 0 0,heap_alloc_new _ _,⟨by simp[Lib.byteCells],.inl ⟨rfl,rfl⟩⟩⟩)
 generalize w1.alloc (.cells #[.int .i64 d.sc,.string (bsB d.dt),.string (bsB d.vn),.string (bsB d.cm),.slice aS d.S.length cS,.slice aD d.D.length cD,.pointer none,.slice none 0 0] 74)=w2 at*;clear e0 e1 e2 e3 e4 e5 hbw;have HSV:=lhd (fun(V:World) (hV:Below w2.heap.size w2 V)=>HQ.out V ((hV.block w.heap.size (by have:=(Array.getElem?_eq_some_iff.1 HK3.out).1;exact this)).trans HK3.out));have hbq:Below w2.heap.size w2 w2.drew:=(Below.refl _ _).drew;refine wp_region_held_drew (S:=fun V=>V.cell? ⟨w.heap.size,0,none⟩=some (.int .i64 d.sc)∧V.cell? ⟨w.heap.size,1,none⟩=some (.string (bsB d.dt))∧V.cell? ⟨w.heap.size,2,none⟩=some (.string (bsB d.vn))∧V.cell? ⟨w.heap.size,3,none⟩=some (.string (bsB d.cm))∧V.cell? ⟨w.heap.size,4,none⟩=some (.slice aS d.S.length cS)∧V.cell? ⟨w.heap.size,5,none⟩=some (.slice aD d.D.length cD)) (by kernel_rfl) (HSV.out _ hbq) (fun hHeld=>?_);refine tkH 0 hHeld (v:=?_) ?_;simp only[tkS];refine tkH 1 hHeld (v:=?_) ?_;simp only[tkS];refine tkH 2 hHeld (v:=?_) ?_;simp only[tkS];refine tkH 3 hHeld (v:=?_) ?_;simp only[tkS];refine tkH 4 hHeld (v:=?_) ?_;simp only[tkS];refine tkH 5 hHeld (v:=?_) ?_;simp only[tkS];refine tkH 6 hHeld (v:=?_) ?_;simp only[tkS];refine tkH 7 hHeld (v:=?_) ?_;simp only[tkS];refine tkH 8 hHeld (v:=?_) ?_;simp only[tkS];refine tkH 9 hHeld (v:=?_) ?_;simp only[tkS];refine tkH 10 hHeld (v:=?_) ?_;simp only[tkS];refine tkH 15 hHeld (v:=?_) ?_;simp only[tkS];generalize w2.drew=wC at*;refine oneH 11 (fun K hK=>?_);go_simp;refine(znQ d.sc wC (HG.out.below (zd5 HB3.out hbq))).mono ?_;rintro e w5 ⟨rfl,hb5⟩;have hbq:=zd5 hbq hb5;clear hHeld hb5;go_wp2_with fail;refine hK.out _ _ (HSV.out _ hbq) (fun hHeld=>?_);clear hK;try simp only[tkS]
 refine tkH 12 hHeld (v:=?_) ?_;simp only[tkS];refine oneH 13 (fun K hK=>?_);go_simp;have hal6:Below w5.heap.size w5 (w5.alloc (.cells #[.string ⟨#[36,100,97,116,101]⟩,.string (bsB d.dt),.string ⟨#[36,118,101,114,115,105,111,110]⟩,.string (bsB d.vn),.string ⟨#[36,99,111,109,109,101,110,116]⟩,.string (bsB d.cm),.string ⟨#[36,116,105,109,101,115,99,97,108,101]⟩,.string (bsB (zlU d.sc))] 75)):=(Below.refl _ _).alloc (Nat.le_refl _) _;have hbq:=zd5 hbq hal6;have HB6:=lhd (zd5 HB3.out hbq);have HW6:=lhd (HW3.out.below hbq);have HR6:=lhd (heap_alloc_new w5 (.cells #[.string ⟨#[36,100,97,116,101]⟩,.string (bsB d.dt),.string ⟨#[36,118,101,114,115,105,111,110]⟩,.string (bsB d.vn),.string ⟨#[36,99,111,109,109,101,110,116]⟩,.string (bsB d.cm),.string ⟨#[36,116,105,109,101,115,99,97,108,101]⟩,.string (bsB (zlU d.sc))] 75));refine hK.out _ _ (HSV.out _ hbq) (fun hHeld=>?_);clear hK;try simp only[tkS]
 generalize w5.alloc (.cells #[.string ⟨#[36,100,97,116,101]⟩,.string (bsB d.dt),.string ⟨#[36,118,101,114,115,105,111,110]⟩,.string (bsB d.vn),.string ⟨#[36,99,111,109,109,101,110,116]⟩,.string (bsB d.cm),.string ⟨#[36,116,105,109,101,115,99,97,108,101]⟩,.string (bsB (zlU d.sc))] 75)=w6 at*;refine tkH 14 hHeld (v:=?_) ?_;simp only[tkS];refine wpAnyH_done (by kernel_rfl) ?_ _;clear hHeld hal6 hbq;go_wp2_with fail;obtain⟨r,hr⟩:∃r,r=w5.heap.size:=⟨_,rfl⟩;rw[←hr]at HR6⊢;clear hr;go_loopw [27] (fun i wr=>∃k:Nat,k≤4∧i=.int .i64 k∧WrI w.heap.size w1.heap.size (.int .i64 d.sc) (.string (bsB d.dt)) (.string (bsB d.vn)) (.string (bsB d.cm)) (.slice aS d.S.length cS) (.slice aD d.D.length cD) (Lib.byteCells (zi2 d k)) wr∧KW w.heap.size w6 wr∧Below w.heap.size w wr) (fun i _=>4-(intOf i).toNat)
 case atStart=>exact⟨0,Nat.zero_le _,rfl,HW6.out,KW.refl _ _,HB6.out⟩
 case round=>
  obtain⟨k,hk,rfl,hwr,hkw,hbr⟩:=hrel;have HWR:=lhd hwr;have HKW:=lhd hkw;have HBR:=lhd hbr;clear hwr hkw hbr;by_cases hlt:k<4
  ·have hkr:=HKW.out.keep _ _ HR6.out (fun C T fr e=>by injection e with _ e _;subst e;decide)
   obtain⟨kx,tx,hx,e0,e1⟩:∃kx tx,(zi1 d)[k]? =some (kx,tx)∧wr.cell? ⟨r,k*2,none⟩=some (.string (bsB kx))∧wr.cell? ⟨r,k*2+1,none⟩=some (.string (bsB tx)):=by
    have h4:k=0∨k=1∨k=2∨k=3:=by omega
    rcases h4 with rfl|rfl|rfl|rfl<;>exact⟨_,_,rfl,by rw[Lib.cell_of_heap hkr];rfl,by rw[Lib.cell_of_heap hkr];rfl⟩
   have HST:=lhd (zi3 d hx);have HLE:=lhd (zi4 d (k+1));clear hx hkr;have hbB:Below wr.heap.size wr (wr.alloc (.cells #[.string (bsB kx),.string (bsB tx)] 75)):=(Below.refl _ _).alloc (Nat.le_refl _) _;have HWB:=lhd (HWR.out.below hbB);have HKB:=lhd (HKW.out.trans (KW.of_below hbB HBR.out.size));have HBB:=lhd (zd5 HBR.out hbB);have HXB:=lhd (heap_alloc_new wr (.cells #[.string (bsB kx),.string (bsB tx)] 75));clear hbB;by_cases ht:tx=[]
   ·have hb:(bsB tx).toList.isEmpty=true:=by rw[zbg,decide_eq_true ht]
    have HS2:=lhd (show zi2 d (k+1)=zi2 d k by rw[HST.out,if_pos ht,List.append_nil]);clear HST ht;go_wp2_with fail;go_roundw;case rel=>exact⟨k+1,hlt,by go_num,by rw[HS2.out];exact HWB.out,HKB.out,HBB.out⟩
    case measure=>simp[intOf];omega
   ·have hb:(bsB tx).toList.isEmpty=false:=by rw[zbg,decide_eq_false ht]
    have HS2:=lhd (show zi2 d (k+1)=zi2 d k++zgL [kx,tx]by rw[HST.out,if_neg ht]);clear HST ht;go_wp2_with fail
    refine(zqu w.heap.size w1.heap.size _ _ _ _ _ _ (zi2 d k) wr.heap.size #[.string (bsB kx),.string (bsB tx)] 75 [kx,tx] _ HWB.out HXB.out rfl (by simp) (by
     have h1:=congrArg List.length HS2.out;have h2:=HLE.out;have h3:=HL.out;rw[zeh]at h3;simp only[List.length_append]at h1 h3⊢;omega) HBB.out.size).mono ?_
    rintro e w7 ⟨rfl,h7,k7⟩;have HW7:=lhd h7;have HK7:=lhd (HKB.out.trans k7);have HB7:=lhd (HBB.out.trans k7.b);clear h7 k7;go_wp2_with fail;go_roundw;case rel=>exact⟨k+1,hlt,by go_num,by rw[HS2.out];exact HW7.out,HK7.out,HB7.out⟩
    case measure=>simp[intOf];omega
  ·obtain rfl:k=4:=by omega
   have HLN:=lhd (show(zi2 d 4).length+((zgS (inT d.S d.D (d.S.length+1) (-1))).length+(zgL [zlB]).length)≤1000000000 by
    have:=HL.out;rw[zeh]at this;simp only[List.length_append]at this;omega)
   go_wp2_with fail;refine(zqv w.heap.size w1.heap.size _ _ _ _ d.S d.D _ _ w rfl HSS.out HSD.out HG.out HWV.out HF.out hDl hSl (d.S.length+1) (-1) (zi2 d 4) wr (by omega) (by omega) HBR.out HWR.out (by have:=HLN.out;omega)).mono ?_;rintro e w10 ⟨rfl,h10,k10⟩;have HW10:=lhd h10;have HB10:=lhd (HBR.out.trans k10.b);have hal:Below w10.heap.size w10 (w10.alloc (.cells #[.string ⟨#[36,101,110,100,100,101,102,105,110,105,116,105,111,110,115]⟩] 9)):=(Below.refl _ _).alloc (Nat.le_refl _) _;have HO11:=lhd (zjt (w:=w10) (B:=w.heap.size) (C:=#[.string ⟨#[36,101,110,100,100,101,102,105,110,105,116,105,111,110,115]⟩]) (n:=1) HB10.out.size rfl (by omega));have HW11:=lhd (HW10.out.below hal);have HB11:=lhd (zd5 HB10.out hal);clear h10 k10 hal;go_wp2_with fail;refine(zqt w.heap.size w1.heap.size _ _ _ _ _ _ _ _ [zlB] _ HW11.out HO11.out (by simp) (by have:=HLN.out;simp only[List.length_append]at this⊢;omega) HB11.out.size).mono ?_;rintro e w12 ⟨rfl,h12,k12⟩;rw[←zeh]at h12;have HW12:=lhd h12;have HB12:=lhd (HB11.out.trans k12.b)
   have hne:fmtD d≠ []:=by
    intro h;rw[zeh]at h;have:=congrArg List.length h;simp[zgL]at this
   clear h12 k12;go_wp2_with fail;refine(zqo w.heap.size w1.heap.size _ _ _ _ _ _ _ w12 HW12.out hne).mono ?_;rintro e w13 ⟨rfl,hb13⟩;have HB13:=lhd (HB12.out.trans hb13);clear hb13;go_wp2_with fail;exact bodyPost_ret (v:=.string (bsB (fmtD d))) (by simp[results,Tryz.results15,go_sem]) rfl ⟨rfl,HB13.out⟩
theorem zgf:∀l:List Bs,(zgc l).length≤(l.map fun x=>x.length+1).sum
 | []=>Nat.le_refl _
 | [w]=>by simp[zgc]
 |w::x::l=>by
  rw[zgd,List.length_append,List.length_cons,List.map_cons,List.sum_cons];have:=zgf (x::l);omega
theorem zme (ws:List Bs):(secT ws).length≤(ws.map fun x=>x.length+1).sum+5:=by
 unfold secT;have:=zgf (ws++ [sEnd]);rw[List.map_append,List.sum_append]at this;exact this
theorem zhy {l:List Bs} {m:Nat} (h:∀x∈l,x.length≤m) (t:Int):(zhx l t).length≤m:=by
 unfold zhx;split
 ·exact Nat.zero_le _
 ·by_cases ht:t.toNat<l.length
  ·rw[List.getD_eq_getElem?_getD,List.getElem?_eq_getElem ht];exact h _ (List.getElem_mem ht)
  ·rw[List.getD_eq_getElem?_getD,List.getElem?_eq_none (by omega)];exact Nat.zero_le _
theorem zs3 {s:Bs} (h:zhz s=true):s.length≤32:=by
 unfold zhz at h;rw[Bool.and_eq_true,Bool.and_eq_true,Bool.and_eq_true]at h;exact of_decide_eq_true h.1.1.2
theorem zb3 {s:Bs} (h:zb1 s=true):s.length≤8:=by
 unfold zb1 at h;rw[Bool.and_eq_true,Bool.and_eq_true,Bool.and_eq_true]at h;exact of_decide_eq_true h.1.1.2
theorem zbb {n:Int} (h:zba n=true): -32768≤n∧n≤32768:=by
 unfold zba at h;rw[Bool.and_eq_true]at h;exact⟨of_decide_eq_true h.1,of_decide_eq_true h.2⟩
theorem znx {n:Nat} {x:Dcl} (h:VV n x):1≤szD x∧szD x≤128:=by
 unfold szD;by_cases hk:x.kind=0
 ·rw[if_pos hk];exact h.w0 hk
 ·rw[if_neg hk];split<;>omega
theorem zpB {n:Nat} {x:Dcl} (h:VV n x):WV x where
 nm:=h.nm
 rg hr:=⟨(h.r1 hr).2.1,(h.r1 hr).2.2.1⟩
 sz:=by have:=znx h;omega
 wd:=by
  by_cases hk:x.kind=0
  ·have:=h.w0 hk;omega
  ·rw[h.w1 hk];exact Int.le_refl _
theorem zk3 {n:Nat} {x:Dcl} (h:VV n x):(refT x).length≤300:=by
 unfold refT;have h1:=zgf (refW x);have h2:=zs3 h.nm;unfold refW at h1⊢;by_cases hr:x.rg=true
 ·rw[if_pos hr]at h1⊢;have b1:=zbb (h.r1 hr).2.1;have b2:=zbb (h.r1 hr).2.2.1;have i1:=zfW x.mb (by omega);have i2:=zfW x.lb (by omega)
  have h3:(rngT x.mb x.lb).length≤203:=by
   unfold rngT;split<;>simp only[List.length_cons,List.length_append,List.length_nil]<;>omega
  simp only[List.map_cons,List.map_nil,List.sum_cons,List.sum_nil]at h1;omega
 ·rw[if_neg hr]at h1⊢;simp only[List.map_cons,List.map_nil,List.sum_cons,List.sum_nil]at h1;omega
theorem zoV {n:Nat} {x:Dcl} (h:VV n x):(varT x).length≤1000:=by
 unfold varT;have h1:=zme [sVar,zhx varW x.ty,Lib.itoa (szD x),x.code,refT x];have h2:=zhy (l:=varW) (m:=9) (by decide) x.ty;have h3:=znx h;have h4:=zfW (szD x) (by omega);have h5:=zb3 h.cd;have h6:=zk3 h;have h7:sVar.length=4:=rfl;simp only[List.map_cons,List.map_nil,List.sum_cons,List.sum_nil]at h1;omega
theorem zl5 {s:Sc} (h:zhz s.1=true):(zl3 s).length≤1000:=by
 unfold zl3;have h1:=zme [zlC,zhx zl4 s.2.1,s.1];have h2:=zhy (l:=zl4) (m:=9) (by decide) s.2.1;have h3:=zs3 h;have h4:zlC.length=6:=rfl;simp only[List.map_cons,List.map_nil,List.sum_cons,List.sum_nil]at h1;omega
theorem zs5 {s:Bs} (h:zp2 s=true):s.length≤200:=by
 unfold zp2 at h;rw[Bool.or_eq_true]at h;rcases h with h|h
 ·rw[of_decide_eq_true h];exact Nat.zero_le _
 ·rw[Bool.and_eq_true]at h;exact of_decide_eq_true h.2
theorem ziZ {k t:Bs} (hk:k.length≤20) (ht:t.length≤200):∀x∈optT k t,x.length≤1000:=by
 unfold optT;intro x hx;split at hx
 ·cases hx
 ·obtain rfl:=List.mem_singleton.1 hx;have h1:=zme [k,t];simp only[List.map_cons,List.map_nil,List.sum_cons,List.sum_nil]at h1;omega
theorem ziY (k t:Bs):(optT k t).length≤1:=by
 unfold optT;split<;>simp
theorem zlX {n:Int} (h: -15≤n∧n≤2):(zlU n).length≤200:=by
 have:∀k:Fin 18,(zlU ((k:Int)-15)).length≤200:=by decide+kernel
 have h1:=this ⟨(n+15).toNat,by omega⟩;dsimp only at h1;rwa [show(((n+15).toNat:Nat):Int)-15=n by omega]at h1
theorem zfc (S:List Sc) (D:List Dcl):∀(f:Nat) (p:Int),(inT S D f p).length≤(pre (parS S) S.length f p).length*(D.length+2)+D.length
 |0,_=>Nat.zero_le _
 |f+1,p=>by
  rw[zkx];show((D.filter fun x=>decide (x.sc=p)).map varT++(List.range S.length).flatMap fun i=>if parS S i=p then zl3 (S.getD i ([],0,0))::(inT S D f i++ [secT [zlE]])else []).length≤_;rw[List.length_append,List.length_map];have h1:(D.filter fun x=>decide (x.sc=p)).length≤D.length:=List.length_filter_le _ _
  have key:∀l:List Nat,(l.flatMap fun i=>if parS S i=p then zl3 (S.getD i ([],0,0))::(inT S D f i++ [secT [zlE]])else []).length≤(l.flatMap fun i=>if parS S i=p then i::pre (parS S) S.length f i else []).length*(D.length+2):=fun l=>by
   induction l with
   |nil=>exact Nat.zero_le _
   |cons i l ih=>
    rw[List.flatMap_cons,List.flatMap_cons,List.length_append,List.length_append,Nat.add_mul];refine Nat.add_le_add ?_ ih;by_cases hp:parS S i=p
    ·rw[if_pos hp,if_pos hp];have:=zfc S D f i;simp only[List.length_cons,List.length_append,List.length_nil];rw[Nat.add_mul];omega
    ·rw[if_neg hp,if_neg hp];exact Nat.zero_le _
  have:=key (List.range S.length);omega
theorem zfd {S:List Sc} {D:List Dcl} {m:Nat} (hS:∀s∈S,zhz s.1=true) (hD:∀x∈D,VV m x):∀(f:Nat) (p:Int),∀y∈inT S D f p,y.length≤1000
 |0,_,y,hy=>by cases hy
 |f+1,p,y,hy=>by
  rw[show inT S D (f+1) p=(D.filter fun x=>decide (x.sc=p)).map varT++(List.range S.length).flatMap fun i=>if parS S i=p then zl3 (S.getD i ([],0,0))::(inT S D f i++ [secT [zlE]])else []from rfl]at hy;rcases List.mem_append.1 hy with hy|hy
  ·obtain⟨x,hx,rfl⟩:=List.mem_map.1 hy;exact zoV (hD x (List.mem_filter.1 hx).1)
  ·obtain⟨i,hi,hy⟩:=List.mem_flatMap.1 hy;have hi:=List.mem_range.1 hi;split at hy
   ·rcases List.mem_cons.1 hy with rfl|hy
    ·rw[List.getD_eq_getElem?_getD,List.getElem?_eq_getElem hi];exact zl5 (hS _ (List.getElem_mem hi))
    ·rcases List.mem_append.1 hy with hy|hy
     ·exact zfd hS hD f i y hy
     ·obtain rfl:=List.mem_singleton.1 hy;decide
   ·cases hy
theorem zgX:∀{L:List Bs},(∀x∈L,x.length≤1000)→(zgS L).length≤L.length*1001
 | [],_=>Nat.zero_le _
 |x::L,h=>by
  rw[zgU,List.length_append,List.length_cons];have h1:=h x List.mem_cons_self;have h2:=zgX (L:=L) fun y hy=>h y (List.mem_cons_of_mem _ hy);have h3:(zgN x).length=x.length+1:=by unfold zgN;simp
  omega
theorem zej {d:DD} (h:VD d):(fmtD d).length≤1000000000:=by
 have hc:(zgR d).length≤10000:=by
  unfold zgR;have h1:=zfc d.S d.D (d.S.length+1) (-1);rw[zkn h.sf]at h1;have h2:=ziY zlw d.dt;have h3:=ziY zlF d.vn;have h4:=ziY zlv d.cm;have h5:=ziY zlD (zlU d.sc);have h6:d.S.length*(d.D.length+2)≤32*130:=Nat.mul_le_mul h.sn (by have:=h.dn;omega);have h7:=h.dn;simp only[List.length_append,List.length_cons,List.length_nil];omega
 have hl:=zgX (L:=zgR d) fun x hx=>by
  unfold zgR at hx;simp only[List.mem_append,List.mem_singleton]at hx;rcases hx with hx|hx|hx|hx|hx|rfl
  ·exact ziZ (by decide) (zs5 h.dt) x hx
  ·exact ziZ (by decide) (zs5 h.vn) x hx
  ·exact ziZ (by decide) (zs5 h.cm) x hx
  ·exact ziZ (by decide) (zlX h.sc) x hx
  ·exact zfd (fun s hs=>(h.sm s hs).1) h.dv _ _ x hx
  ·decide
 unfold fmtD;omega
def inV (D:List Dcl) (p:Int) (k:Nat):Bs:=((D.take k).filter fun x=>decide (x.sc=p)).flatMap varR
theorem zrp {D:List Dcl} {k:Nat} (p:Int) (hk:k<D.length):inV D p (k+1)=inV D p k++if D[k].sc=p then varR D[k]else []:=by
 unfold inV;rw[List.take_succ_eq_append_getElem hk,List.filter_append,List.flatMap_append];congr 1
 by_cases h:D[k].sc=p
 ·rw[List.filter_cons_of_pos (by simpa using h),if_pos h];simp
 ·rw[List.filter_cons_of_neg (by simp[h]),if_neg h];rfl
theorem zrn (D:List Dcl) (p:Int):inV D p D.length=(D.filter fun x=>decide (x.sc=p)).flatMap varR:=by
 unfold inV;rw[List.take_length]
theorem zro (D:List Dcl) (p:Int) (k:Nat):(inV D p k).length≤(inV D p D.length).length:=by
 rw[zrn];unfold inV;conv=>rhs;rw[←List.take_append_drop k D,List.filter_append,List.flatMap_append,List.length_append]
 omega
def inS (S:List Sc) (D:List Dcl) (f:Nat) (p:Int) (k:Nat):Bs:=(List.range k).flatMap fun i=>if parS S i=p then zl2 (S.getD i ([],0,0))++(zff S D f i++zgM zlE [])else []
theorem zrm (S:List Sc) (D:List Dcl) (f:Nat) (p:Int) (k:Nat):inS S D f p (k+1)=inS S D f p k++if parS S k=p then zl2 (S.getD k ([],0,0))++(zff S D f k++zgM zlE [])else []:=by
 unfold inS;rw[List.range_succ,List.flatMap_append,List.flatMap_cons,List.flatMap_nil,List.append_nil]
theorem zrl (S:List Sc) (D:List Dcl) (f:Nat) (p:Int):∀(n k:Nat),k≤n→(inS S D f p k).length≤(inS S D f p n).length
 |0,k,h=>by
  obtain rfl:k=0:=by omega
  exact Nat.le_refl _
 |n+1,k,h=>by
  rcases Nat.lt_or_ge n k with h1|h1
  ·obtain rfl:k=n+1:=by omega
   exact Nat.le_refl _
  ·refine Nat.le_trans (zrl S D f p n k h1) ?_;rw[zrm,List.length_append];omega
theorem zrs (S:List Sc) (D:List Dcl) (f:Nat) (p:Int):zff S D (f+1) p=inV D p D.length++inS S D f p S.length:=by
 rw[zrn];rfl
theorem zrt {S:List Sc} {D:List Dcl} {f:Nat} {p:Int} {k:Nat} (hk:k<S.length) (h:parS S k=p):
 (inV D p D.length).length+((inS S D f p k).length+((zl2 (S.getD k ([],0,0))).length+((zff S D f k).length+(zgM zlE []).length)))≤(zff S D (f+1) p).length:=by
 have h1:=zrl S D f p S.length (k+1) hk;rw[zrm,if_pos h]at h1;rw[zrs];simp only[List.length_append]at h1⊢;omega
theorem zru {S:List Sc} {D:List Dcl} {f:Nat} {p:Int} {k:Nat} (hk:k<D.length) (h:D[k].sc=p):
 (inV D p k).length+(varR D[k]).length≤(zff S D (f+1) p).length:=by
 have h1:=zro D p (k+1);rw[zrp p hk,if_pos h]at h1;rw[zrs];simp only[List.length_append]at h1⊢;omega
theorem zrj {d:DD} (h:VD d):(fmtR d).length≤1000000000:=by
 rw[zel h];exact zej h
end Go.Proofs.YtcdekelomkcahaaGreatDoor
