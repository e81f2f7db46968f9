import Derived.Test.YtcdekelomkcahaaGreatDoorZ00
import Derived.Test.YtcdekelomkcahaaGreatDoorZ30
import Derived.Test.YtcdekelomkcahaaGreatDoorZ38
set_option maxRecDepth 100000
set_option maxHeartbeats 16000000
namespace Go.Proofs.YtcdekelomkcahaaGreatDoor
open Go.RowKit
set_option linter.unusedSimpArgs false
theorem zjt {w:World} {B:Nat} {C:Array Value} {n:Nat} (hB:B≤w.heap.size) (hC:C.size=n) (hn:n≤1000):(w.alloc (.cells C 9)).ownsRow B 9 1 (.slice (some ⟨w.heap.size,0,none⟩) n n) n C.toList:=by
 refine⟨by simp[hC],.inr ⟨w.heap.size,n,C,rfl,hB,heap_alloc_new w _,Nat.le_refl _,by unfold maxLen;omega,by rw[hC];omega,?_⟩⟩;rw[List.take_of_length_le (by simp[hC])]
def zo4 (D:List Dcl) (p:Int):Bs:=zgS ((D.filter fun x=>decide (x.sc=p)).map varT)
theorem zo6 {D:List Dcl} {p:Int} {k:Nat} (hk:k<D.length):zo4 (D.take (k+1)) p=zo4 (D.take k) p++if D[k].sc=p then zgN (varT D[k])else []:=by
 unfold zo4;rw[List.take_succ_eq_append_getElem hk,List.filter_append,List.map_append,zgT];congr 1
 by_cases h:D[k].sc=p
 ·rw[if_pos h,List.filter_cons,decide_eq_true h];simp[zgS]
 ·rw[if_neg h,List.filter_cons,decide_eq_false h];simp[zgS]
theorem zo5 {D:List Dcl} {p:Int} (k:Nat):(zo4 (D.take k) p).length≤(zo4 D p).length:=by
 conv=>rhs;rw[←List.take_append_drop k D]
 unfold zo4;rw[List.filter_append,List.map_append,zgT,List.length_append];omega
theorem zgQ (x:Dcl):zgL [sVar,zhx varW x.ty,Lib.itoa (szD x),x.code,refT x]=zgN (varT x):=rfl
structure WV (x:Dcl):Prop where
 nm:zhz x.nm=true
 rg:x.rg=true→zba x.mb=true∧zba x.lb=true
 sz: -32768≤szD x∧szD x≤999999999
 wd:0≤x.width
def subT (S:List Sc) (D:List Dcl) (f:Nat) (p:Int) (j:Nat):Bs:=zgS ((List.range j).flatMap fun i=>if parS S i=p then zl3 (S.getD i ([],0,0))::(inT S D f i++ [secT [zlE]])else [])
theorem znq (S:List Sc) (D:List Dcl) (f:Nat) (p:Int) (j:Nat):subT S D f p (j+1)=subT S D f p j++if parS S j=p then zgN (zl3 (S.getD j ([],0,0)))++(zgS (inT S D f j)++zgN (secT [zlE]))else []:=by
 unfold subT;rw[List.range_succ,List.flatMap_append,zgT];congr 1
 by_cases h:parS S j=p
 ·simp[h,zgS]
 ·simp[h,zgS]
theorem znp (S:List Sc) (D:List Dcl) (f:Nat) (p:Int) {j n:Nat} (h:j≤n):(subT S D f p j).length≤(subT S D f p n).length:=by
 induction h with
 |refl=>exact Nat.le_refl _
 |step _ ih=>
  rw[znq,List.length_append];omega
theorem zfb (S:List Sc) (D:List Dcl) (f:Nat) (p:Int):zgS (inT S D (f+1) p)=zo4 D p++subT S D f p S.length:=by
 show zgS (_++_)=_;rw[zgT];rfl
def zaw (B b:Nat) (d0 d1 d2 d3 d4 d5:Value) (bs:Bs) (w:World) (e:Ending) (w':World):Prop:=e=.returned (.tuple #[])∧WrI B b d0 d1 d2 d3 d4 d5 (Lib.byteCells bs) w'∧KW B w w'
theorem zqw (B b:Nat) (d0 d1 d2 d3:Value) (S:List Sc) (D:List Dcl) (vS vD:Value) (f:Nat) (p:Int) (bs:Bs) (w0 w:World) (hw0:B=w0.heap.size) (hb:Below B w0 w) (hS:SlR w0 vS S.length (scs S)) (hD:SlR w0 vD D.length (dcls D)) (hg:Glob w0) (hv:∀x∈D,WV x) (h:WrI B b d0 d1 d2 d3 vS vD (Lib.byteCells bs) w) (hl:bs.length+(zgS (inT S D (f+1) p)).length≤1000000000) (hDl:D.length≤1000) (hSl:S.length≤1000)
 (hO:∀(i:Nat) (bs':Bs) (W:World),i<S.length→parS S i=p→Below B w0 W→WrI B b d0 d1 d2 d3 vS vD (Lib.byteCells bs') W→bs'.length+(zgS (inT S D f i)).length≤1000000000→Calls Tryz.prog 40 #[.pointer (some ⟨b,0,none⟩),.int .i64 i] W (zaw B b d0 d1 d2 d3 vS vD (bs'++zgS (inT S D f i)) W)):
 Calls Tryz.prog 40 #[.pointer (some ⟨b,0,none⟩),.int .i64 p] w (zaw B b d0 d1 d2 d3 vS vD (bs++zgS (inT S D (f+1) p)) w):=by
 obtain⟨aS,cS,rfl,-,-⟩:=hS.shape;rw[zfb]at hl⊢;have HLL:=lhd hl;have hl:bs.length+(zo4 D p).length≤1000000000:=by rw[List.length_append]at hl;omega
 have HSS:=lhd hS;have HO:=lhd hO;clear hS hO;obtain⟨aD,cD,rfl,-,-⟩:=hD.shape;subst hw0;have HD:=lhd hD;have HG:=lhd hg;have HV:=lhd hv;have HL:=lhd hl;have H:=lhd h
 have c5:w.cell? ⟨b,5,none⟩=some (.slice aD D.length cD):=by
  rcases h with⟨-,v,hk,-⟩|⟨-,v,hk,-⟩<;>(rw[Lib.cell_of_heap hk];rfl)
 have HB:=lhd hb;clear hD hg hv hl h hb;go_enter Tryz.func40,Tryz.ntmps40;go_wp2_with fail;go_loopw [16] (fun i wr=>∃k:Nat,k≤D.length∧i=.int .i64 k∧WrI w0.heap.size b d0 d1 d2 d3 (.slice aS S.length cS) (.slice aD D.length cD) (Lib.byteCells (bs++zo4 (D.take k) p)) wr∧KW w0.heap.size w wr∧Below w0.heap.size w0 wr) (fun i _=>D.length-(intOf i).toNat)
 case atStart=>exact⟨0,Nat.zero_le _,rfl,by rw[show zo4 (D.take 0) p=[]from rfl,List.append_nil];exact H.out,KW.refl _ _,HB.out⟩
 case round=>
  obtain⟨k,hk,rfl,hwr,hkw,hbr⟩:=hrel;have HWR:=lhd hwr;have HKW:=lhd hkw;have HBR:=lhd hbr;clear hwr hkw hbr;by_cases hlt:k<D.length
  ·obtain⟨bd,od,rfl,hcell⟩:=(HD.out.below HBR.out).dcls hlt;have HST:=lhd (zo6 (p:=p) hlt);have HWV:=lhd (HV.out _ (List.getElem_mem hlt));have HLE:=lhd (zo5 (D:=D) (p:=p) (k+1));obtain⟨⟨n0,n1,n2,n3,n4,n5,n6,n7,n8,n9⟩,hx⟩:∃x,x=D[k]:=⟨_,rfl⟩;rw[←hx]at hcell HST HWV;have e0:wr.cell? ⟨bd,od+k*10,none⟩=_:=hcell 0 _ rfl;have e1:wr.cell? ⟨bd,od+k*10+1,none⟩=_:=hcell 1 _ rfl;have e2:wr.cell? ⟨bd,od+k*10+2,none⟩=_:=hcell 2 _ rfl;have e3:wr.cell? ⟨bd,od+k*10+3,none⟩=_:=hcell 3 _ rfl;have e4:wr.cell? ⟨bd,od+k*10+4,none⟩=_:=hcell 4 _ rfl;have e5:wr.cell? ⟨bd,od+k*10+5,none⟩=_:=hcell 5 _ rfl;have e6:wr.cell? ⟨bd,od+k*10+6,none⟩=_:=hcell 6 _ rfl;have e7:wr.cell? ⟨bd,od+k*10+7,none⟩=_:=hcell 7 _ rfl;have e8:wr.cell? ⟨bd,od+k*10+8,none⟩=_:=hcell 8 _ rfl;have e9:wr.cell? ⟨bd,od+k*10+9,none⟩=_:=hcell 9 _ rfl;clear hcell hx;dsimp only at e0 e1 e2 e3 e4 e5 e6 e7 e8 e9 HST;have hbB:Below wr.heap.size wr ((wr.alloc (.cells #[.string (bsB n0),.int .i64 n1,.int .i64 n2,.int .i64 n3,.bool n4,.int .i64 n5,.int .i64 n6,.string (bsB n7),.int .i64 n8,.int .i64 n9] 50)).alloc (.cells #[.string (bsB n0),.int .i64 n1,.int .i64 n2,.int .i64 n3,.bool n4,.int .i64 n5,.int .i64 n6] 48)):=((Below.refl _ _).alloc (Nat.le_refl _) _).alloc (by simp) _;have hzA:(wr.alloc (.cells #[.string (bsB n0),.int .i64 n1,.int .i64 n2,.int .i64 n3,.bool n4,.int .i64 n5,.int .i64 n6,.string (bsB n7),.int .i64 n8,.int .i64 n9] 50)).heap.size=wr.heap.size+1:=by simp
   by_cases hsc:n2=p
   rotate_left
   ·have b2:(n2==p)=false:=by rw[beq_eq_false_iff_ne];exact hsc
    have HS2:=lhd (show zo4 (D.take (k+1)) p=zo4 (D.take k) p by rw[HST.out,if_neg hsc,List.append_nil]);have HWB:=lhd (HWR.out.below hbB);have HKB:=lhd (HKW.out.trans (KW.of_below hbB HBR.out.size));have HBB:=lhd (zd5 HBR.out hbB);clear hsc hbB;go_wp2_with fail;go_roundw;case rel=>exact⟨k+1,hlt,by go_num,by rw[HS2.out];exact HWB.out,HKB.out,HBB.out⟩
    case measure=>simp[intOf];omega
   have b2:(n2==p)=true:=by rw[hsc];simp
   have HS2:=lhd (show bs++zo4 (D.take k) p++zgL [sVar,zhx varW n1,Lib.itoa (szD ⟨n0,n1,n2,n3,n4,n5,n6,n7,n8,n9⟩),n7,refT ⟨n0,n1,n2,n3,n4,n5,n6,n7,n8,n9⟩]=bs++zo4 (D.take (k+1)) p by rw[HST.out,if_pos hsc,List.append_assoc,←zgQ])
   have HLN:=lhd (show(bs++zo4 (D.take k) p).length+(zgL [sVar,zhx varW n1,Lib.itoa (szD ⟨n0,n1,n2,n3,n4,n5,n6,n7,n8,n9⟩),n7,refT ⟨n0,n1,n2,n3,n4,n5,n6,n7,n8,n9⟩]).length≤140737488355328 by
    have:=congrArg List.length HS2.out;rw[List.length_append]at this;rw[this,List.length_append];have:=HL.out;have:=HLE.out;omega)
   have HBK:=lhd (And.intro (show((wr.alloc (.cells #[.string (bsB n0),.int .i64 n1,.int .i64 n2,.int .i64 n3,.bool n4,.int .i64 n5,.int .i64 n6,.string (bsB n7),.int .i64 n8,.int .i64 n9] 50)).alloc (.cells #[.string (bsB n0),.int .i64 n1,.int .i64 n2,.int .i64 n3,.bool n4,.int .i64 n5,.int .i64 n6] 48)).heap[wr.heap.size]? =some (.cells #[.string (bsB n0),.int .i64 n1,.int .i64 n2,.int .i64 n3,.bool n4,.int .i64 n5,.int .i64 n6,.string (bsB n7),.int .i64 n8,.int .i64 n9] 50 (0,0))from(Below.heap_alloc _ _ _ (by simp)).trans (heap_alloc_new wr _)) (show((wr.alloc (.cells #[.string (bsB n0),.int .i64 n1,.int .i64 n2,.int .i64 n3,.bool n4,.int .i64 n5,.int .i64 n6,.string (bsB n7),.int .i64 n8,.int .i64 n9] 50)).alloc (.cells #[.string (bsB n0),.int .i64 n1,.int .i64 n2,.int .i64 n3,.bool n4,.int .i64 n5,.int .i64 n6] 48)).heap[wr.heap.size+1]? =some (.cells #[.string (bsB n0),.int .i64 n1,.int .i64 n2,.int .i64 n3,.bool n4,.int .i64 n5,.int .i64 n6] 48 (0,0))by
    have:=heap_alloc_new (wr.alloc (.cells #[.string (bsB n0),.int .i64 n1,.int .i64 n2,.int .i64 n3,.bool n4,.int .i64 n5,.int .i64 n6,.string (bsB n7),.int .i64 n8,.int .i64 n9] 50)) (.cells #[.string (bsB n0),.int .i64 n1,.int .i64 n2,.int .i64 n3,.bool n4,.int .i64 n5,.int .i64 n6] 48);rwa [hzA]at this))
   have HSK:=lhd (show ∀V:World,V.heap[wr.heap.size]? =some (.cells #[.string (bsB n0),.int .i64 n1,.int .i64 n2,.int .i64 n3,.bool n4,.int .i64 n5,.int .i64 n6,.string (bsB n7),.int .i64 n8,.int .i64 n9] 50 (0,0))→V.heap[wr.heap.size+1]? =some (.cells #[.string (bsB n0),.int .i64 n1,.int .i64 n2,.int .i64 n3,.bool n4,.int .i64 n5,.int .i64 n6] 48 (0,0))→V.cell? ⟨wr.heap.size,7,none⟩=some (.string (bsB n7))∧V.cell? ⟨wr.heap.size+1,0,none⟩=some (.string (bsB n0))∧V.cell? ⟨wr.heap.size+1,1,none⟩=some (.int .i64 n1)∧V.cell? ⟨wr.heap.size+1,4,none⟩=some (.bool n4)∧V.cell? ⟨wr.heap.size+1,5,none⟩=some (.int .i64 n5)∧V.cell? ⟨wr.heap.size+1,6,none⟩=some (.int .i64 n6)from fun V h1 h2=>
    ⟨by rw[Lib.cell_of_heap h1];rfl,by rw[Lib.cell_of_heap h2];rfl,by rw[Lib.cell_of_heap h2];rfl,by rw[Lib.cell_of_heap h2];rfl,by rw[Lib.cell_of_heap h2];rfl,by rw[Lib.cell_of_heap h2];rfl⟩)
   have HWB:=lhd (HWR.out.below hbB);have HKB:=lhd (HKW.out.trans (KW.of_below hbB HBR.out.size));have HBB:=lhd (zd5 HBR.out hbB);have HZB:=lhd (show wr.heap.size+1<((wr.alloc (.cells #[.string (bsB n0),.int .i64 n1,.int .i64 n2,.int .i64 n3,.bool n4,.int .i64 n5,.int .i64 n6,.string (bsB n7),.int .i64 n8,.int .i64 n9] 50)).alloc (.cells #[.string (bsB n0),.int .i64 n1,.int .i64 n2,.int .i64 n3,.bool n4,.int .i64 n5,.int .i64 n6] 48)).heap.size by simp);have HRF:=lhd (fun(W:World) (hW:Below w0.heap.size w0 W)=>zhP ⟨n0,n1,n2,n3,n4,n5,n6,n7,n8,n9⟩ W (HG.out.below hW) HWV.out.nm HWV.out.rg);have HIT:=lhd (fun(W:World) (hW:Below w0.heap.size w0 W)=>zcb (szD ⟨n0,n1,n2,n3,n4,n5,n6,n7,n8,n9⟩) W (HG.out.below hW) HWV.out.sz);dsimp only at HRF;clear hsc hbB hzA;by_cases hk0:n8=0
   ·have bk0:(n8==0)=true:=by rw[hk0];rfl
    have hsz:szD ⟨n0,n1,n2,n3,n4,n5,n6,n7,n8,n9⟩=n9:=by unfold szD;exact if_pos hk0
    clear hk0;rw[hsz]at HIT HLN HS2;go_upto_region 11 with fail;generalize (wr.alloc (.cells #[.string (bsB n0),.int .i64 n1,.int .i64 n2,.int .i64 n3,.bool n4,.int .i64 n5,.int .i64 n6,.string (bsB n7),.int .i64 n8,.int .i64 n9] 50)).alloc (.cells #[.string (bsB n0),.int .i64 n1,.int .i64 n2,.int .i64 n3,.bool n4,.int .i64 n5,.int .i64 n6] 48)=wB at*;have HSV:=lhd (show ∀V:World,Below wB.heap.size wB V→V.cell? ⟨wr.heap.size,7,none⟩=some (.string (bsB n7))∧V.cell? ⟨wr.heap.size+1,0,none⟩=some (.string (bsB n0))∧V.cell? ⟨wr.heap.size+1,1,none⟩=some (.int .i64 n1)∧V.cell? ⟨wr.heap.size+1,4,none⟩=some (.bool n4)∧V.cell? ⟨wr.heap.size+1,5,none⟩=some (.int .i64 n5)∧V.cell? ⟨wr.heap.size+1,6,none⟩=some (.int .i64 n6)from fun V hV=>HSK.out V ((hV.block _ (by have:=HZB.out;omega)).trans HBK.out.1) ((hV.block _ HZB.out).trans HBK.out.2));have hbq:Below wB.heap.size wB wB.drew:=(Below.refl _ _).drew;refine wp_region_held_drew (S:=fun w'=>w'.cell? ⟨wr.heap.size,7,none⟩=some (.string (bsB n7))∧w'.cell? ⟨wr.heap.size+1,0,none⟩=some (.string (bsB n0))∧w'.cell? ⟨wr.heap.size+1,1,none⟩=some (.int .i64 n1)∧w'.cell? ⟨wr.heap.size+1,4,none⟩=some (.bool n4)∧w'.cell? ⟨wr.heap.size+1,5,none⟩=some (.int .i64 n5)∧w'.cell? ⟨wr.heap.size+1,6,none⟩=some (.int .i64 n6)) (by kernel_rfl) (HSV.out _ hbq) (fun hHeld=>?_);refine tkH 0 hHeld (v:=?_) ?_ ?_;rotate_left
    ·intro w h;(try dsimp only at h);go_simp;all_goals with_reducible rfl
    simp only[tkS];refine tkH 1 hHeld (v:=?_) ?_ ?_;rotate_left
    ·intro w h;(try dsimp only at h);go_simp;all_goals with_reducible rfl
    simp only[tkS];refine tkH 2 hHeld (v:=?_) ?_ ?_;rotate_left
    ·intro w h;(try dsimp only at h);go_simp;all_goals with_reducible rfl
    simp only[tkS];refine tkH 4 hHeld (v:=?_) ?_ ?_;rotate_left
    ·intro w h;(try dsimp only at h);go_simp;all_goals with_reducible rfl
    simp only[tkS];refine tkH 6 hHeld (v:=?_) ?_ ?_;rotate_left
    ·intro w h;(try dsimp only at h);go_simp;all_goals with_reducible rfl
    simp only[tkS];refine tkH 7 hHeld (v:=?_) ?_ ?_;rotate_left
    ·intro w h;(try dsimp only at h);go_simp;all_goals with_reducible rfl
    simp only[tkS];refine tkH 8 hHeld (v:=?_) ?_ ?_;rotate_left
    ·intro w h;(try dsimp only at h);go_simp;all_goals with_reducible rfl
    simp only[tkS];refine tkH 9 hHeld (v:=?_) ?_ ?_;rotate_left
    ·intro w h;(try dsimp only at h);go_simp;all_goals with_reducible rfl
    simp only[tkS];refine tkH 10 hHeld (v:=?_) ?_ ?_;rotate_left
    ·intro w h;(try dsimp only at h);go_simp;all_goals with_reducible rfl
    simp only[tkS];refine tkH 11 hHeld (v:=?_) ?_ ?_;rotate_left
    ·intro w h;(try dsimp only at h);go_simp;all_goals with_reducible rfl
    simp only[tkS];refine tkH 12 hHeld (v:=?_) ?_ ?_;rotate_left
    ·intro w h;(try dsimp only at h);go_simp;all_goals with_reducible rfl
    simp only[tkS];refine tkH 13 hHeld (v:=?_) ?_ ?_;rotate_left
    ·intro w h;(try dsimp only at h);go_simp;all_goals with_reducible rfl
    simp only[tkS];refine tkH 14 hHeld (v:=?_) ?_ ?_;rotate_left
    ·intro w h;(try dsimp only at h);go_simp;all_goals with_reducible rfl
    simp only[tkS];refine tkH 15 hHeld (v:=?_) ?_ ?_;rotate_left
    ·intro w h;(try dsimp only at h);go_simp;all_goals with_reducible rfl
    simp only[tkS];generalize wB.drew=wC at*;refine oneH 3 (fun K hK=>?_);go_simp;refine(zdk n1 wC).mono ?_;rintro e w5 ⟨rfl,hb5⟩;have hbq:=zd5 hbq hb5;clear hHeld hb5;go_wp2_with fail;refine hK.out _ _ (HSV.out _ hbq) (fun hHeld=>?_);clear hK;try simp only[tkS]
    refine oneH 5 (fun K hK=>?_);go_simp;refine(HIT.out w5 (zd5 HBB.out hbq)).mono ?_;rintro e w6 ⟨rfl,hb6⟩;have hbq:=zd5 hbq hb6;clear hHeld hb6;go_wp2_with fail;refine hK.out _ _ (HSV.out _ hbq) (fun hHeld=>?_);clear hK;try simp only[tkS]
    refine oneH 16 (fun K hK=>?_);go_simp;refine(HRF.out w6 (zd5 HBB.out hbq)).mono ?_;rintro e w7 ⟨rfl,hb7⟩;have hbq:=zd5 hbq hb7;clear hHeld hb7;go_wp2_with fail;refine hK.out _ _ (HSV.out _ hbq) (fun hHeld=>?_);clear hK;try simp only[tkS]
    refine oneH 17 (fun K hK=>?_);go_simp;have hb8:Below wB.heap.size wB (w7.alloc (.cells #[.string ⟨#[36,118,97,114]⟩,.string (bsB (zhx varW n1)),.string (bsB (Lib.itoa n9)),.string (bsB n7),.string (bsB (refT ⟨n0,n1,n2,n3,n4,n5,n6,n7,n8,n9⟩))] 9)):=hbq.alloc hbq.size _;have HB8:=lhd (zd5 HBB.out hb8);have HO8:=lhd (zjt (w:=w7) (B:=w0.heap.size) (C:=#[.string ⟨#[36,118,97,114]⟩,.string (bsB (zhx varW n1)),.string (bsB (Lib.itoa n9)),.string (bsB n7),.string (bsB (refT ⟨n0,n1,n2,n3,n4,n5,n6,n7,n8,n9⟩))]) (n:=5) (Nat.le_trans HBB.out.size hbq.size) rfl (by omega));have HW8:=lhd (HWB.out.below hb8);have HK8:=lhd (HKB.out.trans (KW.of_below hb8 HBB.out.size));have HBL8:=lhd (And.intro ((hb8.block _ (by have:=HZB.out;omega)).trans HBK.out.1) ((hb8.block _ HZB.out).trans HBK.out.2));refine hK.out _ _ (HSV.out _ hb8) (fun hHeld=>?_);clear hK;try simp only[tkS]
    generalize (w7.alloc (.cells #[.string ⟨#[36,118,97,114]⟩,.string (bsB (zhx varW n1)),.string (bsB (Lib.itoa n9)),.string (bsB n7),.string (bsB (refT ⟨n0,n1,n2,n3,n4,n5,n6,n7,n8,n9⟩))] 9))=w8 at*;refine oneH 18 (fun K hK=>?_);go_simp;refine(zqt w0.heap.size b d0 d1 d2 d3 _ _ (bs++zo4 (D.take k) p) _ [sVar,zhx varW n1,Lib.itoa n9,n7,refT ⟨n0,n1,n2,n3,n4,n5,n6,n7,n8,n9⟩] w8 HW8.out HO8.out (by simp) HLN.out HB8.out.size).mono ?_;rintro e w9 ⟨rfl,h9,k9⟩;have HW9:=lhd h9;have HS9:=lhd (HSK.out w9 (k9.keep _ _ HBL8.out.1 (fun C T fr e=>by injection e with _ e _;subst e;decide)) (k9.keep _ _ HBL8.out.2 (fun C T fr e=>by injection e with _ e _;subst e;decide)));have HK9:=lhd (HK8.out.trans k9);have HB9:=lhd (HB8.out.trans k9.b);clear hHeld h9 k9 hb8 hbq;go_wp2_with fail;refine hK.out _ _ HS9.out (fun hHeld=>?_);clear hK;try simp only[tkS]
    refine wpAnyH_done (by kernel_rfl) ?_ _;clear hHeld;go_wp2_with fail;go_roundw;case rel=>exact⟨k+1,hlt,by go_num,by rw[←HS2.out];exact HW9.out,HK9.out,HB9.out⟩
    case measure=>simp[intOf];omega
   by_cases hk1:n8=1
   ·have bk0:(n8==0)=false:=by rw[beq_eq_false_iff_ne];exact hk0
    have bk1:(n8==1)=true:=by rw[hk1];rfl
    have hsz:szD ⟨n0,n1,n2,n3,n4,n5,n6,n7,n8,n9⟩=64:=by unfold szD;exact(if_neg hk0).trans (if_pos hk1)
    clear hk0 hk1;rw[hsz]at HIT HLN HS2;go_upto_region 11 with fail;generalize (wr.alloc (.cells #[.string (bsB n0),.int .i64 n1,.int .i64 n2,.int .i64 n3,.bool n4,.int .i64 n5,.int .i64 n6,.string (bsB n7),.int .i64 n8,.int .i64 n9] 50)).alloc (.cells #[.string (bsB n0),.int .i64 n1,.int .i64 n2,.int .i64 n3,.bool n4,.int .i64 n5,.int .i64 n6] 48)=wB at*;have HSV:=lhd (show ∀V:World,Below wB.heap.size wB V→V.cell? ⟨wr.heap.size,7,none⟩=some (.string (bsB n7))∧V.cell? ⟨wr.heap.size+1,0,none⟩=some (.string (bsB n0))∧V.cell? ⟨wr.heap.size+1,1,none⟩=some (.int .i64 n1)∧V.cell? ⟨wr.heap.size+1,4,none⟩=some (.bool n4)∧V.cell? ⟨wr.heap.size+1,5,none⟩=some (.int .i64 n5)∧V.cell? ⟨wr.heap.size+1,6,none⟩=some (.int .i64 n6)from fun V hV=>HSK.out V ((hV.block _ (by have:=HZB.out;omega)).trans HBK.out.1) ((hV.block _ HZB.out).trans HBK.out.2));have hbq:Below wB.heap.size wB wB.drew:=(Below.refl _ _).drew;refine wp_region_held_drew (S:=fun w'=>w'.cell? ⟨wr.heap.size,7,none⟩=some (.string (bsB n7))∧w'.cell? ⟨wr.heap.size+1,0,none⟩=some (.string (bsB n0))∧w'.cell? ⟨wr.heap.size+1,1,none⟩=some (.int .i64 n1)∧w'.cell? ⟨wr.heap.size+1,4,none⟩=some (.bool n4)∧w'.cell? ⟨wr.heap.size+1,5,none⟩=some (.int .i64 n5)∧w'.cell? ⟨wr.heap.size+1,6,none⟩=some (.int .i64 n6)) (by kernel_rfl) (HSV.out _ hbq) (fun hHeld=>?_);refine tkH 0 hHeld (v:=?_) ?_ ?_;rotate_left
    ·intro w h;(try dsimp only at h);go_simp;all_goals with_reducible rfl
    simp only[tkS];refine tkH 1 hHeld (v:=?_) ?_ ?_;rotate_left
    ·intro w h;(try dsimp only at h);go_simp;all_goals with_reducible rfl
    simp only[tkS];refine tkH 2 hHeld (v:=?_) ?_ ?_;rotate_left
    ·intro w h;(try dsimp only at h);go_simp;all_goals with_reducible rfl
    simp only[tkS];refine tkH 4 hHeld (v:=?_) ?_ ?_;rotate_left
    ·intro w h;(try dsimp only at h);go_simp;all_goals with_reducible rfl
    simp only[tkS];refine tkH 6 hHeld (v:=?_) ?_ ?_;rotate_left
    ·intro w h;(try dsimp only at h);go_simp;all_goals with_reducible rfl
    simp only[tkS];refine tkH 7 hHeld (v:=?_) ?_ ?_;rotate_left
    ·intro w h;(try dsimp only at h);go_simp;all_goals with_reducible rfl
    simp only[tkS];refine tkH 8 hHeld (v:=?_) ?_ ?_;rotate_left
    ·intro w h;(try dsimp only at h);go_simp;all_goals with_reducible rfl
    simp only[tkS];refine tkH 9 hHeld (v:=?_) ?_ ?_;rotate_left
    ·intro w h;(try dsimp only at h);go_simp;all_goals with_reducible rfl
    simp only[tkS];refine tkH 10 hHeld (v:=?_) ?_ ?_;rotate_left
    ·intro w h;(try dsimp only at h);go_simp;all_goals with_reducible rfl
    simp only[tkS];refine tkH 11 hHeld (v:=?_) ?_ ?_;rotate_left
    ·intro w h;(try dsimp only at h);go_simp;all_goals with_reducible rfl
    simp only[tkS];refine tkH 12 hHeld (v:=?_) ?_ ?_;rotate_left
    ·intro w h;(try dsimp only at h);go_simp;all_goals with_reducible rfl
    simp only[tkS];refine tkH 13 hHeld (v:=?_) ?_ ?_;rotate_left
    ·intro w h;(try dsimp only at h);go_simp;all_goals with_reducible rfl
    simp only[tkS];refine tkH 14 hHeld (v:=?_) ?_ ?_;rotate_left
    ·intro w h;(try dsimp only at h);go_simp;all_goals with_reducible rfl
    simp only[tkS];refine tkH 15 hHeld (v:=?_) ?_ ?_;rotate_left
    ·intro w h;(try dsimp only at h);go_simp;all_goals with_reducible rfl
    simp only[tkS];generalize wB.drew=wC at*;refine oneH 3 (fun K hK=>?_);go_simp;refine(zdk n1 wC).mono ?_;rintro e w5 ⟨rfl,hb5⟩;have hbq:=zd5 hbq hb5;clear hHeld hb5;go_wp2_with fail;refine hK.out _ _ (HSV.out _ hbq) (fun hHeld=>?_);clear hK;try simp only[tkS]
    refine oneH 5 (fun K hK=>?_);go_simp;refine(HIT.out w5 (zd5 HBB.out hbq)).mono ?_;rintro e w6 ⟨rfl,hb6⟩;have hbq:=zd5 hbq hb6;clear hHeld hb6;go_wp2_with fail;refine hK.out _ _ (HSV.out _ hbq) (fun hHeld=>?_);clear hK;try simp only[tkS]
    refine oneH 16 (fun K hK=>?_);go_simp;refine(HRF.out w6 (zd5 HBB.out hbq)).mono ?_;rintro e w7 ⟨rfl,hb7⟩;have hbq:=zd5 hbq hb7;clear hHeld hb7;go_wp2_with fail;refine hK.out _ _ (HSV.out _ hbq) (fun hHeld=>?_);clear hK;try simp only[tkS]
    refine oneH 17 (fun K hK=>?_);go_simp;have hb8:Below wB.heap.size wB (w7.alloc (.cells #[.string ⟨#[36,118,97,114]⟩,.string (bsB (zhx varW n1)),.string (bsB (Lib.itoa (64:Int))),.string (bsB n7),.string (bsB (refT ⟨n0,n1,n2,n3,n4,n5,n6,n7,n8,n9⟩))] 9)):=hbq.alloc hbq.size _;have HB8:=lhd (zd5 HBB.out hb8);have HO8:=lhd (zjt (w:=w7) (B:=w0.heap.size) (C:=#[.string ⟨#[36,118,97,114]⟩,.string (bsB (zhx varW n1)),.string (bsB (Lib.itoa (64:Int))),.string (bsB n7),.string (bsB (refT ⟨n0,n1,n2,n3,n4,n5,n6,n7,n8,n9⟩))]) (n:=5) (Nat.le_trans HBB.out.size hbq.size) rfl (by omega));have HW8:=lhd (HWB.out.below hb8);have HK8:=lhd (HKB.out.trans (KW.of_below hb8 HBB.out.size));have HBL8:=lhd (And.intro ((hb8.block _ (by have:=HZB.out;omega)).trans HBK.out.1) ((hb8.block _ HZB.out).trans HBK.out.2));refine hK.out _ _ (HSV.out _ hb8) (fun hHeld=>?_);clear hK;try simp only[tkS]
    generalize (w7.alloc (.cells #[.string ⟨#[36,118,97,114]⟩,.string (bsB (zhx varW n1)),.string (bsB (Lib.itoa (64:Int))),.string (bsB n7),.string (bsB (refT ⟨n0,n1,n2,n3,n4,n5,n6,n7,n8,n9⟩))] 9))=w8 at*;refine oneH 18 (fun K hK=>?_);go_simp;refine(zqt w0.heap.size b d0 d1 d2 d3 _ _ (bs++zo4 (D.take k) p) _ [sVar,zhx varW n1,Lib.itoa (64:Int),n7,refT ⟨n0,n1,n2,n3,n4,n5,n6,n7,n8,n9⟩] w8 HW8.out HO8.out (by simp) HLN.out HB8.out.size).mono ?_;rintro e w9 ⟨rfl,h9,k9⟩;have HW9:=lhd h9;have HS9:=lhd (HSK.out w9 (k9.keep _ _ HBL8.out.1 (fun C T fr e=>by injection e with _ e _;subst e;decide)) (k9.keep _ _ HBL8.out.2 (fun C T fr e=>by injection e with _ e _;subst e;decide)));have HK9:=lhd (HK8.out.trans k9);have HB9:=lhd (HB8.out.trans k9.b);clear hHeld h9 k9 hb8 hbq;go_wp2_with fail;refine hK.out _ _ HS9.out (fun hHeld=>?_);clear hK;try simp only[tkS]
    refine wpAnyH_done (by kernel_rfl) ?_ _;clear hHeld;go_wp2_with fail;go_roundw;case rel=>exact⟨k+1,hlt,by go_num,by rw[←HS2.out];exact HW9.out,HK9.out,HB9.out⟩
    case measure=>simp[intOf];omega
   ·have bk0:(n8==0)=false:=by rw[beq_eq_false_iff_ne];exact hk0
    have bk1:(n8==1)=false:=by rw[beq_eq_false_iff_ne];exact hk1
    have hsz:szD ⟨n0,n1,n2,n3,n4,n5,n6,n7,n8,n9⟩=1:=by unfold szD;exact(if_neg hk0).trans (if_neg hk1)
    clear hk0 hk1;rw[hsz]at HIT HLN HS2;go_upto_region 11 with fail;generalize (wr.alloc (.cells #[.string (bsB n0),.int .i64 n1,.int .i64 n2,.int .i64 n3,.bool n4,.int .i64 n5,.int .i64 n6,.string (bsB n7),.int .i64 n8,.int .i64 n9] 50)).alloc (.cells #[.string (bsB n0),.int .i64 n1,.int .i64 n2,.int .i64 n3,.bool n4,.int .i64 n5,.int .i64 n6] 48)=wB at*;have HSV:=lhd (show ∀V:World,Below wB.heap.size wB V→V.cell? ⟨wr.heap.size,7,none⟩=some (.string (bsB n7))∧V.cell? ⟨wr.heap.size+1,0,none⟩=some (.string (bsB n0))∧V.cell? ⟨wr.heap.size+1,1,none⟩=some (.int .i64 n1)∧V.cell? ⟨wr.heap.size+1,4,none⟩=some (.bool n4)∧V.cell? ⟨wr.heap.size+1,5,none⟩=some (.int .i64 n5)∧V.cell? ⟨wr.heap.size+1,6,none⟩=some (.int .i64 n6)from fun V hV=>HSK.out V ((hV.block _ (by have:=HZB.out;omega)).trans HBK.out.1) ((hV.block _ HZB.out).trans HBK.out.2));have hbq:Below wB.heap.size wB wB.drew:=(Below.refl _ _).drew;refine wp_region_held_drew (S:=fun w'=>w'.cell? ⟨wr.heap.size,7,none⟩=some (.string (bsB n7))∧w'.cell? ⟨wr.heap.size+1,0,none⟩=some (.string (bsB n0))∧w'.cell? ⟨wr.heap.size+1,1,none⟩=some (.int .i64 n1)∧w'.cell? ⟨wr.heap.size+1,4,none⟩=some (.bool n4)∧w'.cell? ⟨wr.heap.size+1,5,none⟩=some (.int .i64 n5)∧w'.cell? ⟨wr.heap.size+1,6,none⟩=some (.int .i64 n6)) (by kernel_rfl) (HSV.out _ hbq) (fun hHeld=>?_);refine tkH 0 hHeld (v:=?_) ?_ ?_;rotate_left
    ·intro w h;(try dsimp only at h);go_simp;all_goals with_reducible rfl
    simp only[tkS];refine tkH 1 hHeld (v:=?_) ?_ ?_;rotate_left
    ·intro w h;(try dsimp only at h);go_simp;all_goals with_reducible rfl
    simp only[tkS];refine tkH 2 hHeld (v:=?_) ?_ ?_;rotate_left
    ·intro w h;(try dsimp only at h);go_simp;all_goals with_reducible rfl
    simp only[tkS];refine tkH 4 hHeld (v:=?_) ?_ ?_;rotate_left
    ·intro w h;(try dsimp only at h);go_simp;all_goals with_reducible rfl
    simp only[tkS];refine tkH 6 hHeld (v:=?_) ?_ ?_;rotate_left
    ·intro w h;(try dsimp only at h);go_simp;all_goals with_reducible rfl
    simp only[tkS];refine tkH 7 hHeld (v:=?_) ?_ ?_;rotate_left
    ·intro w h;(try dsimp only at h);go_simp;all_goals with_reducible rfl
    simp only[tkS];refine tkH 8 hHeld (v:=?_) ?_ ?_;rotate_left
    ·intro w h;(try dsimp only at h);go_simp;all_goals with_reducible rfl
    simp only[tkS];refine tkH 9 hHeld (v:=?_) ?_ ?_;rotate_left
    ·intro w h;(try dsimp only at h);go_simp;all_goals with_reducible rfl
    simp only[tkS];refine tkH 10 hHeld (v:=?_) ?_ ?_;rotate_left
    ·intro w h;(try dsimp only at h);go_simp;all_goals with_reducible rfl
    simp only[tkS];refine tkH 11 hHeld (v:=?_) ?_ ?_;rotate_left
    ·intro w h;(try dsimp only at h);go_simp;all_goals with_reducible rfl
    simp only[tkS];refine tkH 12 hHeld (v:=?_) ?_ ?_;rotate_left
    ·intro w h;(try dsimp only at h);go_simp;all_goals with_reducible rfl
    simp only[tkS];refine tkH 13 hHeld (v:=?_) ?_ ?_;rotate_left
    ·intro w h;(try dsimp only at h);go_simp;all_goals with_reducible rfl
    simp only[tkS];refine tkH 14 hHeld (v:=?_) ?_ ?_;rotate_left
    ·intro w h;(try dsimp only at h);go_simp;all_goals with_reducible rfl
    simp only[tkS];refine tkH 15 hHeld (v:=?_) ?_ ?_;rotate_left
    ·intro w h;(try dsimp only at h);go_simp;all_goals with_reducible rfl
    simp only[tkS];generalize wB.drew=wC at*;refine oneH 3 (fun K hK=>?_);go_simp;refine(zdk n1 wC).mono ?_;rintro e w5 ⟨rfl,hb5⟩;have hbq:=zd5 hbq hb5;clear hHeld hb5;go_wp2_with fail;refine hK.out _ _ (HSV.out _ hbq) (fun hHeld=>?_);clear hK;try simp only[tkS]
    refine oneH 5 (fun K hK=>?_);go_simp;refine(HIT.out w5 (zd5 HBB.out hbq)).mono ?_;rintro e w6 ⟨rfl,hb6⟩;have hbq:=zd5 hbq hb6;clear hHeld hb6;go_wp2_with fail;refine hK.out _ _ (HSV.out _ hbq) (fun hHeld=>?_);clear hK;try simp only[tkS]
    refine oneH 16 (fun K hK=>?_);go_simp;refine(HRF.out w6 (zd5 HBB.out hbq)).mono ?_;rintro e w7 ⟨rfl,hb7⟩;have hbq:=zd5 hbq hb7;clear hHeld hb7;go_wp2_with fail;refine hK.out _ _ (HSV.out _ hbq) (fun hHeld=>?_);clear hK;try simp only[tkS]
    refine oneH 17 (fun K hK=>?_);go_simp;have hb8:Below wB.heap.size wB (w7.alloc (.cells #[.string ⟨#[36,118,97,114]⟩,.string (bsB (zhx varW n1)),.string (bsB (Lib.itoa (1:Int))),.string (bsB n7),.string (bsB (refT ⟨n0,n1,n2,n3,n4,n5,n6,n7,n8,n9⟩))] 9)):=hbq.alloc hbq.size _;have HB8:=lhd (zd5 HBB.out hb8);have HO8:=lhd (zjt (w:=w7) (B:=w0.heap.size) (C:=#[.string ⟨#[36,118,97,114]⟩,.string (bsB (zhx varW n1)),.string (bsB (Lib.itoa (1:Int))),.string (bsB n7),.string (bsB (refT ⟨n0,n1,n2,n3,n4,n5,n6,n7,n8,n9⟩))]) (n:=5) (Nat.le_trans HBB.out.size hbq.size) rfl (by omega));have HW8:=lhd (HWB.out.below hb8);have HK8:=lhd (HKB.out.trans (KW.of_below hb8 HBB.out.size));have HBL8:=lhd (And.intro ((hb8.block _ (by have:=HZB.out;omega)).trans HBK.out.1) ((hb8.block _ HZB.out).trans HBK.out.2));refine hK.out _ _ (HSV.out _ hb8) (fun hHeld=>?_);clear hK;try simp only[tkS]
    generalize (w7.alloc (.cells #[.string ⟨#[36,118,97,114]⟩,.string (bsB (zhx varW n1)),.string (bsB (Lib.itoa (1:Int))),.string (bsB n7),.string (bsB (refT ⟨n0,n1,n2,n3,n4,n5,n6,n7,n8,n9⟩))] 9))=w8 at*;refine oneH 18 (fun K hK=>?_);go_simp;refine(zqt w0.heap.size b d0 d1 d2 d3 _ _ (bs++zo4 (D.take k) p) _ [sVar,zhx varW n1,Lib.itoa (1:Int),n7,refT ⟨n0,n1,n2,n3,n4,n5,n6,n7,n8,n9⟩] w8 HW8.out HO8.out (by simp) HLN.out HB8.out.size).mono ?_;rintro e w9 ⟨rfl,h9,k9⟩;have HW9:=lhd h9;have HS9:=lhd (HSK.out w9 (k9.keep _ _ HBL8.out.1 (fun C T fr e=>by injection e with _ e _;subst e;decide)) (k9.keep _ _ HBL8.out.2 (fun C T fr e=>by injection e with _ e _;subst e;decide)));have HK9:=lhd (HK8.out.trans k9);have HB9:=lhd (HB8.out.trans k9.b);clear hHeld h9 k9 hb8 hbq;go_wp2_with fail;refine hK.out _ _ HS9.out (fun hHeld=>?_);clear hK;try simp only[tkS]
    refine wpAnyH_done (by kernel_rfl) ?_ _;clear hHeld;go_wp2_with fail;go_roundw;case rel=>exact⟨k+1,hlt,by go_num,by rw[←HS2.out];exact HW9.out,HK9.out,HB9.out⟩
    case measure=>simp[intOf];omega
  ·obtain rfl:k=D.length:=by omega
   have HW1:=lhd (show WrI w0.heap.size b d0 d1 d2 d3 (.slice aS S.length cS) (.slice aD D.length cD) (Lib.byteCells (bs++zo4 D p)) wr by have:=HWR.out;rwa [List.take_length]at this)
   have c4:wr.cell? ⟨b,4,none⟩=some (.slice aS S.length cS):=by
    rcases HW1.out with⟨-,v,hk,-⟩|⟨-,v,hk,-⟩<;>(rw[Lib.cell_of_heap hk];rfl)
   have HK1:=HKW;have HB1:=HBR;clear HWR HKW HBR hlt hk;obtain⟨w1,hw1⟩:∃w1,w1=wr:=⟨_,rfl⟩;subst hw1;go_wp2_with fail;go_loopw [60] (fun i wr=>∃k:Nat,k≤S.length∧i=.int .i64 k∧WrI w0.heap.size b d0 d1 d2 d3 (.slice aS S.length cS) (.slice aD D.length cD) (Lib.byteCells (bs++zo4 D p++subT S D f p k)) wr∧KW w0.heap.size w wr∧Below w0.heap.size w0 wr) (fun i _=>S.length-(intOf i).toNat)
   case atStart=>exact⟨0,Nat.zero_le _,rfl,by rw[show subT S D f p 0=[]from rfl,List.append_nil];exact HW1.out,HK1.out,HB1.out⟩
   case round=>
    obtain⟨k,hk,rfl,hwr,hkw,hbr⟩:=hrel;have HWR:=lhd hwr;have HKW:=lhd hkw;have HBR:=lhd hbr;clear hwr hkw hbr;by_cases hlt:k<S.length
    ·obtain⟨bd,od,rfl,hcell⟩:=(HSS.out.below HBR.out).scs hlt;have HST:=lhd (znq S D f p k);have HLE:=lhd (znp S D f p (show k+1≤S.length from hlt));obtain⟨⟨m0,m1,m2⟩,hx⟩:∃x,x=S[k]:=⟨_,rfl⟩;rw[←hx]at hcell;have HPS:=lhd (show parS S k=m2 by rw[zjD hlt,←hx]);have HGD:=lhd (show S.getD k ([],0,0)=(m0,m1,m2)by rw[List.getD_eq_getElem?_getD,List.getElem?_eq_getElem hlt,hx];rfl);have e0:wr.cell? ⟨bd,od+k*3,none⟩=some (.string (bsB m0)):=hcell 0 _ rfl;have e1:wr.cell? ⟨bd,od+k*3+1,none⟩=some (.int .i64 m1):=hcell 1 _ rfl;have e2:wr.cell? ⟨bd,od+k*3+2,none⟩=some (.int .i64 m2):=hcell 2 _ rfl;clear hcell hx;have hbB:Below wr.heap.size wr (wr.alloc (.cells #[.string (bsB m0),.int .i64 m1,.int .i64 m2] 84)):=(Below.refl _ _).alloc (Nat.le_refl _) _;by_cases hsc:m2=p
     rotate_left
     ·have b2:(m2==p)=false:=by rw[beq_eq_false_iff_ne];exact hsc
      have HS2:=lhd (show subT S D f p (k+1)=subT S D f p k by rw[HST.out,HPS.out,if_neg hsc,List.append_nil]);have HWB:=lhd (HWR.out.below hbB);have HKB:=lhd (HKW.out.trans (KW.of_below hbB HBR.out.size));have HBB:=lhd (zd5 HBR.out hbB);clear hsc hbB;go_wp2_with fail;go_roundw;case rel=>exact⟨k+1,hlt,by go_num,by rw[HS2.out];exact HWB.out,HKB.out,HBB.out⟩
      case measure=>simp[intOf];omega
     have b2:(m2==p)=true:=by rw[hsc];simp
     have HS2:=lhd (show subT S D f p (k+1)=subT S D f p k++(zgL [zlC,zhx zl4 m1,m0]++(zgS (inT S D f k)++zgL [zlE]))by rw[HST.out,HPS.out,if_pos hsc,HGD.out];rfl)
     have HLN:=lhd (show(bs++zo4 D p++subT S D f p k).length+((zgL [zlC,zhx zl4 m1,m0]).length+((zgS (inT S D f k)).length+(zgL [zlE]).length))≤1000000000 by
      have h1:=congrArg List.length HS2.out;have h2:=HLE.out;have h3:=HLL.out;simp only[List.length_append]at h1 h3⊢;omega)
     have HBK:=lhd (heap_alloc_new wr (.cells #[.string (bsB m0),.int .i64 m1,.int .i64 m2] 84));have HSK:=lhd (show ∀V:World,V.heap[wr.heap.size]? =some (.cells #[.string (bsB m0),.int .i64 m1,.int .i64 m2] 84 (0,0))→V.cell? ⟨wr.heap.size,0,none⟩=some (.string (bsB m0))∧V.cell? ⟨wr.heap.size,1,none⟩=some (.int .i64 m1)from fun V h1=>⟨by rw[Lib.cell_of_heap h1];rfl,by rw[Lib.cell_of_heap h1];rfl⟩);have HWB:=lhd (HWR.out.below hbB);have HKB:=lhd (HKW.out.trans (KW.of_below hbB HBR.out.size));have HBB:=lhd (zd5 HBR.out hbB);have HZB:=lhd (show wr.heap.size<(wr.alloc (.cells #[.string (bsB m0),.int .i64 m1,.int .i64 m2] 84)).heap.size by simp);have HPP:=lhd (show parS S k=p by rw[HPS.out,hsc]);clear hsc hbB;go_upto_region 17 with fail;generalize wr.alloc (.cells #[.string (bsB m0),.int .i64 m1,.int .i64 m2] 84)=wB at*;have HSV:=lhd (show ∀V:World,Below wB.heap.size wB V→V.cell? ⟨wr.heap.size,0,none⟩=some (.string (bsB m0))∧V.cell? ⟨wr.heap.size,1,none⟩=some (.int .i64 m1)from fun V hV=>HSK.out V ((hV.block _ HZB.out).trans HBK.out));have hbq:Below wB.heap.size wB wB.drew:=(Below.refl _ _).drew;refine wp_region_held_drew (S:=fun w'=>w'.cell? ⟨wr.heap.size,0,none⟩=some (.string (bsB m0))∧w'.cell? ⟨wr.heap.size,1,none⟩=some (.int .i64 m1)) (by kernel_rfl) (HSV.out _ hbq) (fun hHeld=>?_);refine tkH 0 hHeld (v:=?_) ?_ ?_;rotate_left
     ·intro w h;(try dsimp only at h);go_simp;all_goals with_reducible rfl
     simp only[tkS];refine tkH 1 hHeld (v:=?_) ?_ ?_;rotate_left
     ·intro w h;(try dsimp only at h);go_simp;all_goals with_reducible rfl
     simp only[tkS];refine tkH 2 hHeld (v:=?_) ?_ ?_;rotate_left
     ·intro w h;(try dsimp only at h);go_simp;all_goals with_reducible rfl
     simp only[tkS];refine tkH 4 hHeld (v:=?_) ?_ ?_;rotate_left
     ·intro w h;(try dsimp only at h);go_simp;all_goals with_reducible rfl
     simp only[tkS];refine tkH 5 hHeld (v:=?_) ?_ ?_;rotate_left
     ·intro w h;(try dsimp only at h);go_simp;all_goals with_reducible rfl
     simp only[tkS];generalize wB.drew=wC at*;refine oneH 3 (fun K hK=>?_);go_simp;refine(zdi m1 wC).mono ?_;rintro e w5 ⟨rfl,hb5⟩;have hbq:=zd5 hbq hb5;clear hHeld hb5;go_wp2_with fail;refine hK.out _ _ (HSV.out _ hbq) (fun hHeld=>?_);clear hK;try simp only[tkS]
     refine oneH 6 (fun K hK=>?_);go_simp;have hb8:Below wB.heap.size wB (w5.alloc (.cells #[.string ⟨#[36,115,99,111,112,101]⟩,.string (bsB (zhx zl4 m1)),.string (bsB m0)] 9)):=hbq.alloc hbq.size _;have HB8:=lhd (zd5 HBB.out hb8);have HO8:=lhd (zjt (w:=w5) (B:=w0.heap.size) (C:=#[.string ⟨#[36,115,99,111,112,101]⟩,.string (bsB (zhx zl4 m1)),.string (bsB m0)]) (n:=3) (Nat.le_trans HBB.out.size hbq.size) rfl (by omega));have HW8:=lhd (HWB.out.below hb8);have HK8:=lhd (HKB.out.trans (KW.of_below hb8 HBB.out.size));have HBL8:=lhd ((hb8.block _ HZB.out).trans HBK.out);refine hK.out _ _ (HSV.out _ hb8) (fun hHeld=>?_);clear hK;try simp only[tkS]
     generalize (w5.alloc (.cells #[.string ⟨#[36,115,99,111,112,101]⟩,.string (bsB (zhx zl4 m1)),.string (bsB m0)] 9))=w8 at*;refine oneH 7 (fun K hK=>?_);go_simp;refine(zqt w0.heap.size b d0 d1 d2 d3 _ _ (bs++zo4 D p++subT S D f p k) _ [zlC,zhx zl4 m1,m0] w8 HW8.out HO8.out (by simp) (by have:=HLN.out;omega) HB8.out.size).mono ?_;rintro e w9 ⟨rfl,h9,k9⟩;have HW9:=lhd h9;have HS9:=lhd (HSK.out w9 (k9.keep _ _ HBL8.out (fun C T fr e=>by injection e with _ e _;subst e;decide)));have HK9:=lhd (HK8.out.trans k9);have HB9:=lhd (HB8.out.trans k9.b);clear hHeld h9 k9 hb8 hbq;go_wp2_with fail;refine hK.out _ _ HS9.out (fun hHeld=>?_);clear hK;try simp only[tkS]
     refine wpAnyH_done (by kernel_rfl) ?_ _;clear hHeld;go_wp2_with fail;refine(HO.out k _ w9 hlt HPP.out HB9.out HW9.out (by have:=HLN.out;simp only[List.length_append]at this⊢;omega)).mono ?_;rintro e w10 ⟨rfl,h10,k10⟩;have HW10:=lhd h10;have HK10:=lhd (HK9.out.trans k10);have HB10:=lhd (HB9.out.trans k10.b);have hal:Below w10.heap.size w10 (w10.alloc (.cells #[.string ⟨#[36,117,112,115,99,111,112,101]⟩] 9)):=(Below.refl _ _).alloc (Nat.le_refl _) _;have HO11:=lhd (zjt (w:=w10) (B:=w0.heap.size) (C:=#[.string ⟨#[36,117,112,115,99,111,112,101]⟩]) (n:=1) HB10.out.size rfl (by omega));have HW11:=lhd (HW10.out.below hal);have HK11:=lhd (HK10.out.trans (KW.of_below hal HB10.out.size));have HB11:=lhd (zd5 HB10.out hal);clear h10 k10 hal;go_wp2_with fail;refine(zqt w0.heap.size b d0 d1 d2 d3 _ _ _ _ [zlE] _ HW11.out HO11.out (by simp) (by have:=HLN.out;simp only[List.length_append]at this⊢;omega) HB11.out.size).mono ?_;rintro e w12 ⟨rfl,h12,k12⟩;have HW12:=lhd h12;have HK12:=lhd (HK11.out.trans k12);have HB12:=lhd (HB11.out.trans k12.b);clear h12 k12;go_wp2_with fail;go_roundw;case rel=>exact⟨k+1,hlt,by go_num,by rw[HS2.out];simpa only[List.append_assoc] using HW12.out,HK12.out,HB12.out⟩
     case measure=>simp[intOf];omega
    ·obtain rfl:k=S.length:=by omega
     go_wp2_with fail;go_end0
     exact⟨rfl,by rw[←List.append_assoc];exact HWR.out,HKW.out⟩
end Go.Proofs.YtcdekelomkcahaaGreatDoor
