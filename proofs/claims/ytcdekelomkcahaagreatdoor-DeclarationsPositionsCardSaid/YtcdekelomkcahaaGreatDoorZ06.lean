import Derived.Test.YtcdekelomkcahaaGreatDoorZ00
import Derived.Test.YtcdekelomkcahaaGreatDoorZ01
set_option maxRecDepth 100000
set_option maxHeartbeats 16000000
namespace Go.Proofs.YtcdekelomkcahaaGreatDoor
open Go.RowKit
set_option linter.unusedSimpArgs false
def badD (n:Nat) (v:Vr):Bool:=decide (v.sc< -1)||decide ((n:Int)≤v.sc)||decide (v.sg<0)
theorem zeV (pt:Nat) (x:Vr) (a:Option Addr) (n cap:Nat) (w:World) (hc:w.cell? ⟨pt,0,none⟩=some (.slice a n cap)):
 Calls Tryz.prog 143 #[vrV x,.pointer (some ⟨pt,0,none⟩)] w fun e w'=>e=.returned (.bool (badD n x))∧Below w.heap.size w w':=by
 have hlt:=zbA hc;have hne:pt≠w.heap.size:=Nat.ne_of_lt hlt;obtain⟨nm,ty,sc,sg,rg,mb,lb⟩:=x;by_cases h1:sc< -1
 ·have b1:decide (sc< -1)=true:=by simpa using h1
  have HR:=lhd (show true=badD n ⟨nm,ty,sc,sg,rg,mb,lb⟩by simp[badD,b1]);clear h1;go_enter Tryz.func143,Tryz.ntmps143;go_wp2_with fail;go_ret;exact⟨zle HR.out,(Below.refl _ _).alloc (Nat.le_refl _) _⟩
 ·have b1:decide (sc< -1)=false:=by simpa using h1
  by_cases h2:(n:Int)≤sc
  ·have b2:decide ((n:Int)≤sc)=true:=by simpa using h2
   have HR:=lhd (show true=badD n ⟨nm,ty,sc,sg,rg,mb,lb⟩by simp[badD,b2]);clear h1 h2;go_enter Tryz.func143,Tryz.ntmps143;go_wp2_with fail;go_ret;exact⟨zle HR.out,(Below.refl _ _).alloc (Nat.le_refl _) _⟩
  ·have b2:decide ((n:Int)≤sc)=false:=by simpa using h2
   by_cases h3:sg<0
   ·have b3:decide (sg<0)=true:=by simpa using h3
    have HR:=lhd (show true=badD n ⟨nm,ty,sc,sg,rg,mb,lb⟩by simp[badD,b3]);clear h1 h2 h3;go_enter Tryz.func143,Tryz.ntmps143;go_wp2_with fail;go_ret;exact⟨zle HR.out,(Below.refl _ _).alloc (Nat.le_refl _) _⟩
   ·have b3:decide (sg<0)=false:=by simpa using h3
    have HR:=lhd (show false=badD n ⟨nm,ty,sc,sg,rg,mb,lb⟩by simp[badD,b1,b2,b3]);clear h1 h2 h3;go_enter Tryz.func143,Tryz.ntmps143;go_wp2_with fail;go_ret;exact⟨zle HR.out,(Below.refl _ _).alloc (Nat.le_refl _) _⟩
def scOk (k:Nat):List Sc→Bool
 | []=>true
 |s::t=>decide (-1≤s.2.2)&&decide (s.2.2<(k:Int))&&scOk (k+1) t
theorem zlN:∀(S:List Sc) (k:Nat),(S.zipIdx k).all (fun x=>decide (-1≤x.1.2.2)&&decide (x.1.2.2<(x.2:Int)))=scOk k S
 | [],_=>rfl
 |s::t,k=>by rw[List.zipIdx_cons,List.all_cons,zlN t (k+1)];rfl
theorem zcW (S:List Sc) (V:List Vr):zcV S V=(scOk 0 S&&!V.any (badD S.length)):=by
 unfold zcV;rw[zlN];congr 1
 rw[List.not_any_eq_all_not];congr 1
 funext v
 unfold badD;rw[Bool.eq_iff_iff];simp only[Bool.and_eq_true,decide_eq_true_iff,Bool.not_eq_true',Bool.or_eq_false_iff,decide_eq_false_iff_not];omega
theorem box1 {w W:World} {x:Value} {T:TypeId} (hb:Below (w.alloc (.cells #[x] T)).heap.size (w.alloc (.cells #[x] T)) W):W.cell? ⟨w.heap.size,0,none⟩=some x∧w.heap.size<W.heap.size:=by
 have h1:w.heap.size<(w.alloc (.cells #[x] T)).heap.size:=by simp
 have h2:=hb.size;refine⟨?_,by omega⟩;rw[hb.cell (p:=⟨w.heap.size,0,none⟩) h1];exact(zaq.fresh w #[x] T).cell (j:=0) rfl
theorem zeU (v v2:Value) (S:List Sc) (V:List Vr) (w:World) (hs:SlR w v S.length (scs S)) (hv:SlR w v2 V.length (vrs V)) (hl:S.length≤1000000):
 Calls Tryz.prog 95 #[v,v2] w fun e w'=>e=.returned (.bool (zcV S V))∧Below w.heap.size w w':=by
 have HEQ:=lhd (zcW S V);obtain⟨a,cap,rfl,hc,hm⟩:=hs.shape;have HS:=lhd hs;have HV:=lhd hv;clear hs hv hc hm
 have HX:=lhd (fun W hW=>zce w.heap.size (badD S.length) v2 V W (HV.out.below (zd3 (o:=.cells #[.slice a S.length cap] 22) hW)) (fun x hx U hU=>zeV w.heap.size x a S.length cap U (by
  have h1:=box1 hW;exact(hU.cell (p:=⟨w.heap.size,0,none⟩) h1.2).trans h1.1)))
 go_enter Tryz.func95,Tryz.ntmps95;go_wp2_with fail;have HB0:=lhd (Below.refl (w.alloc (.cells #[.slice a S.length cap] 22)).heap.size (w.alloc (.cells #[.slice a S.length cap] 22)));go_loopw [9] (fun i wr=>∃k:Nat,k≤S.length∧i=.int .i64 k∧scOk k (S.drop k)=scOk 0 S∧Below (w.alloc (.cells #[.slice a S.length cap] 22)).heap.size (w.alloc (.cells #[.slice a S.length cap] 22)) wr) (fun i _=>S.length-(intOf i).toNat)
 case atStart=>exact⟨0,Nat.zero_le _,rfl,rfl,HB0.out⟩
 case round=>
  obtain⟨k,hk,rfl,hgo,hb⟩:=hrel;have HB:=lhd hb;have HGO:=lhd hgo;obtain⟨c0,hz⟩:=box1 hb;clear hgo hb;by_cases hlt:k<S.length
  ·obtain⟨b,o,rfl,hcell⟩:=(HS.out.below (zd3 HB.out)).scs hlt
   have HGO2:=lhd (show(decide (-1≤S[k].2.2)&&decide (S[k].2.2<(k:Int))&&scOk (k+1) (S.drop (k+1)))=scOk 0 S by
    rw[←HGO.out,List.drop_eq_getElem_cons hlt];rfl)
   generalize S[k]=x at hcell HGO2;obtain⟨nm,ty,pa⟩:=x;have d0:wr.cell? ⟨b,o+k*3,none⟩=some (.string (bsB nm)):=hcell 0 _ rfl;have d1:wr.cell? ⟨b,o+k*3+1,none⟩=some (.int .i64 ty):=hcell 1 _ rfl;have d2:wr.cell? ⟨b,o+k*3+2,none⟩=some (.int .i64 pa):=hcell 2 _ rfl;clear hcell;dsimp only at HGO2;by_cases h1:pa< -1
   ·have b1:decide (pa< -1)=true:=by simpa using h1
    have HR:=lhd (show false=zcV S V by
     rw[HEQ.out,←HGO2.out,show decide (-1≤pa)=false by simp;omega];rfl)
    clear h1;go_wp2_with fail;go_ret;exact⟨zle HR.out,zd3 (HB.out.alloc HB.out.size _)⟩
   ·have b1:decide (pa< -1)=false:=by simpa using h1
    by_cases h2:(k:Int)≤pa
    ·have b2:decide ((k:Int)≤pa)=true:=by simpa using h2
     have HR:=lhd (show false=zcV S V by
      rw[HEQ.out,←HGO2.out,show decide (pa<(k:Int))=false by simp;omega,Bool.and_false];rfl)
     clear h1 h2;go_wp2_with fail;go_ret;exact⟨zle HR.out,zd3 (HB.out.alloc HB.out.size _)⟩
    ·have b2:decide ((k:Int)≤pa)=false:=by simpa using h2
     have HGO3:=lhd (show scOk (k+1) (S.drop (k+1))=scOk 0 S by
      rw[←HGO2.out,show decide (-1≤pa)=true by simp;omega,show decide (pa<(k:Int))=true by simp;omega];rfl)
     clear h1 h2;go_wp2_with fail;go_roundw;case rel=>exact⟨k+1,by omega,by go_num,HGO3.out,HB.out.alloc HB.out.size _⟩
     case measure=>simp[intOf];omega
  ·obtain rfl:k=S.length:=by omega
   have HR:=lhd (show(!V.any (badD S.length))=zcV S V by
    rw[HEQ.out,←HGO.out,List.drop_length];rfl)
   generalize V.any (badD S.length)=r at HX HR;go_wp2_with fail;refine(HX.out _ HB.out).mono ?_;rintro e w1 ⟨rfl,hb1⟩;have HB1:=lhd (zd5 (zd3 HB.out) hb1);clear hb1;go_wp2_with fail;go_ret;exact⟨zle HR.out,HB1.out⟩
def curL (cur:Bs):List Bs:=if cur=[]then []else [cur]
structure ScSt (s:Bs) (k:Nat) (ws:List Wd) (cur:Bs):Prop where
 t:∃d,ws.map (·.1)=d++curL cur∧zp1 s=d++wrd (s.drop k) cur
 c:cur≠ []→∃ini x,ws=ini++ [x]∧x.1=cur∧x.2.1=((k-cur.length:Nat):Int)
 e:cur.length≤k∧cur=(s.take k).drop (k-cur.length)
 l:ws.length≤k
theorem ScSt.start (s:Bs):ScSt s 0 [] []:=⟨⟨[],rfl,rfl⟩,fun h=>absurd rfl h,⟨Nat.le_refl _,rfl⟩,Nat.le_refl _⟩
theorem ScSt.white {s:Bs} {k:Nat} {ws:List Wd} {cur:Bs} (h:ScSt s k ws cur) (hk:k<s.length) (hw:isW s[k]=true):ScSt s (k+1) ws []:=by
 obtain⟨d,h1,h2⟩:=h.t;refine⟨⟨d++curL cur,by rw[h1];simp[curL],?_⟩,fun h=>absurd rfl h,⟨Nat.zero_le _,by simp⟩,by have:=h.l;omega⟩;rw[h2,List.drop_eq_getElem_cons hk,wrd,if_pos hw,List.append_assoc];congr 1
 unfold curL;split<;>rfl
theorem ScSt.new {s:Bs} {k:Nat} {ws:List Wd} (h:ScSt s k ws []) (hk:k<s.length) (hw:isW s[k]=false) (p q:Int):ScSt s (k+1) (ws++ [([s[k]],(k:Int),p,q)]) [s[k]]:=by
 obtain⟨d,h1,h2⟩:=h.t;refine⟨⟨d,?_,?_⟩,fun _=>⟨ws,_,rfl,rfl,?_⟩,⟨by simp,?_⟩,by have:=h.l;simp;omega⟩
 ·rw[List.map_append,h1];simp[curL]
 ·rw[h2,List.drop_eq_getElem_cons hk,wrd,if_neg (by rw[hw];simp)];rfl
 ·simp
 ·rw[List.take_succ_eq_append_getElem hk,List.length_singleton,Nat.add_sub_cancel,List.drop_append_of_le_length (by simp;omega),List.drop_of_length_le (by simp;omega)];rfl
theorem ScSt.more {s:Bs} {k:Nat} {ini:List Wd} {x:Wd} {cur:Bs} (h:ScSt s k (ini++ [x]) cur) (hx:x.1=cur) (hc:cur≠ []) (hk:k<s.length) (hw:isW s[k]=false) (ho:x.2.1=((k-cur.length:Nat):Int)):
 ScSt s (k+1) (ini++ [(cur++ [s[k]],x.2)]) (cur++ [s[k]]):=by
 obtain⟨d,h1,h2⟩:=h.t;obtain⟨e1,e2⟩:=h.e;refine⟨⟨d,?_,?_⟩,fun _=>⟨ini,_,rfl,rfl,?_⟩,⟨by simp;omega,?_⟩,by have:=h.l;simp at this⊢;omega⟩
 ·rw[List.map_append,List.map_cons,List.map_nil]at h1⊢;have:curL cur=[cur]:=by unfold curL;rw[if_neg hc]
  rw[this,hx]at h1;have h3:=List.append_inj_left' h1 rfl;rw[h3];unfold curL;rw[if_neg (by simp)]
 ·rw[h2,List.drop_eq_getElem_cons hk,wrd,if_neg (by rw[hw];simp)]
 ·rw[ho];simp
 ·rw[List.take_succ_eq_append_getElem hk,List.length_append,List.length_singleton,show k+1-(cur.length+1)=k-cur.length by omega,List.drop_append_of_le_length (by simp;omega),←e2]
theorem ScSt.fin {s:Bs} {ws:List Wd} {cur:Bs} (h:ScSt s s.length ws cur):ws.map (·.1)=zp1 s:=by
 obtain⟨d,h1,h2⟩:=h.t;rw[h1,h2,List.drop_length,wrd];rfl
theorem ScSt.text {s:Bs} {k:Nat} {ws:List Wd} {cur:Bs} (h:ScSt s k ws cur) (hk:k<s.length):(s.take (k+1)).drop (k-cur.length)=cur++ [s[k]]:=by
 obtain⟨e1,e2⟩:=h.e;rw[List.take_succ_eq_append_getElem hk,List.drop_append_of_le_length (by simp;omega),←e2]
open Go.RowKit Go.Shelf
attribute [local go_sem] Oper.semAt_some
def plc (s:Bs) (k:Nat):Int×Int×Int:=(s.take k).foldl behP (0,1,1)
theorem zjU {s:Bs} {k:Nat} (h:k<s.length):plc s (k+1)=behP (plc s k) s[k]:=by
 unfold plc;rw[List.take_succ_eq_append_getElem h,List.foldl_append];rfl
theorem zjT:∀{s:Bs} {k:Nat},k≤s.length→(plc s k).1=k∧1≤(plc s k).2.1∧(plc s k).2.1≤k+1∧1≤(plc s k).2.2∧(plc s k).2.2≤k+1
 |s,0,_=>⟨rfl,(by decide:(1:Int)≤1),(by decide:(1:Int)≤((0:Nat):Int)+1),(by decide:(1:Int)≤1),(by decide:(1:Int)≤((0:Nat):Int)+1)⟩
 |s,k+1,h=>by
  obtain⟨h1,h2,h3,h4,h5⟩:=zjT (s:=s) (k:=k) (by omega);rw[zjU (by omega)];unfold behP;split
  ·refine⟨?_,?_,?_,?_,?_⟩<;>simp only<;>omega
  ·refine⟨?_,?_,?_,?_,?_⟩<;>simp only<;>omega
theorem zjf {w:World} {b:Nat} {C:Array Value} {T:TypeId} (h:w.heap[b]? =some (.cells C T (0,0))):zaq w b C.toList:=fun j v hj=>by
 rw[Array.getElem?_toList]at hj;exact⟨by simp[World.cell?,h,hj],by simp[World.frozen?,h]⟩
theorem za8 {w w':World} {b:Nat} {o:Obj} (h:w.heap[b]? =some o) (hb:Below w.heap.size w w'):w'.heap[b]? =some o:=by rw[hb.block b (Array.getElem?_eq_some_iff.1 h).1];exact h
theorem zeJ {W:World} {b:Nat} {x y z x' y' z':Value} {T:TypeId} (h:W.heap[b]? =some (.cells #[x,y,z] T (0,0))):(((W.setCell ⟨b,0,none⟩ x').setCell ⟨b,1,none⟩ y').setCell ⟨b,2,none⟩ z').heap[b]? =some (.cells #[x',y',z'] T (0,0)):=by
 simp[World.setCell,Array.getElem?_modify,h]
theorem zeH {W:World} {b b':Nat} {x' y' z':Value} {o:Obj} (hne:b≠b') (h:W.heap[b]? =some o):(((W.setCell ⟨b',0,none⟩ x').setCell ⟨b',1,none⟩ y').setCell ⟨b',2,none⟩ z').heap[b]? =some o:=by
 rw[Below.heap_setCell _ _ _ _ hne,Below.heap_setCell _ _ _ _ hne,Below.heap_setCell _ _ _ _ hne];exact h
theorem zn0 {B:Nat} {W:World} {b:Nat} {x y z x' y' z':Value} {T:TypeId} (h:W.heap[b]? =some (.cells #[x,y,z] T (0,0))) (hB:B≤b):TurnJ B T W (((W.setCell ⟨b,0,none⟩ x').setCell ⟨b,1,none⟩ y').setCell ⟨b,2,none⟩ z'):=by
 have h1:(W.setCell ⟨b,0,none⟩ x').heap[b]? =some (.cells #[x',y,z] T (0,0)):=by simp[World.setCell,Array.getElem?_modify,h]
 have h2:((W.setCell ⟨b,0,none⟩ x').setCell ⟨b,1,none⟩ y').heap[b]? =some (.cells #[x',y',z] T (0,0)):=by simp[World.setCell,Array.getElem?_modify,h]
 exact((TurnJ.setCell h hB 0 x').trans (TurnJ.setCell h1 hB 1 y')).trans (TurnJ.setCell h2 hB 2 z')
def zng (s:Bs) (k:Nat):Array Value:=#[.agg #[.int .i64 (plc s k).1,.int .i64 (plc s k).2.1,.int .i64 (plc s k).2.2,.int .u8 ((s.getD k 0).toNat:Int)]]
def KpS (W V:World):Prop:=∀(b:Nat) (C:Array Value) (T:TypeId) (fr:Nat×Nat),T=113∨T=9→W.heap[b]? =some (.cells C T fr)→V.heap[b]? =some (.cells C T fr)
theorem KpS.trans {A B C:World} (h:KpS A B) (k:KpS B C):KpS A C:=fun b D T fr hT hb=>k b D T fr hT (h b D T fr hT hb)
theorem KpS.same0 {W V:World} (h:Same0 W V):KpS W V:=fun b C T fr _ hb=>h.cells b C T fr hb
theorem KpS.below {W V:World} (h:Below W.heap.size W V):KpS W V:=fun b C T fr _ hb=>by rw[h.block b (Array.getElem?_eq_some_iff.1 hb).1];exact hb
theorem znj (n:Nat) (hn:2≤n) (lp Bs0 B:Nat) (s:Bs) (hlen:s.length≤100000) (J:Nat→World→Prop) (W:World) (hB:B≤W.heap.size)
 (hJ:∀k X Y,J k X→TurnJ B 113 X Y→J k Y)
 (hY:∀k W1,J k W1→k<s.length→YieldAt Fence.wide (n-1) Tryz.prog lp (zng s k) W1 fun e W'=>e=.returned (.bool true)∧J (k+1) W'∧KpS W1 W')
 (fr:Nat×Nat) (hc:W.heap[Bs0]? =some (.cells #[.string (bsB s)] 9 fr)) (h0:J 0 W):
 CallsIn Fence.wide n Tryz.prog 115 #[.func (.yield lp) #[] #[],.pointer (some ⟨Bs0,0,none⟩)] W fun e W'=>(∃v,e=.returned v)∧J s.length W':=by
 have hro:Fence.wide.round=none:=rfl;refine callsIn_of_wp Tryz.func115 rfl trivial ?_ hro;simp only[Tryz.ntmps115,List.size_toArray,List.length_cons,List.length_nil,Nat.reduceAdd,Nat.reduceSub,Array.replicate_succ,Array.replicate_zero,List.push_toArray,List.append_toArray,List.nil_append,List.cons_append];have hal:Below W.heap.size W (W.alloc (.cells #[.int .i64 0,.int .i64 1,.int .i64 1] 113)):=(Below.refl _ _).alloc (Nat.le_refl _) _;have HP1:=lhd (heap_alloc_new W (.cells #[.int .i64 0,.int .i64 1,.int .i64 1] 113));have HJ1:=lhd (hJ 0 _ _ h0 (TurnJ.below hB hal));have HC1:=lhd (show(W.alloc (.cells #[.int .i64 0,.int .i64 1,.int .i64 1] 113)).heap[Bs0]? =some (.cells #[.string (bsB s)] 9 fr)by rw[hal.block _ (Array.getElem?_eq_some_iff.1 hc).1];exact hc);have HCL:=lhd (fun(X:World) (h:X.heap[Bs0]? =some (.cells #[.string (bsB s)] 9 fr))=>(show X.cell? ⟨Bs0,0,none⟩=some (.string (bsB s))by simp[World.cell?,h]));have x0:=HCL.out _ HC1.out;have hBs:Bs0≠W.heap.size:=Nat.ne_of_lt (Array.getElem?_eq_some_iff.1 hc).1;have HSZ:=lhd (show(bsB s).size=s.length from zbk s);have HJ:=lhd hJ;have HY:=lhd hY;clear hal hc h0 hJ hY;generalize hw1:W.alloc (.cells #[.int .i64 0,.int .i64 1,.int .i64 1] 113)=w1 at*;gi_wp2
 clear hw1 x0
 gi_loopw [8] (fun i wr=>∃k:Nat,k≤s.length∧i=.int .i64 k∧J k wr∧wr.heap[W.heap.size]? =some (.cells #[.int .i64 (plc s k).1,.int .i64 (plc s k).2.1,.int .i64 (plc s k).2.2] 113 (0,0))∧wr.heap[Bs0]? =some (.cells #[.string (bsB s)] 9 fr))
  (fun i _=>s.length-(intOf i).toNat)
 case atStart=>exact⟨0,Nat.zero_le _,rfl,HJ1.out,HP1.out,HC1.out⟩
 case round=>
  obtain⟨k,hk,rfl,hjk,hp,hc⟩:=hrel;have x0:=HCL.out _ hc;have HP:=lhd hp;have HC:=lhd hc;have HJK:=lhd hjk;have hsz:=HSZ.out;clear hp hc;by_cases hlt:k<s.length
  ·obtain⟨fn,tmps,assign,body,hy,hR⟩:=HY.out k wr.drew (HJ.out _ _ _ hjk (TurnJ.drew B _ wr 1)) hlt;have HR:=lhd hR;clear hR;obtain⟨b1,b2,b3,b4,b5⟩:=zjT (s:=s) (k:=k) hk;have HS1:=lhd (zjU hlt);have hgd:s.getD k 0=s[k]:=by simp[List.getD,hlt]
   unfold zng at hy;rw[hgd]at hy;obtain⟨c,hcv⟩:∃c,s[k]=c:=⟨_,rfl⟩;have hcix:∀h:k<(bsB s).size,(bsB s)[k]'h=c:=fun h=>hcv;rw[hcv]at hy HS1;generalize plc s k=p at hy HP HS1 b1 b2 b3 b4 b5;clear hcv hgd;obtain⟨po,pl,pc⟩:=p;dsimp only at hy HP b1 b2 b3 b4 b5;subst b1;have q0:=(zjf HP.out).cell (j:=0) rfl;have q1:=(zjf HP.out).cell (j:=1) rfl;have q2:=(zjf HP.out).cell (j:=2) rfl;have hlt2:k<(bsB s).size:=by omega
   clear hjk;gi_wp2
   have hmx:Tryz.prog.follows .mixedOrders=true:=by kernel_rfl
   have h1n:1≤n:=by omega
   clear hsz;refine wpIn_region_any hmx ?_;refine wpAnyIn_take (i:=0) (v:=?_) hro rfl (by kernel_rfl) (by kernel_rfl) (by kernel_rfl) (fun _ _ _ h=>h) ⟨Or.inl ⟨by rfl,?_⟩,?_⟩ ?_;rotate_left
   ·intro w;go_simp;all_goals with_reducible rfl
   ·intro w;rfl
   simp only[tkS];refine wpAnyIn_take (i:=3) (v:=?_) hro rfl (by kernel_rfl) (by kernel_rfl) (by kernel_rfl) (fun _ _ _ h=>h) ⟨Or.inl ⟨by rfl,?_⟩,?_⟩ ?_;rotate_left
   ·intro w;go_simp;all_goals with_reducible rfl
   ·intro w;rfl
   simp only[tkS];refine wpAnyIn_ready (rs:=[1,2]) (by kernel_rfl) (by simp) ?_;refine AllReadyIn.cons (o:=_) rfl (fun K hK=>?_) (AllReadyIn.cons (o:=_) rfl (fun K hK=>?_) AllReadyIn.nil)<;>(have HKK:=lhd hK;clear hK)
   ·go_simp;refine HKK.out _ _ ?_;clear HKK;try simp only[tkS]
    refine wpAnyIn_ready (rs:=[2]) (by kernel_rfl) (by simp) ?_;refine AllReadyIn.cons (o:=_) rfl (fun K hK=>?_) AllReadyIn.nil;have HKK:=lhd hK;clear hK;go_simp;refine HKK.out _ _ ?_;clear HKK;try simp only[tkS]
    refine wpAnyIn_take (i:=4) (v:=?_) hro rfl (by kernel_rfl) (by kernel_rfl) (by kernel_rfl) (fun _ _ _ h=>h) ⟨Or.inl ⟨by rfl,?_⟩,?_⟩ ?_;rotate_left
    ·intro w;go_simp;all_goals with_reducible rfl
    ·intro w;rfl
    simp only[tkS];refine wpAnyIn_take (i:=5) (v:=?_) hro rfl (by kernel_rfl) (by kernel_rfl) (by kernel_rfl) (fun _ _ _ h=>h) ⟨Or.inl ⟨by rfl,?_⟩,?_⟩ ?_;rotate_left
    ·intro w;go_simp;all_goals with_reducible rfl
    ·intro w;rfl
    simp only[tkS];refine wpAnyIn_ready (rs:=[6]) (by kernel_rfl) (by simp) ?_;refine AllReadyIn.cons (o:=_) rfl (fun K hK=>?_) AllReadyIn.nil;have HKK:=lhd hK;clear hK;go_simp;refine HR.out.mono ?_;rintro e W3 ⟨rfl,hj3,hk3⟩;have HJ3:=lhd hj3;have HK3:=lhd hk3;clear hj3 hk3;refine HKK.out _ _ ?_;clear HKK;try simp only[tkS]
    refine wpAnyIn_take (i:=7) (v:=?_) hro rfl (by kernel_rfl) (by kernel_rfl) (by kernel_rfl) (fun _ _ _ h=>h) ⟨Or.inl ⟨by rfl,?_⟩,?_⟩ ?_;rotate_left
    ·intro w;go_simp;all_goals with_reducible rfl
    ·intro w;rfl
    simp only[tkS];refine wpAnyIn_done (by kernel_rfl) ?_ _;have HP3:=lhd (HK3.out _ _ _ _ (.inl rfl) HP.out);have HC3:=lhd (HK3.out _ _ _ _ (.inr rfl) HC.out);have z0:=HCL.out _ HC3.out;have z1:=(zjf HP3.out).cell (j:=0) rfl;have z2:=(zjf HP3.out).cell (j:=1) rfl;have z3:=(zjf HP3.out).cell (j:=2) rfl;clear q0 q1 q2 x0;gi_wp2
    refine wpIn_region_any hmx ?_;have HBH:=lhd (zgI (k:Int) pl pc c W3.drew ⟨by omega,by omega⟩ ⟨by omega,by omega⟩ ⟨by omega,by omega⟩);refine wpAnyIn_take (i:=2) (v:=?_) hro rfl (by kernel_rfl) (by kernel_rfl) (by kernel_rfl) (fun _ _ _ h=>h) ⟨Or.inl ⟨by rfl,?_⟩,?_⟩ ?_;rotate_left
    ·intro w;go_simp;all_goals with_reducible rfl
    ·intro w;rfl
    simp only[tkS];refine wpAnyIn_ready (rs:=[0,1]) (by kernel_rfl) (by simp) ?_;refine AllReadyIn.cons (o:=_) rfl (fun K hK=>?_) (AllReadyIn.cons (o:=_) rfl (fun K hK=>?_) AllReadyIn.nil)<;>(have HKK:=lhd hK;clear hK)
    ·go_simp;refine HKK.out _ _ ?_;clear HKK;try simp only[tkS]
     refine wpAnyIn_ready (rs:=[1]) (by kernel_rfl) (by simp) ?_;refine AllReadyIn.cons (o:=_) rfl (fun K hK=>?_) AllReadyIn.nil;have HKK:=lhd hK;clear hK;go_simp;refine HKK.out _ _ ?_;clear HKK;try simp only[tkS]
     refine wpAnyIn_take (i:=3) (v:=?_) hro rfl (by kernel_rfl) (by kernel_rfl) (by kernel_rfl) (fun _ _ _ h=>h) ⟨Or.inl ⟨by rfl,?_⟩,?_⟩ ?_;rotate_left
     ·intro w;go_simp;all_goals with_reducible rfl
     ·intro w;rfl
     simp only[tkS];refine wpAnyIn_ready (rs:=[4]) (by kernel_rfl) (by simp) ?_;refine AllReadyIn.cons (o:=_) rfl (fun K hK=>?_) AllReadyIn.nil;have HKK:=lhd hK;clear hK;go_simp;refine⟨trivial,(callsIn_wide.2 HBH.out).mono ?_⟩;rintro e W5 ⟨rfl,hb5'⟩;have hb5:=za6 hb5';have HP5:=lhd (za8 HP3.out hb5);have HC5:=lhd (za8 HC3.out hb5);have HT5:=lhd (TurnJ.below (T:=113) (Nat.le_trans hB (Nat.le_of_lt (zbA z1))) hb5);generalize hbp:behP (↑k,pl,pc) c=bp at*;obtain⟨bo,bl,bc⟩:=bp;have y1:=(zjf HP5.out).cell (j:=0) rfl;have y2:=(zjf HP5.out).cell (j:=1) rfl;have y3:=(zjf HP5.out).cell (j:=2) rfl;have f1:=(zjf HP5.out).free (j:=0) (by simp);have f2:=(zjf HP5.out).free (j:=1) (by simp);have f3:=(zjf HP5.out).free (j:=2) (by simp);clear hb5 hb5' hbp;refine HKK.out _ _ ?_;clear HKK;try simp only[tkS]
     refine wpAnyIn_ready (rs:=[5]) (by kernel_rfl) (by simp) ?_;refine AllReadyIn.cons (o:=_) rfl (fun K hK=>?_) AllReadyIn.nil;have HKK:=lhd hK;clear hK;go_simp;have HP6:=lhd (zeJ (x':=.int .i64 bo) (y':=.int .i64 bl) (z':=.int .i64 bc) HP5.out);have HC6:=lhd (zeH (x':=.int .i64 bo) (y':=.int .i64 bl) (z':=.int .i64 bc) hBs HC5.out);have HJ6:=lhd (HJ.out _ _ _ HJ3.out (HT5.out.trans (zn0 (x':=.int .i64 bo) (y':=.int .i64 bl) (z':=.int .i64 bc) HP5.out hB)));have HPL:=HS1;clear y1 y2 y3 f1 f2 f3 z0 z1 z2 z3;refine HKK.out _ _ ?_;clear HKK;try simp only[tkS]
     refine wpAnyIn_done (by kernel_rfl) ?_ _;gi_wp2
     go_roundw;case rel=>exact⟨k+1,hlt,by go_num,HJ6.out,by rw[HPL.out];exact HP6.out,HC6.out⟩
     case measure=>simp[intOf];omega
    ·go_simp;refine HKK.out _ _ ?_;clear HKK;try simp only[tkS]
     refine wpAnyIn_take (i:=3) (v:=?_) hro rfl (by kernel_rfl) (by kernel_rfl) (by kernel_rfl) (fun _ _ _ h=>h) ⟨Or.inl ⟨by rfl,?_⟩,?_⟩ ?_;rotate_left
     ·intro w;go_simp;all_goals with_reducible rfl
     ·intro w;rfl
     simp only[tkS];refine wpAnyIn_ready (rs:=[0]) (by kernel_rfl) (by simp) ?_;refine AllReadyIn.cons (o:=_) rfl (fun K hK=>?_) AllReadyIn.nil;have HKK:=lhd hK;clear hK;go_simp;refine HKK.out _ _ ?_;clear HKK;try simp only[tkS]
     refine wpAnyIn_ready (rs:=[4]) (by kernel_rfl) (by simp) ?_;refine AllReadyIn.cons (o:=_) rfl (fun K hK=>?_) AllReadyIn.nil;have HKK:=lhd hK;clear hK;go_simp;refine⟨trivial,(callsIn_wide.2 HBH.out).mono ?_⟩;rintro e W5 ⟨rfl,hb5'⟩;have hb5:=za6 hb5';have HP5:=lhd (za8 HP3.out hb5);have HC5:=lhd (za8 HC3.out hb5);have HT5:=lhd (TurnJ.below (T:=113) (Nat.le_trans hB (Nat.le_of_lt (zbA z1))) hb5);generalize hbp:behP (↑k,pl,pc) c=bp at*;obtain⟨bo,bl,bc⟩:=bp;have y1:=(zjf HP5.out).cell (j:=0) rfl;have y2:=(zjf HP5.out).cell (j:=1) rfl;have y3:=(zjf HP5.out).cell (j:=2) rfl;have f1:=(zjf HP5.out).free (j:=0) (by simp);have f2:=(zjf HP5.out).free (j:=1) (by simp);have f3:=(zjf HP5.out).free (j:=2) (by simp);clear hb5 hb5' hbp;refine HKK.out _ _ ?_;clear HKK;try simp only[tkS]
     refine wpAnyIn_ready (rs:=[5]) (by kernel_rfl) (by simp) ?_;refine AllReadyIn.cons (o:=_) rfl (fun K hK=>?_) AllReadyIn.nil;have HKK:=lhd hK;clear hK;go_simp;have HP6:=lhd (zeJ (x':=.int .i64 bo) (y':=.int .i64 bl) (z':=.int .i64 bc) HP5.out);have HC6:=lhd (zeH (x':=.int .i64 bo) (y':=.int .i64 bl) (z':=.int .i64 bc) hBs HC5.out);have HJ6:=lhd (HJ.out _ _ _ HJ3.out (HT5.out.trans (zn0 (x':=.int .i64 bo) (y':=.int .i64 bl) (z':=.int .i64 bc) HP5.out hB)));have HPL:=HS1;clear y1 y2 y3 f1 f2 f3 z0 z1 z2 z3;refine HKK.out _ _ ?_;clear HKK;try simp only[tkS]
     refine wpAnyIn_done (by kernel_rfl) ?_ _;gi_wp2
     go_roundw;case rel=>exact⟨k+1,hlt,by go_num,HJ6.out,by rw[HPL.out];exact HP6.out,HC6.out⟩
     case measure=>simp[intOf];omega
   ·go_simp;refine HKK.out _ _ ?_;clear HKK;try simp only[tkS]
    refine wpAnyIn_take (i:=4) (v:=?_) hro rfl (by kernel_rfl) (by kernel_rfl) (by kernel_rfl) (fun _ _ _ h=>h) ⟨Or.inl ⟨by rfl,?_⟩,?_⟩ ?_;rotate_left
    ·intro w;go_simp;all_goals with_reducible rfl
    ·intro w;rfl
    simp only[tkS];refine wpAnyIn_ready (rs:=[1]) (by kernel_rfl) (by simp) ?_;refine AllReadyIn.cons (o:=_) rfl (fun K hK=>?_) AllReadyIn.nil;have HKK:=lhd hK;clear hK;go_simp;refine HKK.out _ _ ?_;clear HKK;try simp only[tkS]
    refine wpAnyIn_take (i:=5) (v:=?_) hro rfl (by kernel_rfl) (by kernel_rfl) (by kernel_rfl) (fun _ _ _ h=>h) ⟨Or.inl ⟨by rfl,?_⟩,?_⟩ ?_;rotate_left
    ·intro w;go_simp;all_goals with_reducible rfl
    ·intro w;rfl
    simp only[tkS];refine wpAnyIn_ready (rs:=[6]) (by kernel_rfl) (by simp) ?_;refine AllReadyIn.cons (o:=_) rfl (fun K hK=>?_) AllReadyIn.nil;have HKK:=lhd hK;clear hK;go_simp;refine HR.out.mono ?_;rintro e W3 ⟨rfl,hj3,hk3⟩;have HJ3:=lhd hj3;have HK3:=lhd hk3;clear hj3 hk3;refine HKK.out _ _ ?_;clear HKK;try simp only[tkS]
    refine wpAnyIn_take (i:=7) (v:=?_) hro rfl (by kernel_rfl) (by kernel_rfl) (by kernel_rfl) (fun _ _ _ h=>h) ⟨Or.inl ⟨by rfl,?_⟩,?_⟩ ?_;rotate_left
    ·intro w;go_simp;all_goals with_reducible rfl
    ·intro w;rfl
    simp only[tkS];refine wpAnyIn_done (by kernel_rfl) ?_ _;have HP3:=lhd (HK3.out _ _ _ _ (.inl rfl) HP.out);have HC3:=lhd (HK3.out _ _ _ _ (.inr rfl) HC.out);have z0:=HCL.out _ HC3.out;have z1:=(zjf HP3.out).cell (j:=0) rfl;have z2:=(zjf HP3.out).cell (j:=1) rfl;have z3:=(zjf HP3.out).cell (j:=2) rfl;clear q0 q1 q2 x0;gi_wp2
    refine wpIn_region_any hmx ?_;have HBH:=lhd (zgI (k:Int) pl pc c W3.drew ⟨by omega,by omega⟩ ⟨by omega,by omega⟩ ⟨by omega,by omega⟩);refine wpAnyIn_take (i:=2) (v:=?_) hro rfl (by kernel_rfl) (by kernel_rfl) (by kernel_rfl) (fun _ _ _ h=>h) ⟨Or.inl ⟨by rfl,?_⟩,?_⟩ ?_;rotate_left
    ·intro w;go_simp;all_goals with_reducible rfl
    ·intro w;rfl
    simp only[tkS];refine wpAnyIn_ready (rs:=[0,1]) (by kernel_rfl) (by simp) ?_;refine AllReadyIn.cons (o:=_) rfl (fun K hK=>?_) (AllReadyIn.cons (o:=_) rfl (fun K hK=>?_) AllReadyIn.nil)<;>(have HKK:=lhd hK;clear hK)
    ·go_simp;refine HKK.out _ _ ?_;clear HKK;try simp only[tkS]
     refine wpAnyIn_ready (rs:=[1]) (by kernel_rfl) (by simp) ?_;refine AllReadyIn.cons (o:=_) rfl (fun K hK=>?_) AllReadyIn.nil;have HKK:=lhd hK;clear hK;go_simp;refine HKK.out _ _ ?_;clear HKK;try simp only[tkS]
     refine wpAnyIn_take (i:=3) (v:=?_) hro rfl (by kernel_rfl) (by kernel_rfl) (by kernel_rfl) (fun _ _ _ h=>h) ⟨Or.inl ⟨by rfl,?_⟩,?_⟩ ?_;rotate_left
     ·intro w;go_simp;all_goals with_reducible rfl
     ·intro w;rfl
     simp only[tkS];refine wpAnyIn_ready (rs:=[4]) (by kernel_rfl) (by simp) ?_;refine AllReadyIn.cons (o:=_) rfl (fun K hK=>?_) AllReadyIn.nil;have HKK:=lhd hK;clear hK;go_simp;refine⟨trivial,(callsIn_wide.2 HBH.out).mono ?_⟩;rintro e W5 ⟨rfl,hb5'⟩;have hb5:=za6 hb5';have HP5:=lhd (za8 HP3.out hb5);have HC5:=lhd (za8 HC3.out hb5);have HT5:=lhd (TurnJ.below (T:=113) (Nat.le_trans hB (Nat.le_of_lt (zbA z1))) hb5);generalize hbp:behP (↑k,pl,pc) c=bp at*;obtain⟨bo,bl,bc⟩:=bp;have y1:=(zjf HP5.out).cell (j:=0) rfl;have y2:=(zjf HP5.out).cell (j:=1) rfl;have y3:=(zjf HP5.out).cell (j:=2) rfl;have f1:=(zjf HP5.out).free (j:=0) (by simp);have f2:=(zjf HP5.out).free (j:=1) (by simp);have f3:=(zjf HP5.out).free (j:=2) (by simp);clear hb5 hb5' hbp;refine HKK.out _ _ ?_;clear HKK;try simp only[tkS]
     refine wpAnyIn_ready (rs:=[5]) (by kernel_rfl) (by simp) ?_;refine AllReadyIn.cons (o:=_) rfl (fun K hK=>?_) AllReadyIn.nil;have HKK:=lhd hK;clear hK;go_simp;have HP6:=lhd (zeJ (x':=.int .i64 bo) (y':=.int .i64 bl) (z':=.int .i64 bc) HP5.out);have HC6:=lhd (zeH (x':=.int .i64 bo) (y':=.int .i64 bl) (z':=.int .i64 bc) hBs HC5.out);have HJ6:=lhd (HJ.out _ _ _ HJ3.out (HT5.out.trans (zn0 (x':=.int .i64 bo) (y':=.int .i64 bl) (z':=.int .i64 bc) HP5.out hB)));have HPL:=HS1;clear y1 y2 y3 f1 f2 f3 z0 z1 z2 z3;refine HKK.out _ _ ?_;clear HKK;try simp only[tkS]
     refine wpAnyIn_done (by kernel_rfl) ?_ _;gi_wp2
     go_roundw;case rel=>exact⟨k+1,hlt,by go_num,HJ6.out,by rw[HPL.out];exact HP6.out,HC6.out⟩
     case measure=>simp[intOf];omega
    ·go_simp;refine HKK.out _ _ ?_;clear HKK;try simp only[tkS]
     refine wpAnyIn_take (i:=3) (v:=?_) hro rfl (by kernel_rfl) (by kernel_rfl) (by kernel_rfl) (fun _ _ _ h=>h) ⟨Or.inl ⟨by rfl,?_⟩,?_⟩ ?_;rotate_left
     ·intro w;go_simp;all_goals with_reducible rfl
     ·intro w;rfl
     simp only[tkS];refine wpAnyIn_ready (rs:=[0]) (by kernel_rfl) (by simp) ?_;refine AllReadyIn.cons (o:=_) rfl (fun K hK=>?_) AllReadyIn.nil;have HKK:=lhd hK;clear hK;go_simp;refine HKK.out _ _ ?_;clear HKK;try simp only[tkS]
     refine wpAnyIn_ready (rs:=[4]) (by kernel_rfl) (by simp) ?_;refine AllReadyIn.cons (o:=_) rfl (fun K hK=>?_) AllReadyIn.nil;have HKK:=lhd hK;clear hK;go_simp;refine⟨trivial,(callsIn_wide.2 HBH.out).mono ?_⟩;rintro e W5 ⟨rfl,hb5'⟩;have hb5:=za6 hb5';have HP5:=lhd (za8 HP3.out hb5);have HC5:=lhd (za8 HC3.out hb5);have HT5:=lhd (TurnJ.below (T:=113) (Nat.le_trans hB (Nat.le_of_lt (zbA z1))) hb5);generalize hbp:behP (↑k,pl,pc) c=bp at*;obtain⟨bo,bl,bc⟩:=bp;have y1:=(zjf HP5.out).cell (j:=0) rfl;have y2:=(zjf HP5.out).cell (j:=1) rfl;have y3:=(zjf HP5.out).cell (j:=2) rfl;have f1:=(zjf HP5.out).free (j:=0) (by simp);have f2:=(zjf HP5.out).free (j:=1) (by simp);have f3:=(zjf HP5.out).free (j:=2) (by simp);clear hb5 hb5' hbp;refine HKK.out _ _ ?_;clear HKK;try simp only[tkS]
     refine wpAnyIn_ready (rs:=[5]) (by kernel_rfl) (by simp) ?_;refine AllReadyIn.cons (o:=_) rfl (fun K hK=>?_) AllReadyIn.nil;have HKK:=lhd hK;clear hK;go_simp;have HP6:=lhd (zeJ (x':=.int .i64 bo) (y':=.int .i64 bl) (z':=.int .i64 bc) HP5.out);have HC6:=lhd (zeH (x':=.int .i64 bo) (y':=.int .i64 bl) (z':=.int .i64 bc) hBs HC5.out);have HJ6:=lhd (HJ.out _ _ _ HJ3.out (HT5.out.trans (zn0 (x':=.int .i64 bo) (y':=.int .i64 bl) (z':=.int .i64 bc) HP5.out hB)));have HPL:=HS1;clear y1 y2 y3 f1 f2 f3 z0 z1 z2 z3;refine HKK.out _ _ ?_;clear HKK;try simp only[tkS]
     refine wpAnyIn_done (by kernel_rfl) ?_ _;gi_wp2
     go_roundw;case rel=>exact⟨k+1,hlt,by go_num,HJ6.out,by rw[HPL.out];exact HP6.out,HC6.out⟩
     case measure=>simp[intOf];omega
  ·obtain rfl:k=s.length:=by omega
   have HJK2:=HJK;clear hjk;gi_wp2
   go_end0
   exact⟨⟨_,rfl⟩,HJK2.out⟩
end Go.Proofs.YtcdekelomkcahaaGreatDoor
