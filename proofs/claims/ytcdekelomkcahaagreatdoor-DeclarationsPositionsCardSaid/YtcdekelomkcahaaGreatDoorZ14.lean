import Derived.Test.YtcdekelomkcahaaGreatDoorZ00
import Derived.ChangeSame
import Derived.Deep.Fields
import Derived.Deep.Slices
import Derived.RangeFuncBox
import Derived.SizedLaws
import Derived.Test.YtcdekelomkcahaaGreatDoorZ06
import Derived.Test.YtcdekelomkcahaaGreatDoorZ13
set_option maxRecDepth 100000
set_option maxHeartbeats 16000000
namespace Go.Proofs.YtcdekelomkcahaaGreatDoor
open Go.RowKit
set_option linter.unusedSimpArgs false
def prbC (p:Pb):List Value:=[.int .i64 p.1,.int .i64 p.2.1,.int .i64 p.2.2.1,.int .i64 p.2.2.2]
def wdC (w:Wd):List Value:=[.string (bsB w.1),.int .i64 w.2.1,.int .i64 w.2.2.1,.int .i64 w.2.2.2]
def prbs (l:List Pb):List Value:=l.flatMap prbC
def wds (l:List Wd):List Value:=l.flatMap wdC
abbrev wdV (w:Wd):Value:=.agg #[.string (bsB w.1),.int .i64 w.2.1,.int .i64 w.2.2.1,.int .i64 w.2.2.2]
theorem zj2 (l m:List Pb):prbs (l++m)=prbs l++prbs m:=by simp[prbs]
theorem zj4 (x:Pb) (l:List Pb):prbs (x::l)=prbC x++prbs l:=rfl
theorem zj5 (l:List Pb) (x:Pb):prbs (l++ [x])=prbs l++prbC x:=by rw[zj2];simp[prbs]
theorem zj3:∀(l:List Pb) (k:Nat) (h:k<l.length),(prbs l)[4*k]? =some (.int .i64 l[k].1)∧(prbs l)[4*k+1]? =some (.int .i64 l[k].2.1)∧(prbs l)[4*k+2]? =some (.int .i64 l[k].2.2.1)∧(prbs l)[4*k+3]? =some (.int .i64 l[k].2.2.2)
 |x::l,0,_=>⟨rfl,rfl,rfl,rfl⟩
 |x::l,k+1,h=>by
  have:=zj3 l k (by simpa using h);rw[zj4,show 4*(k+1)=4*k+1+1+1+1 by omega];simpa[prbC] using this
theorem SlR.prbs {w:World} {a:Option Addr} {cap:Nat} {l:List Pb} (h:SlR w (.slice a l.length cap) l.length (prbs l)) {k:Nat} (hk:k<l.length):
 ∃b o,a=some ⟨b,o,none⟩∧w.cell? ⟨b,o+k*4,none⟩=some (.int .i64 l[k].1)∧w.cell? ⟨b,o+k*4+1,none⟩=some (.int .i64 l[k].2.1)∧w.cell? ⟨b,o+k*4+2,none⟩=some (.int .i64 l[k].2.2.1)∧w.cell? ⟨b,o+k*4+3,none⟩=some (.int .i64 l[k].2.2.2):=by
 obtain⟨b,o,cap',hv,-,-,hcell⟩:=h.at (by omega);injection hv with e1 _ _;obtain⟨h0,h1,h2,h3⟩:=zj3 l k hk;refine⟨b,o,e1,?_,?_,?_,?_⟩
 ·have:=hcell _ _ h0;rwa [Nat.mul_comm 4 k]at this
 ·have:=hcell _ _ h1;rwa [Nat.mul_comm 4 k,←Nat.add_assoc]at this
 ·have:=hcell _ _ h2;rwa [Nat.mul_comm 4 k,←Nat.add_assoc]at this
 ·have:=hcell _ _ h3;rwa [Nat.mul_comm 4 k,←Nat.add_assoc]at this
theorem zpK (l m:List Wd):wds (l++m)=wds l++wds m:=by simp[wds]
theorem zpN (x:Wd) (l:List Wd):wds (x::l)=wdC x++wds l:=rfl
theorem zpQ:∀l:List Wd,(wds l).length=4*l.length
 | []=>rfl
 |x::l=>by rw[zpN,List.length_append,zpQ l];show 4+_=_;rw[List.length_cons];omega
theorem zpS (l:List Wd) (x:Wd):wds (l++ [x])=wds l++wdC x:=by rw[zpK];simp[wds]
theorem zpL:∀(l:List Wd) (k:Nat) (h:k<l.length),(wds l)[4*k]? =some (.string (bsB l[k].1))∧(wds l)[4*k+1]? =some (.int .i64 l[k].2.1)∧(wds l)[4*k+2]? =some (.int .i64 l[k].2.2.1)∧(wds l)[4*k+3]? =some (.int .i64 l[k].2.2.2)
 |x::l,0,_=>⟨rfl,rfl,rfl,rfl⟩
 |x::l,k+1,h=>by
  have:=zpL l k (by simpa using h);rw[zpN,show 4*(k+1)=4*k+1+1+1+1 by omega];simpa[wdC] using this
theorem SlR.wds {w:World} {a:Option Addr} {cap:Nat} {l:List Wd} (h:SlR w (.slice a l.length cap) l.length (wds l)) {k:Nat} (hk:k<l.length):
 ∃b o,a=some ⟨b,o,none⟩∧w.cell? ⟨b,o+k*4,none⟩=some (.string (bsB l[k].1))∧w.cell? ⟨b,o+k*4+1,none⟩=some (.int .i64 l[k].2.1)∧w.cell? ⟨b,o+k*4+2,none⟩=some (.int .i64 l[k].2.2.1)∧w.cell? ⟨b,o+k*4+3,none⟩=some (.int .i64 l[k].2.2.2):=by
 obtain⟨b,o,cap',hv,-,-,hcell⟩:=h.at (by omega);injection hv with e1 _ _;obtain⟨h0,h1,h2,h3⟩:=zpL l k hk;refine⟨b,o,e1,?_,?_,?_,?_⟩
 ·have:=hcell _ _ h0;rwa [Nat.mul_comm 4 k]at this
 ·have:=hcell _ _ h1;rwa [Nat.mul_comm 4 k,←Nat.add_assoc]at this
 ·have:=hcell _ _ h2;rwa [Nat.mul_comm 4 k,←Nat.add_assoc]at this
 ·have:=hcell _ _ h3;rwa [Nat.mul_comm 4 k,←Nat.add_assoc]at this
theorem zjZ:(Tryz.prog.info? 55).map (fun i=>(i.zero,i.size,i.bytes))=some (some (.agg #[.int .i64 0,.int .i64 0,.int .i64 0,.int .i64 0]),4,32):=by kernel_rfl
theorem zpF:(Tryz.prog.info? 58).map (fun i=>(i.zero,i.size,i.bytes))=some (some (.agg #[.string ⟨#[]⟩,.int .i64 0,.int .i64 0,.int .i64 0]),4,40):=by kernel_rfl
structure Dcl where
 nm:Bs
 ty:Int
 sc:Int
 sg:Int
 rg:Bool
 mb:Int
 lb:Int
 code:Bs
 kind:Int
 width:Int
def Dcl.dc (d:Dcl):Dc:=(d.code,d.kind,d.width)
def dclC (d:Dcl):List Value:=[.string (bsB d.nm),.int .i64 d.ty,.int .i64 d.sc,.int .i64 d.sg,.bool d.rg,.int .i64 d.mb,.int .i64 d.lb,.string (bsB d.code),.int .i64 d.kind,.int .i64 d.width]
abbrev dclV (d:Dcl):Value:=.agg #[.string (bsB d.nm),.int .i64 d.ty,.int .i64 d.sc,.int .i64 d.sg,.bool d.rg,.int .i64 d.mb,.int .i64 d.lb,.string (bsB d.code),.int .i64 d.kind,.int .i64 d.width]
abbrev dclZ:Value:=.agg #[.string ⟨#[]⟩,.int .i64 0,.int .i64 0,.int .i64 0,.bool false,.int .i64 0,.int .i64 0,.string ⟨#[]⟩,.int .i64 0,.int .i64 0]
def dcls (l:List Dcl):List Value:=l.flatMap dclC
theorem zcJ (x:Dcl) (l:List Dcl):dcls (x::l)=dclC x++dcls l:=rfl
theorem zcI:∀(l:List Dcl) (k:Nat) (h:k<l.length) (j:Nat),j<10→(dcls l)[10*k+j]? =(dclC l[k])[j]?
 |x::l,0,_,j,hj=>by
  rw[zcJ,List.getElem?_append_left (by simp[dclC];omega)];simp
 |x::l,k+1,h,j,hj=>by
  have:=zcI l k (by simpa using h) j hj;rw[zcJ,List.getElem?_append_right (by simp[dclC];omega)];rw[show 10*(k+1)+j-(dclC x).length=10*k+j by simp[dclC];omega];simpa using this
theorem SlR.dcls {w:World} {a:Option Addr} {cap:Nat} {l:List Dcl} (h:SlR w (.slice a l.length cap) l.length (dcls l)) {k:Nat} (hk:k<l.length):
 ∃b o,a=some ⟨b,o,none⟩∧∀(j:Nat) (u:Value),(dclC l[k])[j]? =some u→w.cell? ⟨b,o+k*10+j,none⟩=some u:=by
 obtain⟨b,o,cap',hv,-,-,hcell⟩:=h.at (by omega);injection hv with e1 _ _;refine⟨b,o,e1,fun j u hj=>?_⟩;have hj10:j<10:=by have:=(List.getElem?_eq_some_iff.1 hj).1;simpa[dclC] using this
 have:=hcell _ _ ((zcI l k hk j hj10).trans hj);rwa [Nat.mul_comm 10 k,←Nat.add_assoc]at this
theorem zjo {w:World} {B e size n:Nat} {g c:Nat} {xs:List Value} (h:w.ownsRow B e size (.slice (some ⟨g,0,none⟩) n c) n xs):zaq w g xs:=by
 rcases h.2 with⟨h0,-⟩|⟨g',cap',cur,h0,hbase,hb,hn,hm,hsz,htk⟩
 ·cases h0
 injection h0 with e1 _ e3;injection e1 with e1;injection e1 with e1 _ _;subst e1 e3;intro j u hj
 have hj':cur.toList[j]? =some u:=by
  rw[←htk,List.getElem?_take]at hj;split at hj
  ·exact hj
  ·cases hj
 rw[Array.getElem?_toList]at hj';exact⟨by simp[World.cell?,hb,hj'],by simp[World.frozen?,hb]⟩
theorem zjl {w:World} {B B' e e' size size' n n':Nat} {v v':Value} {xs xs':List Value} (h:w.ownsRow B e size v n xs) (h':w.ownsRow B' e' size' v' n' xs') (hne:e≠e'):v.ownBlock=none∨v.ownBlock≠v'.ownBlock:=by
 rcases h.2 with⟨rfl,_⟩|⟨g,cap,cur,rfl,_,hgg,_⟩
 ·exact .inl rfl
 ·rcases h'.2 with⟨rfl,_⟩|⟨g',cap',cur',rfl,_,hgg',_⟩
  ·exact .inr (by simp[Value.ownBlock])
  ·refine .inr fun he=>?_;simp only[Value.ownBlock,Option.some.injEq]at he;subst he;rw[hgg]at hgg';simp only[Option.some.injEq,Obj.cells.injEq]at hgg';exact hne hgg'.2.1
theorem zjr {w:World} {B e size n g c:Nat} {xs:List Value} (h:w.ownsRow B e size (.slice (some ⟨g,0,none⟩) n c) n xs) (j:Nat) (u:Value):
 (w.setCell ⟨g,j,none⟩ u).ownsRow B e size (.slice (some ⟨g,0,none⟩) n c) n (xs.set j u):=(h.stored j u).1
theorem zjs {w:World} {B B' e e' size size' n n' g c:Nat} {v:Value} {xs xs':List Value} (h:w.ownsRow B e size v n xs) (h':w.ownsRow B' e' size' (.slice (some ⟨g,0,none⟩) n' c) n' xs') (hne:e≠e') (j:Nat) (u:Value):
 (w.setCell ⟨g,j,none⟩ u).ownsRow B e size v n xs:=ownsRow_setCell_other h (by
   rcases zjl h h' hne with h1|h1
   ·rw[h1];intro h;cases h
   ·exact h1) u
theorem zaq.setFar {w:World} {b b':Nat} {xs:List Value} (h:zaq w b xs) (hb:b'≠b) (o:Nat) (u:Value):zaq (w.setCell ⟨b',o,none⟩ u) b xs:=by
 intro j v hj;have:=h j v hj;refine⟨?_,by rw[World.frozen?_setCell];exact this.2⟩;rw[World.cell?_setCell_other (h:=by intro e;apply hb;injection e with e1 _ _)];exact this.1
theorem zaq.same {W V:World} {b:Nat} {xs:List Value} (h:zaq W b xs) (hb:V.heap[b]? =W.heap[b]?):zaq V b xs:=fun j v hj=>by
 have:=h j v hj;refine⟨?_,?_⟩
 ·rw[←this.1];simp[World.cell?,hb]
 ·rw[←this.2];simp[World.frozen?,hb]
structure PC where
 wk:World
 w0:World
 B:Nat
 mb:Nat
 kb:Nat
 n:Nat
 m:Nat
 F:BsM→Option Value
 G:BsM→Option Value
 wa:Option Addr
 wn:Nat
 wc:Nat
theorem zjb {W W':World} {B e size n:Nat} {v:Value} {xs:List Value} (h:W.ownsRow B e size v n xs) (hb:RowKit.Below W.heap.size W W'):W'.ownsRow B e size v n xs:=
 h.kept (row:=none) ⟨hb.os,hb.tape,hb.output,hb.size,fun i hi _=>hb.block i hi⟩ (by cases v.ownBlock<;>simp)
def PC.from (c:PC) (V:World):PC:={c with wk:=V}
def lo (l:List Ch) (t:Int):Nat:=(l.takeWhile (fun c=>decide (c.1<t))).length
def zaB (r:List Ch) (w:World) (e:Ending) (w':World):Prop:=∃v',e=.returned v'∧SlR w' v' r.length (chs r)∧Below w.heap.size w w'
theorem zaB.nil {w W:World} (h:Below w.heap.size w W):zaB [] w (.returned (.slice none 0 0)) W:=⟨_,rfl,SlR.nil _,h⟩
def zh8 (k:Int) (v:ByteArray):List Ch→List Ch
 | []=> []
 |c::l=>if(∃d∈l.head?,d.1=c.1)∨(k≠3∧c.2=v)then zh8 k v l else c::zh8 k c.2 l
def zic (k n:Int) (l:List Ch):List Ch:=zh8 k (vi k n) l
theorem zh9 (k:Int):∀(l:List Ch) (v:ByteArray),(zh8 k v l).length≤l.length
 | [],_=>Nat.le_refl _
 |c::l,v=>by
  unfold zh8;split
  ·have:=zh9 k l v;simp;omega
  ·have:=zh9 k l c.2;simp;omega
abbrev SigR:=(Int×Int×List Ch)×Int
def zha (k n:Int) (l:List Ch):SigR:=if 4096<(zic k n l).length then((0,0,[]),9)else((k,n,zic k n l),0)
theorem zjy {w:World} {base base' e size:Nat} {v:Value} {n:Nat} {xs:List Value} (h:w.ownsRow base e size v n xs) (hb:base'≤base):w.ownsRow base' e size v n xs:=by
 refine⟨h.1,?_⟩;rcases h.2 with h2|⟨g,cap,cur,h1,h2,h3⟩
 ·exact .inl h2
 ·exact .inr ⟨g,cap,cur,h1,by omega,h3⟩
def secN (ws:List Wd) (i:Nat):Nat×Bool:=match zaX (ws.drop (i+1))with
 |none=>(ws.length,false)
 |some r=>(ws.length-r.length,true)
theorem zaY {ws:List Wd} {k:Nat} (h:k<ws.length):zaX (ws.drop k)=if ws[k].1=[36,101,110,100]then some (ws.drop (k+1))else zaX (ws.drop (k+1)):=by
 rw[List.drop_eq_getElem_cons h,zaX]
theorem zbe (t l:Bs):((bsB t).toList==l)=decide (t=l):=by
 rw[beqB,zbh]
theorem zgH (wv:Value) (ws:List Wd) (i:Nat) (w:World) (hs:SlR w wv ws.length (wds ws)) (hi:i<ws.length) (hl:ws.length≤1000000):
 Calls Tryz.prog 52 #[wv,.int .i64 i] w fun e w'=>e=.returned (.tuple #[.int .i64 (secN ws i).1,.bool (secN ws i).2])∧w'=w:=by
 obtain⟨a,cap,rfl,-,-⟩:=hs.shape;have HS:=lhd hs;clear hs;have hi0:decide ((0:Int)≤(i:Int))=true:=by rw[decide_eq_true_iff];omega
 go_enter Tryz.func52,Tryz.ntmps52;go_wp2_with fail;go_loop [6] (fun q=>∃k:Nat,i+1≤k∧k≤ws.length∧q=.int .i64 k∧zaX (ws.drop k)=zaX (ws.drop (i+1))) (fun q=>ws.length-(intOf q).toNat)
 case atStart=>exact⟨i+1,Nat.le_refl _,by omega,by go_num,rfl⟩
 case round=>
  obtain⟨k,hk1,hk2,rfl,hb⟩:=hrel;have HB:=lhd hb;clear hb;have hk0:decide ((0:Int)<(k:Int))=true:=by rw[decide_eq_true_iff];omega
  by_cases hlt:k<ws.length
  ·obtain⟨b,o,rfl,c0,-,-,-⟩:=HS.out.wds hlt;have HD:=lhd (zaY hlt);have hb3:=zbe ws[k].1 [36,101,110,100];generalize ws[k].1=tx at HD c0 hb3;by_cases he:tx=[36,101,110,100]
   ·have HR:=lhd (show secN ws i=(k+1,true)by
     unfold secN;rw[←HB.out,HD.out,if_pos he];have:(ws.drop (k+1)).length=ws.length-(k+1):=by simp
     simp only[this];congr 1
     omega)
    rw[decide_eq_true he]at hb3;clear he;generalize bsB tx=sb at c0 hb3;go_wp2_with fail;refine bodyPost_ret (v:=.tuple #[.int .i64 ((k:Int)+1),.bool true]) (by simp[results,Tryz.results52,go_sem]) rfl ?_;rw[HR.out];exact⟨by simp,rfl⟩
   ·have HB2:=lhd (show zaX (ws.drop (k+1))=zaX (ws.drop (i+1))by rw[←HB.out,HD.out,if_neg he]);rw[decide_eq_false he]at hb3;clear he;generalize bsB tx=sb at c0 hb3;go_wp2_with fail;go_round
    case rel=>exact⟨k+1,by omega,by omega,by go_num,HB2.out⟩
    case measure=>simp[intOf];omega
  ·obtain rfl:k=ws.length:=by omega
   have HR:=lhd (show secN ws i=(ws.length,false)by
    unfold secN;rw[←HB.out,List.drop_length];rfl)
   go_wp2_with fail;refine bodyPost_ret (v:=.tuple #[.int .i64 (ws.length:Int),.bool false]) (by simp[results,Tryz.results52,go_sem]) rfl ?_;rw[HR.out];exact⟨rfl,rfl⟩
def PS.secP (s:PS) (w:Wd) (ok:Bool):PS:=if ok=true∧w.1=[36,99,111,109,109,101,110,116]then s else s.prob 3 w
open Go.RowKit Go.Shelf
attribute [local go_sem] Oper.semAt_some
theorem zgJ (s:ByteArray) (w:World):Calls Tryz.prog 60 #[.string s] w fun e w'=>e=.returned (.func (.func 115) #[] #[.pointer (some ⟨w.heap.size,0,none⟩)])∧w'=w.alloc (.cells #[.string s] 9):=by
 go_enter Tryz.func60,Tryz.ntmps60;go_wp2_with fail;go_ret;exact⟨rfl,rfl⟩
structure ScI (w:World) (s:Bs) (k:Nat) (W:World) (vo:Value) (ws:List Wd) (cur:Bs):Prop where
 st:ScSt s k ws cur
 bt:W.heap[w.heap.size]? =some (.cells #[.string (bsB s)] 9 (0,0))
 bo:W.heap[w.heap.size+1]? =some (.cells #[vo] 37 (0,0))
 bi:W.heap[w.heap.size+2]? =some (.cells #[.bool (decide (cur≠ []))] 4 (0,0))
 o:W.ownsRow w.heap.size 58 4 vo ws.length (wds ws)
 b:Below w.heap.size w W
def ScJ (w:World) (s:Bs) (k:Nat) (W:World):Prop:=∃vo ws cur,ScI w s k W vo ws cur
theorem zjw {B Bt:Nat} {T e size n:Nat} {v:Value} {xs:List Value} {W V:World} (h:W.ownsRow B e size v n xs) (hT:e≠T) (ht:TurnI Bt T W V):V.ownsRow B e size v n xs:=by
 refine⟨h.1,?_⟩;rcases h.2 with h0|⟨g,cap,cur,h1,h2,h3,h4⟩
 ·exact .inl h0
 ·exact .inr ⟨g,cap,cur,h1,h2,ht.cells _ _ _ _ hT h3,h4⟩
theorem za5 {B Bt:Nat} {T:TypeId} {w W V:World} (h:Below B w W) (hB:B≤Bt) (ht:TurnI Bt T W V):Below B w V:=
 h.trans ⟨ht.os,ht.tape,ht.output,ht.size,fun b hb=>ht.low b (by omega)⟩
theorem ScI.turn {w W V:World} {s:Bs} {k Bt:Nat} {vo:Value} {ws:List Wd} {cur:Bs} (h:ScI w s k W vo ws cur) (hB:w.heap.size≤Bt) (ht:TurnI Bt 113 W V):ScI w s k V vo ws cur:=
 ⟨h.st,ht.cells _ _ _ _ (by decide) h.bt,ht.cells _ _ _ _ (by decide) h.bo,ht.cells _ _ _ _ (by decide) h.bi,zjw h.o (by decide) ht,za5 h.b hB ht⟩
def zak (s:Bs) (w:World) (e:Ending) (w':World):Prop:=
 ∃v ws,e=.returned (.tuple #[v,.int .i64 0])∧w'.ownsRow w.heap.size 58 4 v ws.length (wds ws)∧ws.map (·.1)=zp1 s∧ws.length≤s.length∧Below w.heap.size w w'
theorem KpS.set {W:World} {b:Nat} {C:Array Value} {T:TypeId} {fr:Nat×Nat} (hb:W.heap[b]? =some (.cells C T fr)) (h1:T≠113) (h2:T≠9) (j:Nat) (u:Value):KpS W (W.setCell ⟨b,j,none⟩ u):=fun i C' T' fr' hT hi=>by
 have hne:i≠b:=by
  rintro rfl;rw[hb]at hi;injection hi with hi;injection hi with _ hi _;rcases hT with rfl|rfl
  ·exact h1 hi
  ·exact h2 hi
 rw[Below.heap_setCell _ _ _ _ hne];exact hi
theorem KpS.grown {W V:World} {base e size n:Nat} {v:Value} {xs:List Value} (ho:W.ownsRow base e size v n xs) (h1:e≠113) (h2:e≠9) (hg:W.grownBy V v.ownBlock):KpS W V:=fun b C T fr hT h4=>by
 rw[hg.block b (Array.getElem?_eq_some_iff.1 h4).1 (fun q=>by
  rcases ho.2 with⟨rfl,-⟩|⟨g,cap,cur,rfl,-,hb,-⟩
  ·cases q
  ·injection q with q;subst q;rw[hb]at h4;injection h4 with h4;injection h4 with _ h5 _;rcases hT with rfl|rfl
   ·exact h1 h5
   ·exact h2 h5)]
 exact h4
theorem za9 {W:World} {b:Nat} {x y:Value} {T:TypeId} (h:W.heap[b]? =some (.cells #[x] T (0,0))):(W.setCell ⟨b,0,none⟩ y).heap[b]? =some (.cells #[y] T (0,0)):=by
 simp[World.setCell,Array.getElem?_modify,h]
theorem za7 {W:World} {b b' j:Nat} {y:Value} {o:Obj} (hne:b≠b') (h:W.heap[b]? =some o):(W.setCell ⟨b',j,none⟩ y).heap[b]? =some o:=by
 rw[Below.heap_setCell _ _ _ _ hne];exact h
theorem zjh {W:World} {B T e size n:Nat} {v:Value} {xs:List Value} {b j:Nat} {C:Array Value} {fr:Nat×Nat} (h:W.ownsRow B e size v n xs) (hb:W.heap[b]? =some (.cells C T fr)) (hT:T≠e) (u:Value):(W.setCell ⟨b,j,none⟩ u).ownsRow B e size v n xs:=by
 refine⟨h.1,?_⟩;rcases h.2 with h0|⟨g,cap,cur,h1,h2,h3,h4⟩
 ·exact .inl h0
 ·refine .inr ⟨g,cap,cur,h1,h2,za7 ?_ h3,h4⟩;rintro rfl;rw[h3]at hb;injection hb with hb;injection hb with _ hb _;exact hT hb.symm
theorem zby {W:World} {b:Nat} {v:Value} {T:TypeId} (h:W.heap[b]? =some (.cells #[v] T (0,0))):W.cell? ⟨b,0,none⟩=some v∧W.frozen? ⟨b,0,none⟩=false:=⟨by simp[World.cell?,h],by simp[World.frozen?,h]⟩
theorem znr (s:Bs) (p k:Nat):(bsB s).extract p k=bsB ((s.take k).drop p):=by
 rw[←zbj ((bsB s).extract p k),Lib.extract_data,zbh,List.drop_take]
theorem ScI.white {w W:World} {s:Bs} {k:Nat} {vo:Value} {ws:List Wd} {cur:Bs} (h:ScI w s k W vo ws cur) (hk:k<s.length) (hw:isW s[k]=true):ScJ w s (k+1) (W.setCell ⟨w.heap.size+2,0,none⟩ (.bool false)):=
 ⟨vo,ws,[],h.st.white hk hw,za7 (by omega) h.bt,za7 (by omega) h.bo,za9 h.bi,zjh h.o h.bi (by decide) _,h.b.setCell (p:=⟨w.heap.size+2,0,none⟩) (by show w.heap.size≤w.heap.size+2;omega) _⟩
theorem zg9 {w W W':World} {s:Bs} {k:Nat} {vo:Value} {ws:List Wd} {cur:Bs} {C:Array Value} (h:ScI w s k W vo ws cur) (hg:(W.alloc (.cells C 58)).grownBy W' vo.ownBlock):
 W'.heap[w.heap.size]? =some (.cells #[.string (bsB s)] 9 (0,0))∧W'.heap[w.heap.size+1]? =some (.cells #[vo] 37 (0,0))∧W'.heap[w.heap.size+2]? =some (.cells #[.bool (decide (cur≠ []))] 4 (0,0))∧
 Below w.heap.size w W'∧KeepsOthers W W'∧KpS W W':=by
 have hal:Below W.heap.size W (W.alloc (.cells C 58)):=(Below.refl _ _).alloc (Nat.le_refl _) _;have ho2:=World.ownsRow.alloc h.o (.cells C 58);have b1:Boxed W w.heap.size 9 (.string (bsB s)):=h.bt;have b2:Boxed W (w.heap.size+1) 37 vo:=h.bo;have b3:Boxed W (w.heap.size+2) 4 (.bool (decide (cur≠ []))):=h.bi;refine⟨(b1.alloc _).kept hg (b1.not_row (by decide) h.o),(b2.alloc _).kept hg (b2.not_row (by decide) h.o),(b3.alloc _).kept hg (b3.not_row (by decide) h.o),?_,?_,KpS.trans (KpS.below hal) (KpS.grown ho2 (by decide) (by decide) hg)⟩
 ·exact(h.b.alloc h.b.size _).grown hg (by have:=h.b.size;simp;omega) (fun j ej=>(h.o.lt j ej).1)
 ·refine(KeepsOthers.alloc W _).trans (KeepsOthers.of_grownBy hg fun j o ej hj=>?_);rcases ho2.2 with⟨rfl,_⟩|⟨g,cap,cur,rfl,_,hgb,_⟩
  ·simp[Value.ownBlock]at ej
  ·obtain rfl:g=j:=by simpa[Value.ownBlock] using ej
   rw[hgb]at hj;cases hj;rfl
structure ScM (w W:World) (s:Bs) (k n g cap:Nat) (ini:List Wd) (x:Wd) (p:Nat):Prop where
 nx:ini.length=n
 bt:W.heap[w.heap.size]? =some (.cells #[.string (bsB s)] 9 (0,0))
 bo:W.heap[w.heap.size+1]? =some (.cells #[.slice (some ⟨g,0,none⟩) (n+1) cap] 37 (0,0))
 bi:W.heap[w.heap.size+2]? =some (.cells #[.bool true] 4 (0,0))
 o:W.ownsRow w.heap.size 58 4 (.slice (some ⟨g,0,none⟩) (n+1) cap) (n+1) (wds (ini++ [x]))
 b:Below w.heap.size w W
 po:x.2.1=(p:Int)
 pk:p≤k
 st:ScSt s (k+1) (ini++ [((s.take (k+1)).drop p,x.2)]) ((s.take (k+1)).drop p)
 nl:n+1≤s.length
theorem ScI.mid {w W:World} {s:Bs} {k:Nat} {vo:Value} {ws:List Wd} {cur:Bs} (h:ScI w s k W vo ws cur) (hc:cur≠ []) (hk:k<s.length) (hw:isW s[k]=false):
 ∃n g cap ini x p,vo=.slice (some ⟨g,0,none⟩) (n+1) cap∧ScM w W s k n g cap ini x p:=by
 obtain⟨ini,x,rfl,hx,ho⟩:=h.st.c hc;have h5:=h.o;have h6:=h.st.l;rw[show(ini++ [x]).length=ini.length+1 by simp]at h5 h6;obtain⟨g,cap,rfl⟩:=ownsRow_succ h5;refine⟨ini.length,g,cap,ini,x,k-cur.length,rfl,rfl,h.bt,h.bo,?_,h5,h.b,ho,by omega,?_,by omega⟩
 ·have:=h.bi;rwa [decide_eq_true hc]at this
 ·rw[h.st.text hk];exact h.st.more hx hc hk hw ho
theorem ScM.new {w W:World} {s:Bs} {k n g cap:Nat} {ws:List Wd} {q1 q2:Int} (hn:ws.length=n) (h:ScSt s k ws []) (hk:k<s.length) (hw:isW s[k]=false)
 (bt:W.heap[w.heap.size]? =some (.cells #[.string (bsB s)] 9 (0,0)))
 (bo:W.heap[w.heap.size+1]? =some (.cells #[.slice (some ⟨g,0,none⟩) (n+1) cap] 37 (0,0)))
 (bi:W.heap[w.heap.size+2]? =some (.cells #[.bool true] 4 (0,0)))
 (o:W.ownsRow w.heap.size 58 4 (.slice (some ⟨g,0,none⟩) (n+1) cap) (n+1) (wds ws++ [.string ⟨#[]⟩,.int .i64 (k:Int),.int .i64 q1,.int .i64 q2]))
 (b:Below w.heap.size w W):ScM w W s k n g cap ws ([],(k:Int),q1,q2) k:=by
 have e:(s.take (k+1)).drop k=[s[k]]:=by
  have:=h.text hk;simpa using this
 refine⟨hn,bt,bo,bi,?_,b,rfl,Nat.le_refl _,?_,by have:=h.l;omega⟩
 ·rw[zpS];exact o
 ·rw[e];exact h.new hk hw q1 q2
theorem ScM.done {w W:World} {s:Bs} {k n g cap:Nat} {ini:List Wd} {x:Wd} {p:Nat} (h:ScM w W s k n g cap ini x p) (hk:k<s.length):
 ScJ w s (k+1) (W.setCell ⟨g,n*4,none⟩ (.string (bsB ((s.take (k+1)).drop p))))∧KpS W (W.setCell ⟨g,n*4,none⟩ (.string (bsB ((s.take (k+1)).drop p)))):=by
 obtain⟨hnx,bt,bo,bi,o,b,po,pk,st,nl⟩:=h;have hg:=o.lt g rfl
 obtain⟨C,hC⟩:∃C,W.heap[g]? =some (.cells C 58 (0,0)):=by
  rcases o.2 with⟨h0,-⟩|⟨g',cap',cur,h0,-,hgb,-⟩
  ·cases h0
  ·injection h0 with h0 _ _;injection h0 with h0;injection h0 with h0 _ _;subst h0;exact⟨cur,hgb⟩
 have hne:∀(i:Nat) (D:Array Value) (T:TypeId) (fr:Nat×Nat),W.heap[i]? =some (.cells D T fr)→T≠58→i≠g:=by
  rintro i D T fr hi hT rfl;rw[hC]at hi;injection hi with hi;injection hi with _ hi _;exact hT hi.symm
 refine⟨⟨_,_,_,st,za7 (hne _ _ _ _ bt (by decide)) bt,za7 (hne _ _ _ _ bo (by decide)) bo,?_,?_,b.setCell (p:=⟨g,n*4,none⟩) hg.1 _⟩,KpS.set hC (by decide) (by decide) _ _⟩
 ·rw[show decide ((s.take (k+1)).drop p≠ [])=true from decide_eq_true (fun e=>by have:=congrArg List.length e;simp at this;omega)];exact za7 (hne _ _ _ _ bi (by decide)) bi
 ·have h2:=zjr o (n*4) (.string (bsB ((s.take (k+1)).drop p)));rw[show(ini++ [((s.take (k+1)).drop p,x.2)]).length=n+1 by simp[hnx]]
  have e:(wds (ini++ [x])).set (n*4) (.string (bsB ((s.take (k+1)).drop p)))=wds (ini++ [((s.take (k+1)).drop p,x.2)]):=by
   rw[zpS,zpS,List.set_append_right _ _ (by rw[zpQ];omega),zpQ,show n*4-4*ini.length=0 by omega];rfl
  rwa [e]at h2
theorem ScM.cells {w W:World} {s:Bs} {k n g cap:Nat} {ini:List Wd} {x:Wd} {p:Nat} (h:ScM w W s k n g cap ini x p):
 W.cell? ⟨g,n*4,none⟩=some (.string (bsB x.1))∧W.cell? ⟨g,n*4+1,none⟩=some (.int .i64 (p:Int))∧W.frozen? ⟨g,n*4,none⟩=false:=by
 have hnx:=h.nx;obtain⟨h0,h1,-,-⟩:=zpL (ini++ [x]) n (by simp[hnx]);have e:(ini++ [x])[n]'(by simp[hnx])=x:=by simp[←hnx]
 rw[e]at h0 h1;rw[h.po,Nat.mul_comm]at h1;rw[Nat.mul_comm]at h0;exact⟨(h.o.cellAt _ (by omega)).trans h0,(h.o.cellAt _ (by omega)).trans h1,h.o.frozenAt _⟩
theorem ScM.keep {w V:World} {s:Bs} {k n g cap b:Nat} {ini:List Wd} {x:Wd} {p:Nat} {D:Array Value} {q:Value} (h:ScM w V s k n g cap ini x p) (hb:V.heap[b]? =some (.cells D 115 (0,0))) (hq:V.cell? ⟨b,0,none⟩=some q) (u:Value):
 (V.setCell ⟨g,n*4,none⟩ u).cell? ⟨w.heap.size,0,none⟩=some (.string (bsB s))∧(V.setCell ⟨g,n*4,none⟩ u).cell? ⟨g,n*4+1,none⟩=some (.int .i64 (p:Int))∧(V.setCell ⟨g,n*4,none⟩ u).cell? ⟨b,0,none⟩=some q:=by
 have hne:∀(i:Nat) (D:Array Value) (T:TypeId) (fr:Nat×Nat),V.heap[i]? =some (.cells D T fr)→T≠58→g≠i:=by
  rintro i D T fr hi hT rfl;rcases h.o.2 with⟨h0,-⟩|⟨g',cap',cur,h0,-,hgb,-⟩
  ·cases h0
  ·injection h0 with h0 _ _;injection h0 with h0;injection h0 with h0 _ _;subst h0;rw[hgb]at hi;injection hi with hi;injection hi with _ hi _;exact hT hi.symm
 refine⟨?_,?_,?_⟩
 ·rw[World.cell?_setCell_other (h:=fun e=>by injection e with e _ _;exact hne _ _ _ _ h.bt (by decide) e)];exact(zby h.bt).1
 ·rw[World.cell?_setCell_other (h:=fun e=>by injection e with _ e _;omega)];exact h.cells.2.1
 ·rw[World.cell?_setCell_other (h:=fun e=>by injection e with e _ _;exact hne _ _ _ _ hb (by decide) e)];exact hq
theorem ScM.drew {w W:World} {s:Bs} {k n g cap:Nat} {ini:List Wd} {x:Wd} {p:Nat} (h:ScM w W s k n g cap ini x p):ScM w W.drew s k n g cap ini x p:=
 ⟨h.nx,h.bt,h.bo,h.bi,h.o,h.b.drew,h.po,h.pk,h.st,h.nl⟩
theorem zg7 {w W W':World} {s:Bs} {k g cap:Nat} {vo:Value} {ws:List Wd} {C:Array Value} {q1 q2:Int} (h:ScI w s k W vo ws []) (hk:k<s.length) (hw:isW s[k]=false)
 (hown:W'.ownsRow w.heap.size 58 4 (.slice (some ⟨g,0,none⟩) (ws.length+1) cap) (ws.length+1) (wds ws++ [.string ⟨#[]⟩,.int .i64 (k:Int),.int .i64 q1,.int .i64 q2])) (hg:(W.alloc (.cells C 58)).grownBy W' vo.ownBlock):
 ScM w ((W'.setCell ⟨w.heap.size+1,0,none⟩ (.slice (some ⟨g,0,none⟩) (ws.length+1) cap)).setCell ⟨w.heap.size+2,0,none⟩ (.bool true)) s k ws.length g cap ws ([],(k:Int),q1,q2) k∧
 KeepsOthers W ((W'.setCell ⟨w.heap.size+1,0,none⟩ (.slice (some ⟨g,0,none⟩) (ws.length+1) cap)).setCell ⟨w.heap.size+2,0,none⟩ (.bool true))∧
 KpS W ((W'.setCell ⟨w.heap.size+1,0,none⟩ (.slice (some ⟨g,0,none⟩) (ws.length+1) cap)).setCell ⟨w.heap.size+2,0,none⟩ (.bool true))∧
 (∀(b:Nat) (D:Array Value),W.heap[b]? =some (.cells D 115 (0,0))→((W'.setCell ⟨w.heap.size+1,0,none⟩ (.slice (some ⟨g,0,none⟩) (ws.length+1) cap)).setCell ⟨w.heap.size+2,0,none⟩ (.bool true)).heap[b]? =some (.cells D 115 (0,0))):=by
 obtain⟨g1,g2,g3,g4,g5,g6⟩:=zg9 h hg;have f2:(W'.setCell ⟨w.heap.size+1,0,none⟩ (.slice (some ⟨g,0,none⟩) (ws.length+1) cap)).heap[w.heap.size+1]? =some (.cells #[.slice (some ⟨g,0,none⟩) (ws.length+1) cap] 37 (0,0)):=za9 g2;have f3:(W'.setCell ⟨w.heap.size+1,0,none⟩ (.slice (some ⟨g,0,none⟩) (ws.length+1) cap)).heap[w.heap.size+2]? =some (.cells #[.bool (decide (([]:Bs)≠ []))] 4 (0,0)):=za7 (by omega) g3;refine⟨ScM.new rfl h.st hk hw (za7 (by omega) (za7 (by omega) g1)) (za7 (by omega) f2) (za9 f3) (zjh (zjh hown g2 (by decide) _) f3 (by decide) _) ((g4.setCell (p:=⟨w.heap.size+1,0,none⟩) (by show w.heap.size≤w.heap.size+1;omega) _).setCell (p:=⟨w.heap.size+2,0,none⟩) (by show w.heap.size≤w.heap.size+2;omega) _),?_,?_,?_⟩
 ·exact(g5.trans (KeepsOthers.setCell _ _ _)).trans (KeepsOthers.setCell _ _ _)
 ·exact KpS.trans (KpS.trans g6 (KpS.set g2 (by decide) (by decide) _ _)) (KpS.set f3 (by decide) (by decide) _ _)
 ·intro b D hb
  have hal:(W.alloc (.cells C 58)).heap[b]? =some (.cells D 115 (0,0)):=by
   rw[((Below.refl _ W).alloc (Nat.le_refl _) (.cells C 58)).block b (Array.getElem?_eq_some_iff.1 hb).1];exact hb
  have hb2:W'.heap[b]? =some (.cells D 115 (0,0)):=by
   rw[hg.block b (Array.getElem?_eq_some_iff.1 hal).1 (fun q=>by
    rcases(World.ownsRow.alloc h.o (.cells C 58)).2 with⟨rfl,-⟩|⟨g',cap',cur,rfl,-,hgb,-⟩
    ·cases q
    ·injection q with q;subst q;rw[hgb]at hal;injection hal with hal;injection hal with _ h5 _;exact absurd h5 (by decide))]
   exact hal
  have n1:b≠w.heap.size+1:=by
   rintro rfl;rw[g2]at hb2;injection hb2 with hb2;injection hb2 with _ h5 _;exact absurd h5 (by decide)
  have n2:b≠w.heap.size+2:=by
   rintro rfl;rw[g3]at hb2;injection hb2 with hb2;injection hb2 with _ h5 _;exact absurd h5 (by decide)
  exact za7 n2 (za7 n1 hb2)
theorem zg8 {s:Bs} {p k:Nat} (hpk:p≤k) (hk:k<s.length) (hl:s.length≤16384):IntKind.i64.wrap ((k:Int)+1)=(k:Int)+1∧p≤k+1∧k+1≤(bsB s).size∧(p:Int)≤(k:Int)+1∧(k:Int)+1≤((bsB s).size:Int)∧(0:Int)≤(k:Int)+1∧((k:Int)+1).toNat=k+1:=by
 have hz:=zbk s;generalize (bsB s).size=z at*;exact⟨IntWalk.i64_in _ (by omega),by omega,by omega,by omega,by omega,by omega,by omega⟩
theorem zgG (s:Bs) (w:World) (hl:s.length≤16384):Calls Tryz.prog 26 #[.string (bsB s)] w (zak s w):=by
 have hsz:(bsB s).size=s.length:=zbk s;have hgt:decide ((16384:Int)<(s.length:Int))=false:=by rw[decide_eq_false_iff_not];omega
 obtain⟨i0,hi,iz0,iz1,iz2⟩:=info_parts (P:=Tryz.prog) zpF;refine(callsIn_wide (n:=6)).1 ?_;refine callsIn_of_wp_marks Tryz.func26 rfl trivial ?_ rfl;refine wpIn_wide.2 ?_;simp only[Tryz.ntmps26,List.size_toArray,List.length_cons,List.length_nil,Nat.reduceAdd,Nat.reduceSub,Array.replicate_succ,Array.replicate_zero,List.push_toArray,List.append_toArray,List.nil_append,List.cons_append];go_wp2_with fail;refine(zgJ (bsB s) _).mono ?_;rintro e w1 ⟨rfl,rfl⟩;go_wp2_with fail;have HSZ:=lhd hsz;clear hsz hgt;obtain⟨W0,hW0⟩:∃X,(((w.alloc (.cells #[.string (bsB s)] 9)).alloc (.cells #[.slice none 0 0] 37)).alloc (.cells #[.bool false] 4)).alloc (.cells #[.string (bsB s)] 9)=X:=⟨_,rfl⟩;have hs0:W0.heap.size=w.heap.size+4:=by rw[←hW0];simp
 have h1:=heap_alloc_new w (.cells #[.string (bsB s)] 9);have b1:Below w.heap.size w (w.alloc (.cells #[.string (bsB s)] 9)):=(Below.refl _ _).alloc (Nat.le_refl _) _;have e1:(w.alloc (.cells #[.string (bsB s)] 9)).heap.size=w.heap.size+1:=by simp
 generalize w.alloc (.cells #[.string (bsB s)] 9)=x1 at*;have h2:=heap_alloc_new x1 (.cells #[.slice none 0 0] 37);have b2:Below x1.heap.size x1 (x1.alloc (.cells #[.slice none 0 0] 37)):=(Below.refl _ _).alloc (Nat.le_refl _) _;have e2:(x1.alloc (.cells #[.slice none 0 0] 37)).heap.size=w.heap.size+2:=by simp[e1]
 generalize x1.alloc (.cells #[.slice none 0 0] 37)=x2 at*;have h3:=heap_alloc_new x2 (.cells #[.bool false] 4);have b3:Below x2.heap.size x2 (x2.alloc (.cells #[.bool false] 4)):=(Below.refl _ _).alloc (Nat.le_refl _) _;have e3:(x2.alloc (.cells #[.bool false] 4)).heap.size=w.heap.size+3:=by simp[e2]
 generalize x2.alloc (.cells #[.bool false] 4)=x3 at*;have h4:=heap_alloc_new x3 (.cells #[.string (bsB s)] 9);have b4:Below x3.heap.size x3 (x3.alloc (.cells #[.string (bsB s)] 9)):=(Below.refl _ _).alloc (Nat.le_refl _) _;rw[hW0]at h4 b4⊢;rw[e1]at h2;rw[e2]at h3;rw[e3]at h4
 have hI0:ScI w s 0 W0 (.slice none 0 0) [] []:=
  ⟨ScSt.start s,za8 (za8 (za8 h1 b2) b3) b4,za8 (za8 h2 b3) b4,za8 h3 b4,World.ownsRow_nil _ _ _ _,zd5 (zd5 (zd5 b1 b2) b3) b4⟩
 clear h1 h2 h3 b1 b2 b3 b4 e1 e2 e3 hW0;refine(wpIn_wide (n:=6)).1 ?_
 refine zkO rfl (by decide) (gf:=115) (lb:=#[.pointer (some ⟨w.heap.size+3,0,none⟩)]) rfl trivial (enters_of Tryz.func115 (by kernel_rfl) rfl)
  (encs:=zng s) (Kp:=KpS) (N:=s.length) (T:=113)
  (fun l J W hW hJ hY h0=>znj (6-1) (by decide) l (w.heap.size+3) W0.heap.size s (by omega) J W hW.size hJ hY (0,0) (za8 h4 hW) h0)
  KpS.trans (fun _ _ h=>KpS.same0 h) (fun _=>rfl)
  (ScJ w s) (fun k W V ⟨vo,ws,cur,h⟩ ht=>⟨vo,ws,cur,h.turn (by omega) ht⟩) ⟨_,_,_,hI0⟩ ?round ?done
 case done=>
  rintro D W hD ⟨vo,ws,cur,h⟩ hK;obtain⟨co,fo⟩:=zby h.bo;have H:=lhd h;have HK:=lhd hK;clear h hK;go_wp2_with fail;refine⟨by simp,.inl ⟨_,_,rfl,run_takeDeferred HK.out,?_⟩⟩;have e:=H.out.st.fin;have el:=H.out.st.l;exact⟨.tuple #[vo,.int .i64 0],by simp[results,Tryz.results26,go_sem],vo,ws,rfl,ownsRow_putObj H.out.o _ HK.out rfl,e,el,H.out.b.trans (belowK_b (w:=W0) (by omega) _ D _ _ hD HK.out rfl rfl)⟩
 case round=>
  intro l k W hlW ⟨vo,ws,cur,h⟩ hk;obtain⟨b1,b2,b3,b4,b5⟩:=zjT (s:=s) (k:=k) (by omega);have hgd:s.getD k 0=s[k]:=by simp[List.getD,hk]
  unfold zng;rw[hgd];obtain⟨c,hc⟩:∃c,s[k]=c:=⟨_,rfl⟩;rw[hc];generalize plc s k=p at b1 b2 b3 b4 b5⊢;obtain⟨po,pl,pc⟩:=p;dsimp only at b1 b2 b3 b4 b5⊢;subst b1;have hal:Below W.heap.size W (W.alloc (.cells #[.int .i64 (k:Int),.int .i64 pl,.int .i64 pc,.int .u8 (c.toNat:Int)] 115)):=(Below.refl _ _).alloc (Nat.le_refl _) _;have HN:=lhd (heap_alloc_new W (.cells #[.int .i64 (k:Int),.int .i64 pl,.int .i64 pc,.int .u8 (c.toNat:Int)] 115));have H1:=lhd (h.turn (Nat.le_refl _) (TurnJ.below (T:=113) h.b.size hal).i);have HKP:=lhd (And.intro ((KeepsOthers.alloc W (.cells #[.int .i64 (k:Int),.int .i64 pl,.int .i64 pc,.int .u8 (c.toNat:Int)] 115)).from W0.heap.size) (KpS.below hal));clear h hal hgd;gi_wp2
  refine⟨HKP.out.1,HKP.out.2,?_⟩;intro W2 hs2 ht2;have H2:=lhd (H1.out.turn (by omega) ht2);have HS:=lhd (hs2.cells _ _ _ _ HN.out);clear hs2 ht2 HKP HN H1;have q0:=(zjf HS.out).cell (j:=0) rfl;have q1:=(zjf HS.out).cell (j:=1) rfl;have q2:=(zjf HS.out).cell (j:=2) rfl;have q3:=(zjf HS.out).cell (j:=3) rfl;obtain⟨ct,-⟩:=zby H2.out.bt;obtain⟨co,fo⟩:=zby H2.out.bo;obtain⟨ci,fi⟩:=zby H2.out.bi;cases hw:isW c
  ·by_cases hcur:cur=[]
   ·subst hcur;rw[show decide (([]:Bs)≠ [])=false by decide]at ci;have hwl:=H2.out.st.l;have hbz:=H2.out.b.size
    gi_wp2_with (first
     |(refine⟨trivial,?_⟩;gi_at_call 61;refine(CallsIn.inRound l (callsIn_wide.2 (zgK c _))).mono ?_;rintro e W3 ⟨rfl,rfl⟩;rw[hw])
     |(gi_at_builtin;refine wpListIn_append_own _ rfl _ _ 37 rfl w.heap.size 58 i0 (.agg #[.string ⟨#[]⟩,.int .i64 0,.int .i64 0,.int .i64 0]) 4 40 Tryz.underlying37 hi iz0 iz1 iz2 rfl (by decide) _ _ _ rfl (World.ownsRow.alloc (by exact H2.out.o) _) ⟨W3.heap.size,0,none⟩ 1 1 [.string ⟨#[]⟩,.int .i64 (k:Int),.int .i64 pl,.int .i64 pc] rfl rfl (World.news_of_block (cs:=#[.string ⟨#[]⟩,.int .i64 (k:Int),.int .i64 pl,.int .i64 pc]) (t:=58) (fr:=(0,0)) (by exact heap_alloc_new _ _)) (by simp[Value.oneCell']) (by unfold maxLen;omega) (by omega) (by simp;omega) ?_;rintro v' W4 hown hgrow-;obtain⟨g,cap,rfl⟩:=ownsRow_succ hown;have HA:=lhd (zg9 H2.out hgrow);obtain⟨⟨co,fo⟩,⟨ci,fi⟩⟩:=And.intro (zby HA.out.2.1) (zby HA.out.2.2.1)))
    have HV:=lhd (zg7 H2.out hk (hc▸hw) hown hgrow);obtain⟨V,hV⟩:∃X,(W4.setCell ⟨w.heap.size+1,0,none⟩ (.slice (some ⟨g,0,none⟩) (ws.length+1) cap)).setCell ⟨w.heap.size+2,0,none⟩ (.bool true)=X:=⟨_,rfl⟩;rw[hV]at HV;show Code.wpIn _ _ _ _ _ _ ((W4.setCell ⟨w.heap.size+1,0,none⟩ (.slice (some ⟨g,0,none⟩) (ws.length+1) cap)).setCell ⟨w.heap.size+2,0,none⟩ (.bool true));rw[hV];obtain⟨p,hm⟩:∃p,ScM w V s k ws.length g cap ws ([],(k:Int),pl,pc) p:=⟨k,HV.out.1⟩;have HM:=lhd hm;clear hm;have HK:=lhd (HV.out.2.1.from (w.heap.size+4));have HP:=lhd HV.out.2.2.1;have HS2:=lhd (HV.out.2.2.2 _ _ HS.out);have q0:=(zjf HS2.out).cell (j:=0) rfl;generalize hn:ws.length=n at*;clear co fo ci fi ct q1 q2 q3 HV HA hown hgrow hV H2;obtain⟨c0,c1,cf⟩:=HM.out.cells;have ctx:=(zby HM.out.bt).1;have hpk:=HM.out.pk;obtain⟨hkw,hs1,hs2,hs3,hs4,hs5,hs6⟩:=zg8 hpk hk hl;have hst:=znr s p (k+1);refine wpIn_mono (Q:=fun e _ W'=>e=.normal∧W'=V.drew.setCell ⟨g,n*4,none⟩ (.string (bsB ((s.take (k+1)).drop p)))) ?_ ?_;rotate_left
    ·rintro e a' W' ⟨rfl,rfl⟩;obtain⟨z1,z2⟩:=HM.out.drew.done hk;gi_wp2
     exact⟨(HK.out.trans (show KeepsFrom (w.heap.size+4) V V.drew from⟨Nat.le_refl _,fun _ _ _ h _=>h⟩)).trans ((KeepsOthers.setCell V.drew ⟨g,n*4,none⟩ (.string (bsB ((s.take (k+1)).drop p)))).from _),KpS.trans HP.out z2,z1⟩
    refine wpIn_region_any (by kernel_rfl) ?_;refine zaH (zh3 (by kernel_rfl)) ?_ _ _ _ _ ?_
    ·rintro⟨a0,w0,h0,-⟩;cases h0
    refine wpAny_of_held (S:=fun w'=>w'.cell? ⟨w.heap.size,0,none⟩=some (.string (bsB s))∧w'.cell? ⟨g,n*4+1,none⟩=some (.int .i64 (p:Int))∧w'.cell? ⟨W.heap.size,0,none⟩=some (.int .i64 (k:Int))) _ _ _ _ ?_;have hHeld:V.drew.cell? ⟨w.heap.size,0,none⟩=some (.string (bsB s))∧V.drew.cell? ⟨g,n*4+1,none⟩=some (.int .i64 (p:Int))∧V.drew.cell? ⟨W.heap.size,0,none⟩=some (.int .i64 (k:Int)):=⟨ctx,c1,q0⟩
    ·have hHeld:V.drew.cell? ⟨w.heap.size,0,none⟩=some (.string (bsB s))∧V.drew.cell? ⟨g,n*4+1,none⟩=some (.int .i64 (p:Int))∧V.drew.cell? ⟨W.heap.size,0,none⟩=some (.int .i64 (k:Int)):=⟨ctx,c1,q0⟩;refine tkH 0 hHeld (v:=?_) ?_ ?_;rotate_left
     ·intro w h;(try dsimp only at h);go_simp;all_goals with_reducible rfl
     simp only[tkS];refine tkH 1 hHeld (v:=?_) ?_ ?_;rotate_left
     ·intro w h;(try dsimp only at h);go_simp;all_goals with_reducible rfl
     simp only[tkS];refine tkH 2 hHeld (v:=?_) ?_ ?_;rotate_left
     ·intro w h;(try dsimp only at h);go_simp;all_goals with_reducible rfl
     simp only[tkS];refine tkH 3 hHeld (v:=?_) ?_ ?_;rotate_left
     ·intro w h;(try dsimp only at h);go_simp;all_goals with_reducible rfl
     simp only[tkS];refine tkH 4 hHeld (v:=?_) ?_ ?_;rotate_left
     ·intro w h;(try dsimp only at h);go_simp;all_goals with_reducible rfl
     simp only[tkS];refine tkH 5 hHeld (v:=?_) ?_ ?_;rotate_left
     ·intro w h;(try dsimp only at h);go_simp;all_goals with_reducible rfl
     simp only[tkS];refine tkH 6 hHeld (v:=?_) ?_ ?_;rotate_left
     ·intro w h;(try dsimp only at h);go_simp;all_goals with_reducible rfl
     simp only[tkS];refine tkH 7 hHeld (v:=?_) ?_ ?_;rotate_left
     ·intro w h;(try dsimp only at h);go_simp;all_goals with_reducible rfl
     simp only[tkS];refine tkH 8 hHeld (v:=?_) ?_ ?_;rotate_left
     ·intro w h;(try dsimp only at h);go_simp;all_goals with_reducible rfl
     simp only[tkS];refine tkH 9 hHeld (v:=?_) ?_ ?_;rotate_left
     ·intro w h;(try dsimp only at h);go_simp;all_goals with_reducible rfl
     simp only[tkS];refine tkH 10 hHeld (v:=?_) ?_ ?_;rotate_left
     ·intro w h;(try dsimp only at h);go_simp;all_goals with_reducible rfl
     simp only[tkS];refine tkH 11 hHeld (v:=?_) ?_ ?_;rotate_left
     ·intro w h;(try dsimp only at h);go_simp;all_goals with_reducible rfl
     simp only[tkS];refine tkH 12 hHeld (v:=?_) ?_ ?_;rotate_left
     ·intro w h;(try dsimp only at h);go_simp;all_goals with_reducible rfl
     simp only[tkS];refine oneH 13 (fun K hK=>?_);go_simp;have hk9:=HM.out.drew.keep HS2.out q0 (.string (bsB ((s.take (k+1)).drop p)));refine hK.out _ _ hk9 (fun hHeld=>?_);clear hK;try simp only[tkS]
     refine wpAnyH_done (by kernel_rfl) ?_ _;exact⟨rfl,rfl⟩
   ·rw[decide_eq_true hcur]at ci;obtain⟨n,g,cap,ini,x,p,rfl,hm⟩:=H2.out.mid hcur hk (hc▸hw);have HM:=lhd hm;clear hm;have hwn:wrap64 (n:Int)=(n:Int):=IntWalk.wrap64_in _ (by have:=HM.out.nl;omega);gi_wp2_with (refine⟨trivial,?_⟩;gi_at_call 61;refine(CallsIn.inRound l (callsIn_wide.2 (zgK c _))).mono ?_;rintro e W3 ⟨rfl,rfl⟩;rw[hw])
    have HK:=lhd ((KeepsOthers.refl W3).from (w.heap.size+4));have HP:=lhd (KpS.below (Below.refl _ W3));clear co fo ci fi ct q1 q2 q3 H2;have HS2:=HS;rename World=>V
    obtain⟨c0,c1,cf⟩:=HM.out.cells;have ctx:=(zby HM.out.bt).1;have hpk:=HM.out.pk;obtain⟨hkw,hs1,hs2,hs3,hs4,hs5,hs6⟩:=zg8 hpk hk hl;have hst:=znr s p (k+1);refine wpIn_mono (Q:=fun e _ W'=>e=.normal∧W'=V.drew.setCell ⟨g,n*4,none⟩ (.string (bsB ((s.take (k+1)).drop p)))) ?_ ?_;rotate_left
    ·rintro e a' W' ⟨rfl,rfl⟩;obtain⟨z1,z2⟩:=HM.out.drew.done hk;gi_wp2
     exact⟨(HK.out.trans (show KeepsFrom (w.heap.size+4) V V.drew from⟨Nat.le_refl _,fun _ _ _ h _=>h⟩)).trans ((KeepsOthers.setCell V.drew ⟨g,n*4,none⟩ (.string (bsB ((s.take (k+1)).drop p)))).from _),KpS.trans HP.out z2,z1⟩
    refine wpIn_region_any (by kernel_rfl) ?_;refine zaH (zh3 (by kernel_rfl)) ?_ _ _ _ _ ?_
    ·rintro⟨a0,w0,h0,-⟩;cases h0
    refine wpAny_of_held (S:=fun w'=>w'.cell? ⟨w.heap.size,0,none⟩=some (.string (bsB s))∧w'.cell? ⟨g,n*4+1,none⟩=some (.int .i64 (p:Int))∧w'.cell? ⟨W.heap.size,0,none⟩=some (.int .i64 (k:Int))) _ _ _ _ ?_;have hHeld:V.drew.cell? ⟨w.heap.size,0,none⟩=some (.string (bsB s))∧V.drew.cell? ⟨g,n*4+1,none⟩=some (.int .i64 (p:Int))∧V.drew.cell? ⟨W.heap.size,0,none⟩=some (.int .i64 (k:Int)):=⟨ctx,c1,q0⟩
    ·have hHeld:V.drew.cell? ⟨w.heap.size,0,none⟩=some (.string (bsB s))∧V.drew.cell? ⟨g,n*4+1,none⟩=some (.int .i64 (p:Int))∧V.drew.cell? ⟨W.heap.size,0,none⟩=some (.int .i64 (k:Int)):=⟨ctx,c1,q0⟩;refine tkH 0 hHeld (v:=?_) ?_ ?_;rotate_left
     ·intro w h;(try dsimp only at h);go_simp;all_goals with_reducible rfl
     simp only[tkS];refine tkH 1 hHeld (v:=?_) ?_ ?_;rotate_left
     ·intro w h;(try dsimp only at h);go_simp;all_goals with_reducible rfl
     simp only[tkS];refine tkH 2 hHeld (v:=?_) ?_ ?_;rotate_left
     ·intro w h;(try dsimp only at h);go_simp;all_goals with_reducible rfl
     simp only[tkS];refine tkH 3 hHeld (v:=?_) ?_ ?_;rotate_left
     ·intro w h;(try dsimp only at h);go_simp;all_goals with_reducible rfl
     simp only[tkS];refine tkH 4 hHeld (v:=?_) ?_ ?_;rotate_left
     ·intro w h;(try dsimp only at h);go_simp;all_goals with_reducible rfl
     simp only[tkS];refine tkH 5 hHeld (v:=?_) ?_ ?_;rotate_left
     ·intro w h;(try dsimp only at h);go_simp;all_goals with_reducible rfl
     simp only[tkS];refine tkH 6 hHeld (v:=?_) ?_ ?_;rotate_left
     ·intro w h;(try dsimp only at h);go_simp;all_goals with_reducible rfl
     simp only[tkS];refine tkH 7 hHeld (v:=?_) ?_ ?_;rotate_left
     ·intro w h;(try dsimp only at h);go_simp;all_goals with_reducible rfl
     simp only[tkS];refine tkH 8 hHeld (v:=?_) ?_ ?_;rotate_left
     ·intro w h;(try dsimp only at h);go_simp;all_goals with_reducible rfl
     simp only[tkS];refine tkH 9 hHeld (v:=?_) ?_ ?_;rotate_left
     ·intro w h;(try dsimp only at h);go_simp;all_goals with_reducible rfl
     simp only[tkS];refine tkH 10 hHeld (v:=?_) ?_ ?_;rotate_left
     ·intro w h;(try dsimp only at h);go_simp;all_goals with_reducible rfl
     simp only[tkS];refine tkH 11 hHeld (v:=?_) ?_ ?_;rotate_left
     ·intro w h;(try dsimp only at h);go_simp;all_goals with_reducible rfl
     simp only[tkS];refine tkH 12 hHeld (v:=?_) ?_ ?_;rotate_left
     ·intro w h;(try dsimp only at h);go_simp;all_goals with_reducible rfl
     simp only[tkS];refine oneH 13 (fun K hK=>?_);go_simp;have hk9:=HM.out.drew.keep HS2.out q0 (.string (bsB ((s.take (k+1)).drop p)));refine hK.out _ _ hk9 (fun hHeld=>?_);clear hK;try simp only[tkS]
     refine wpAnyH_done (by kernel_rfl) ?_ _;exact⟨rfl,rfl⟩
  ·gi_wp2_with (refine⟨trivial,?_⟩;gi_at_call 61;refine(CallsIn.inRound l (callsIn_wide.2 (zgK c _))).mono ?_;rintro e W3 ⟨rfl,rfl⟩;rw[hw])
   exact⟨(KeepsOthers.setCell _ _ _).from _,KpS.set H2.out.bi (by decide) (by decide) _ _,H2.out.white hk (hc▸hw)⟩
theorem zk5 (v u:Value) (l m:List Pb) (w:World) (hs:SlR w v l.length (prbs l)) (ht:SlR w u m.length (prbs m)):
 Calls Tryz.prog 29 #[v,u] w fun e w'=>e=.returned (.bool (decide (l=m)))∧Below w.heap.size w w':=by
 obtain⟨a,cap,rfl,hc,hm⟩:=hs.shape;obtain⟨a2,cap2,rfl,hc2,hm2⟩:=ht.shape;unfold maxLen at hm hm2;have HS:=lhd hs;have HT:=lhd ht;clear hs ht;by_cases hne:l.length≠m.length
 ·have E:=lhd (show decide (l=m)=false by rw[decide_eq_false_iff_not];intro h;exact hne (by rw[h]));have hb:((l.length:Int) !=(m.length:Int))=true:=by rw[bne_iff_ne];omega
  clear hne;go_enter Tryz.func29,Tryz.ntmps29;go_wp2_with fail;go_ret;exact⟨zle E.out.symm,Below.refl _ _⟩
 have hlen:l.length=m.length:=by omega
 have hb:((l.length:Int) !=(m.length:Int))=false:=by rw[hlen];simp
 clear hne;go_enter Tryz.func29,Tryz.ntmps29;go_wp2_with fail
 go_loopw [5] (fun i wr=>∃(j:Nat),j≤l.length∧i=.int .i64 j∧l.take j=m.take j∧Below w.heap.size w wr)
  (fun i _=>l.length-(intOf i).toNat)
 case atStart=>exact⟨0,Nat.zero_le _,rfl,rfl,Below.refl _ _⟩
 case round=>
  obtain⟨j,hj,rfl,hgo,hbw⟩:=hrel;have HGO:=lhd hgo;have HB:=lhd hbw;clear hgo hbw;by_cases hlt:j<l.length
  ·have hlt2:j<m.length:=by omega
   obtain⟨b,o,rfl,d0,d1,d2,d3⟩:=SlR.prbs (HS.out.below HB.out) hlt;obtain⟨b2,o2,rfl,g0,g1,g2,g3⟩:=SlR.prbs (HT.out.below HB.out) hlt2;have hw:IntKind.i64.wrap ((j:Int)+1)=(j:Int)+1:=IntWalk.i64_in _ (by omega);by_cases he:l[j]=m[j]
   ·have HGO2:Hid (l.take (j+1)=m.take (j+1)):=lhd (by rw[List.take_succ_eq_append_getElem hlt,List.take_succ_eq_append_getElem hlt2,HGO.out,he]);rw[←he]at g0 g1 g2 g3;generalize l[j]=c at d0 d1 d2 d3 g0 g1 g2 g3;clear he;obtain⟨x,y,z,t⟩:=c;dsimp only at d0 d1 d2 d3 g0 g1 g2 g3;go_wp2_with fail;go_quiet (fail);go_wp2_with fail;go_roundw;case rel=>exact⟨j+1,by omega,by go_num,HGO2.out,za1 HB.out _⟩
    case measure=>simp[intOf];omega
   ·have E2:=lhd (show decide (l=m)=false by rw[decide_eq_false_iff_not];intro h;subst h;exact he rfl);generalize l[j]=c at d0 d1 d2 d3 he;generalize m[j]=c' at g0 g1 g2 g3 he;obtain⟨x,y,z,t⟩:=c;obtain⟨x',y',z',t'⟩:=c';dsimp only at d0 d1 d2 d3 g0 g1 g2 g3;by_cases hx:x=x'
    ·subst hx;by_cases hy:y=y'
     ·subst hy;by_cases hz:z=z'
      ·subst hz;have hzb:=zfF (show t≠t' from fun h=>he (by rw[h]));clear he;go_wp2_with fail;go_quiet (fail);go_wp2_with fail;go_ret;exact⟨zle E2.out.symm,za1 HB.out _⟩
      ·have hzb:=zfF hz;clear he;go_wp2_with fail;go_quiet (fail);go_wp2_with fail;go_ret;exact⟨zle E2.out.symm,za1 HB.out _⟩
     ·have hyb:=zfF hy;clear he;go_wp2_with fail;go_quiet (fail);go_wp2_with fail;go_ret;exact⟨zle E2.out.symm,za1 HB.out _⟩
    ·have hxb:=zfF hx;clear he;go_wp2_with fail;go_quiet (fail);go_wp2_with fail;go_ret;exact⟨zle E2.out.symm,za1 HB.out _⟩
  ·obtain rfl:j=l.length:=by omega
   have E2:=lhd (show decide (l=m)=true by rw[decide_eq_true_iff];have:=HGO.out;rwa [List.take_length,hlen,List.take_length]at this);go_wp2_with fail;go_ret;exact⟨zle E2.out.symm,HB.out⟩
open Go.Joins Go.ChangeShapes Go.WideShapes Go.RowKit Go.Deep
theorem zm0 {w:World} {a:Addr} {v:Value} (h:w.cell? a=some v):a.spot=none:=by
 unfold World.cell? at h;split at h
 ·split at h
  ·cases h
  ·rename_i h1;simpa using h1
 ·cases h
theorem zpV {H:Type} {P:Program} {e:TypeId}:∀{l:List (DataW H)} {d:DataW H},d∈l→∀n∈d.weights P e,n∈DataW.weightsAll P e l
 |x::r,d,h,n,hn=>by
  unfold DataW.weightsAll;rcases List.mem_cons.1 h with rfl|h
  ·exact List.mem_append.2 (.inl hn)
  ·exact List.mem_append.2 (.inr (zpV h n hn))
theorem zed {T:Type} {enc:T→List Value} {k:Nat} (henc:∀x,(enc x).length=k):∀l:List T,(l.flatMap enc).length=k*l.length
 | []=>rfl
 |x::l=>by rw[List.flatMap_cons,List.length_append,henc,zed henc l,List.length_cons,Nat.mul_add];omega
theorem zgZ {T:Type} {enc:T→List Value} {k:Nat} (henc:∀x,(enc x).length=k) {Q:T→Prop} {w:World} {a:Addr}:∀{m:Nat},(∀i,i<m→∃c:T,Q c∧∀(j:Nat) (u:Value),(enc c)[j]? =some u→w.cell? (a.add (i*k+j))=some u)→
 ∃l:List T,l.length=m∧(∀c∈l,Q c)∧∀(j:Nat) (u:Value),(l.flatMap enc)[j]? =some u→w.cell? (a.add j)=some u
 |0,_=>⟨[],rfl,by simp,fun j u h=>by simp at h⟩
 |m+1,h=>by
  obtain⟨l,hl,hq,hc⟩:=zgZ henc (m:=m) fun i hi=>h i (by omega);obtain⟨c,h0,h1⟩:=h m (by omega);have hf:=zed henc l;refine⟨l++ [c],by simp[hl],fun x hx=>?_,fun j u hj=>?_⟩
  ·rcases List.mem_append.1 hx with hx|hx
   ·exact hq x hx
   ·rw[List.mem_singleton]at hx;subst hx;exact h0
  ·rw[List.flatMap_append]at hj;by_cases hlt:j<(l.flatMap enc).length
   ·rw[List.getElem?_append_left hlt]at hj;exact hc j u hj
   ·rw[List.getElem?_append_right (by omega)]at hj;have:=h1 (j-(l.flatMap enc).length) u (by simpa using hj);rwa [show m*k+(j-(l.flatMap enc).length)=j by rw[hf,hl,Nat.mul_comm m k];rw[hf,hl]at hlt;omega]at this
section
variable {H : Type} {enc : TypeId × Value → H} {P : Program} {w : World} {base : Nat} {spare : Nat → Bool} {held : Bool}
theorem ziR {T:Type} {encT:T→List Value} {k:Nat} (henc:∀x,(encT x).length=k) (hk0:0<k) {Q:T→Prop} {t e:TypeId} (ht:P.underlying t=some (.slice e)) (hk:P.cellsOf e=k)
 (hel:∀(n:Nat) (cs':List Value) (y:DataW H×List MemPlace),cs'.length=k→DataW.trod enc P w base spare held n e cs'=some y→(∀m∈y.1.weights P e,m≤reachBytes)→∃c:T,cs'=encT c∧Q c)
 {fuel:Nat} {cs:List Value} {x:DataW H×List MemPlace} (h:DataW.trod enc P w base spare held fuel t cs=some x) (hz:∀m∈x.1.weights P t,m≤reachBytes):
 ∃(v:Value) (l:List T),cs=[v]∧SlR w v l.length (l.flatMap encT)∧∀c∈l,Q c:=by
 rcases open_slice ht h with⟨rfl,-⟩|⟨a,len,cap,m,n,D,Pl,rfl,hb,hl,hm,hmm,rfl,hi⟩
 ·exact⟨_,[],rfl,SlR.nil _,by simp⟩
 ·have hlm:len≤m:=by rw[hmm];split<;>omega
  obtain⟨l,hll,hq,hc⟩:=zgZ henc (Q:=Q) (w:=w) (a:=a) (m:=len) fun i him=>by
   obtain⟨cs',hcs,htr⟩:=hi i (by omega);rw[hk]at hcs;obtain⟨-,hcl,hat⟩:=World.cells?_some hcs
   obtain⟨c,rfl,hqc⟩:=hel n cs' _ hcl htr fun q hq=>hz q (by
    unfold DataW.weights;rw[ht];refine List.mem_cons_of_mem _ (List.mem_append.2 (.inl (zpV (d:=D i) ?_ q hq)));exact List.mem_map.2 ⟨i,List.mem_range.2 him,rfl⟩)
   refine⟨c,hqc,fun j u hj=>?_⟩;have hjk:j<k:=by have:=(List.getElem?_eq_some_iff.1 hj).1;rwa [hcl]at this
   rw[←Go.Deep.add_add,hat j hjk,hj]
  subst hll;refine⟨_,l,rfl,⟨some a,cap,rfl,hl,hm,fun h=>by simp at h,fun hn=>?_⟩,hq⟩;have hpos:0<(l.flatMap encT).length:=by rw[zed henc];exact Nat.mul_pos hk0 (by omega)
  have hsp:a.spot=none:=by
   have h0:=hc 0 _ (List.getElem?_eq_getElem hpos);have:=zm0 h0;simpa[Addr.add] using this
  obtain⟨b,o,sp⟩:=a;simp only at hsp;subst hsp;exact⟨b,o,rfl,fun j u hj=>by have:=hc j u hj;rwa [zaD]at this⟩
theorem fld {t:TypeId} {fs:Array Field} {n:Nat} {cs:List Value} {y:DataW H×List MemPlace} (hu:P.underlying t=some (.struct fs)) (h:DataW.trod enc P w base spare held n t cs=some y) (hz:∀m∈y.1.weights P t,m≤reachBytes)
 (i:Nat) {f:Field} (hi:fs[i]? =some f) {k o:Nat} (hk:P.cellsOf f.type=k) (ho:f.offset=o):∃(n':Nat) (z:DataW H×List MemPlace),DataW.trod enc P w base spare held n' f.type ((cs.drop o).take k)=some z∧∀m∈z.1.weights P f.type,m≤reachBytes:=by
 obtain⟨xs,n',-,rfl,-,hxl,hf⟩:=DataW.trod_struct hu h;have hlt:i<xs.length:=by rw[hxl];exact(Array.getElem?_eq_some_iff.1 hi).1
 have h1:=hf i f hi;rw[hk,ho,List.getElem?_eq_getElem hlt]at h1;refine⟨n',xs[i],h1,fun m hm=>hz m ?_⟩;unfold DataW.weights;rw[hu];refine DataW.weights_mem_each (j:=i) (t:=f.type) (d:=xs[i].1) ?_ ?_ m hm
 ·rw[List.getElem?_map,Array.getElem?_toList,hi];rfl
 ·rw[List.getElem?_map,List.getElem?_eq_getElem hlt];rfl
end
section
variable {H : Type} {enc : TypeId × Value → H} {w : World} {base : Nat} {spare : Nat → Bool} {held : Bool} {n : Nat} {v : Value} {z : DataW H × List MemPlace}
theorem zgD (h:DataW.trod enc Tryz.prog w base spare held n 3 [v]=some z):∃x:Int,v=.int .i64 x:=by
 obtain⟨x,e,-⟩:=DataW.trod_int Tryz.underlying3 h;injection e with e;exact⟨x,e⟩
theorem zgC (h:DataW.trod enc Tryz.prog w base spare held n 4 [v]=some z):∃x:Bool,v=.bool x:=by
 obtain⟨x,e,-⟩:=DataW.trod_bool Tryz.underlying4 h;injection e with e;exact⟨x,e⟩
theorem zgE (h:DataW.trod enc Tryz.prog w base spare held n 9 [v]=some z) (hz:∀m∈z.1.weights Tryz.prog 9,m≤reachBytes):∃x:Bs,v=.string (bsB x)∧x.length≤140737488351232:=by
 obtain⟨x,e,rfl,-⟩:=DataW.trod_string Tryz.underlying9 h;injection e with e;refine⟨x.data.toList,by rw[zbj];exact e,?_⟩;exact hz _ (by unfold DataW.weights;exact List.mem_singleton.2 rfl)
end
theorem four {cs:List Value} (h:cs.length=4):∃a b c d,cs=[a,b,c,d]:=by
 match cs,h with
 | [a,b,c,d],_=>exact⟨a,b,c,d,rfl⟩
theorem ten {cs:List Value} (h:cs.length=10):∃a b c d e f g i j k,cs=[a,b,c,d,e,f,g,i,j,k]:=by
 match cs,h with
 | [a,b,c,d,e,f,g,i,j,k],_=>exact⟨a,b,c,d,e,f,g,i,j,k,rfl⟩
section
variable {H : Type} {enc : TypeId × Value → H} {w : World} {base : Nat} {spare : Nat → Bool} {held : Bool} {fuel : Nat} {cs : List Value} {x : DataW H × List MemPlace}
theorem ziO (h:DataW.trod enc Tryz.prog w base spare held fuel 23 cs=some x) (hz:∀m∈x.1.weights Tryz.prog 23,m≤reachBytes):
 ∃(v:Value) (l:List Dcl),cs=[v]∧SlR w v l.length (dcls l)∧∀r∈l,r.nm.length≤140737488351232∧r.code.length≤140737488351232:=
 ziR (encT:=dclC) (k:=10) (fun _=>rfl) (by decide) (Q:=fun r:Dcl=>r.nm.length≤140737488351232∧r.code.length≤140737488351232) Tryz.underlying23 (by kernel_rfl) (fun n cs' y hl ht hy=>by
  obtain⟨a,b,c,d,e,f,g,i,j,k,rfl⟩:=ten hl;obtain⟨n0,z0,h0,w0⟩:=fld Tryz.underlying50 ht hy 0 rfl (show Tryz.prog.cellsOf 48=7 by kernel_rfl) rfl;obtain⟨m0,y0,k0,s0⟩:=fld Tryz.underlying48 h0 w0 0 rfl (show Tryz.prog.cellsOf 9=1 by kernel_rfl) rfl;obtain⟨m1,y1,k1,-⟩:=fld Tryz.underlying48 h0 w0 1 rfl (show Tryz.prog.cellsOf 3=1 by kernel_rfl) rfl;obtain⟨m2,y2,k2,-⟩:=fld Tryz.underlying48 h0 w0 2 rfl (show Tryz.prog.cellsOf 3=1 by kernel_rfl) rfl;obtain⟨m3,y3,k3,-⟩:=fld Tryz.underlying48 h0 w0 3 rfl (show Tryz.prog.cellsOf 3=1 by kernel_rfl) rfl;obtain⟨m4,y4,k4,-⟩:=fld Tryz.underlying48 h0 w0 4 rfl (show Tryz.prog.cellsOf 4=1 by kernel_rfl) rfl;obtain⟨m5,y5,k5,-⟩:=fld Tryz.underlying48 h0 w0 5 rfl (show Tryz.prog.cellsOf 3=1 by kernel_rfl) rfl;obtain⟨m6,y6,k6,-⟩:=fld Tryz.underlying48 h0 w0 6 rfl (show Tryz.prog.cellsOf 3=1 by kernel_rfl) rfl;obtain⟨n1,z1,h1,w1⟩:=fld Tryz.underlying50 ht hy 1 rfl (show Tryz.prog.cellsOf 9=1 by kernel_rfl) rfl;obtain⟨n2,z2,h2,-⟩:=fld Tryz.underlying50 ht hy 2 rfl (show Tryz.prog.cellsOf 3=1 by kernel_rfl) rfl;obtain⟨n3,z3,h3,-⟩:=fld Tryz.underlying50 ht hy 3 rfl (show Tryz.prog.cellsOf 3=1 by kernel_rfl) rfl;obtain⟨x0,rfl,q0⟩:=zgE k0 s0;obtain⟨x1,rfl⟩:=zgD k1;obtain⟨x2,rfl⟩:=zgD k2;obtain⟨x3,rfl⟩:=zgD k3;obtain⟨x4,rfl⟩:=zgC k4;obtain⟨x5,rfl⟩:=zgD k5;obtain⟨x6,rfl⟩:=zgD k6;obtain⟨x7,rfl,q7⟩:=zgE h1 w1;obtain⟨x8,rfl⟩:=zgD h2;obtain⟨x9,rfl⟩:=zgD h3;exact⟨⟨x0,x1,x2,x3,x4,x5,x6,x7,x8,x9⟩,rfl,q0,q7⟩) h hz
end
end Go.Proofs.YtcdekelomkcahaaGreatDoor
