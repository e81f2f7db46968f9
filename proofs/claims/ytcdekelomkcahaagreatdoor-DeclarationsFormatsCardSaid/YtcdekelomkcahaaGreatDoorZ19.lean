import Derived.Test.YtcdekelomkcahaaGreatDoorZ00
import Derived.ChangeSame
import Derived.Deep.Fields
import Derived.Deep.Slices
import Derived.Lib.Builder
import Derived.Lib.IndexBytes
import Derived.Lib.Join
import Derived.Lib.SmallJoins
import Derived.Lib.SplitLaws
import Derived.SizedLaws
import Derived.Test.YtcdekelomkcahaaGreatDoorZ14
import Derived.Test.YtcdekelomkcahaaGreatDoorZ18
set_option maxRecDepth 100000
set_option maxHeartbeats 16000000
namespace Go.Proofs.YtcdekelomkcahaaGreatDoor
open Go.RowKit
def cmdB (k n:Int) (s id:ByteArray):ByteArray:=bsB (cmdL cv k n s.data.toList id.data.toList)
theorem zbU {k n:Int} {s id:ByteArray} (h:(vt k n&&vv k n s&&zb1 id.data.toList)=false):cmdB k n s id=⟨#[]⟩:=by
 unfold cmdB cmdL;rw[if_neg (by show ¬(vt k n&&vv k n (bsB s.data.toList)&&zb1 id.data.toList)=true;rw[zbj,h];simp)];rfl
theorem zbV {k n:Int} {s id:ByteArray} (h:(vt k n&&vv k n s&&zb1 id.data.toList)=true) (h2:zmG k n=true):cmdB k n s id=bsB (fmtV k s.data.toList)++id:=by
 unfold cmdB cmdL;rw[if_pos (by show(vt k n&&vv k n (bsB s.data.toList)&&zb1 id.data.toList)=true;rw[zbj,h]),if_pos h2];show bsB (fmtV k s.data.toList++id.data.toList)=_;apply ByteArray.ext;simp[bsB]
set_option linter.unusedSimpArgs false
def prbC (p:Pb):List Value:=[.int .i64 p.1,.int .i64 p.2.1,.int .i64 p.2.2.1,.int .i64 p.2.2.2]
def wdC (w:Wd):List Value:=[.string (bsB w.1),.int .i64 w.2.1,.int .i64 w.2.2.1,.int .i64 w.2.2.2]
def prbs (l:List Pb):List Value:=l.flatMap prbC
def wds (l:List Wd):List Value:=l.flatMap wdC
abbrev wdV (w:Wd):Value:=.agg #[.string (bsB w.1),.int .i64 w.2.1,.int .i64 w.2.2.1,.int .i64 w.2.2.2]
theorem zj2 (l m:List Pb):prbs (l++m)=prbs l++prbs m:=by simp[prbs]
theorem zj4 (x:Pb) (l:List Pb):prbs (x::l)=prbC x++prbs l:=rfl
theorem zj5 (l:List Pb) (x:Pb):prbs (l++ [x])=prbs l++prbC x:=by rw[zj2];simp[prbs]
theorem zj3:∀(l:List Pb) (k:Nat) (h:k<l.length),(prbs l)[4*k]? =some (.int .i64 l[k].1)∧(prbs l)[4*k+1]? =some (.int .i64 l[k].2.1)∧(prbs l)[4*k+2]? =some (.int .i64 l[k].2.2.1)∧(prbs l)[4*k+3]? =some (.int .i64 l[k].2.2.2)
 |x::l,0,_=>⟨rfl,rfl,rfl,rfl⟩
 |x::l,k+1,h=>by
  have:=zj3 l k (by simpa using h);rw[zj4,show 4*(k+1)=4*k+1+1+1+1 by omega];simpa[prbC] using this
theorem SlR.prbs {w:World} {a:Option Addr} {cap:Nat} {l:List Pb} (h:SlR w (.slice a l.length cap) l.length (prbs l)) {k:Nat} (hk:k<l.length):
 ∃b o,a=some ⟨b,o,none⟩∧w.cell? ⟨b,o+k*4,none⟩=some (.int .i64 l[k].1)∧w.cell? ⟨b,o+k*4+1,none⟩=some (.int .i64 l[k].2.1)∧w.cell? ⟨b,o+k*4+2,none⟩=some (.int .i64 l[k].2.2.1)∧w.cell? ⟨b,o+k*4+3,none⟩=some (.int .i64 l[k].2.2.2):=by
 obtain⟨b,o,cap',hv,-,-,hcell⟩:=h.at (by omega);injection hv with e1 _ _;obtain⟨h0,h1,h2,h3⟩:=zj3 l k hk;refine⟨b,o,e1,?_,?_,?_,?_⟩
 ·have:=hcell _ _ h0;rwa [Nat.mul_comm 4 k]at this
 ·have:=hcell _ _ h1;rwa [Nat.mul_comm 4 k,←Nat.add_assoc]at this
 ·have:=hcell _ _ h2;rwa [Nat.mul_comm 4 k,←Nat.add_assoc]at this
 ·have:=hcell _ _ h3;rwa [Nat.mul_comm 4 k,←Nat.add_assoc]at this
theorem zpK (l m:List Wd):wds (l++m)=wds l++wds m:=by simp[wds]
theorem zpN (x:Wd) (l:List Wd):wds (x::l)=wdC x++wds l:=rfl
theorem zpQ:∀l:List Wd,(wds l).length=4*l.length
 | []=>rfl
 |x::l=>by rw[zpN,List.length_append,zpQ l];show 4+_=_;rw[List.length_cons];omega
theorem zpS (l:List Wd) (x:Wd):wds (l++ [x])=wds l++wdC x:=by rw[zpK];simp[wds]
theorem zpL:∀(l:List Wd) (k:Nat) (h:k<l.length),(wds l)[4*k]? =some (.string (bsB l[k].1))∧(wds l)[4*k+1]? =some (.int .i64 l[k].2.1)∧(wds l)[4*k+2]? =some (.int .i64 l[k].2.2.1)∧(wds l)[4*k+3]? =some (.int .i64 l[k].2.2.2)
 |x::l,0,_=>⟨rfl,rfl,rfl,rfl⟩
 |x::l,k+1,h=>by
  have:=zpL l k (by simpa using h);rw[zpN,show 4*(k+1)=4*k+1+1+1+1 by omega];simpa[wdC] using this
theorem SlR.wds {w:World} {a:Option Addr} {cap:Nat} {l:List Wd} (h:SlR w (.slice a l.length cap) l.length (wds l)) {k:Nat} (hk:k<l.length):
 ∃b o,a=some ⟨b,o,none⟩∧w.cell? ⟨b,o+k*4,none⟩=some (.string (bsB l[k].1))∧w.cell? ⟨b,o+k*4+1,none⟩=some (.int .i64 l[k].2.1)∧w.cell? ⟨b,o+k*4+2,none⟩=some (.int .i64 l[k].2.2.1)∧w.cell? ⟨b,o+k*4+3,none⟩=some (.int .i64 l[k].2.2.2):=by
 obtain⟨b,o,cap',hv,-,-,hcell⟩:=h.at (by omega);injection hv with e1 _ _;obtain⟨h0,h1,h2,h3⟩:=zpL l k hk;refine⟨b,o,e1,?_,?_,?_,?_⟩
 ·have:=hcell _ _ h0;rwa [Nat.mul_comm 4 k]at this
 ·have:=hcell _ _ h1;rwa [Nat.mul_comm 4 k,←Nat.add_assoc]at this
 ·have:=hcell _ _ h2;rwa [Nat.mul_comm 4 k,←Nat.add_assoc]at this
 ·have:=hcell _ _ h3;rwa [Nat.mul_comm 4 k,←Nat.add_assoc]at this
theorem zjZ:(Tryz.prog.info? 55).map (fun i=>(i.zero,i.size,i.bytes))=some (some (.agg #[.int .i64 0,.int .i64 0,.int .i64 0,.int .i64 0]),4,32):=by kernel_rfl
theorem zpF:(Tryz.prog.info? 58).map (fun i=>(i.zero,i.size,i.bytes))=some (some (.agg #[.string ⟨#[]⟩,.int .i64 0,.int .i64 0,.int .i64 0]),4,40):=by kernel_rfl
structure Dcl where
 nm:Bs
 ty:Int
 sc:Int
 sg:Int
 rg:Bool
 mb:Int
 lb:Int
 code:Bs
 kind:Int
 width:Int
def Dcl.dc (d:Dcl):Dc:=(d.code,d.kind,d.width)
def dclC (d:Dcl):List Value:=[.string (bsB d.nm),.int .i64 d.ty,.int .i64 d.sc,.int .i64 d.sg,.bool d.rg,.int .i64 d.mb,.int .i64 d.lb,.string (bsB d.code),.int .i64 d.kind,.int .i64 d.width]
abbrev dclV (d:Dcl):Value:=.agg #[.string (bsB d.nm),.int .i64 d.ty,.int .i64 d.sc,.int .i64 d.sg,.bool d.rg,.int .i64 d.mb,.int .i64 d.lb,.string (bsB d.code),.int .i64 d.kind,.int .i64 d.width]
abbrev dclZ:Value:=.agg #[.string ⟨#[]⟩,.int .i64 0,.int .i64 0,.int .i64 0,.bool false,.int .i64 0,.int .i64 0,.string ⟨#[]⟩,.int .i64 0,.int .i64 0]
def dcls (l:List Dcl):List Value:=l.flatMap dclC
theorem zcJ (x:Dcl) (l:List Dcl):dcls (x::l)=dclC x++dcls l:=rfl
theorem zcI:∀(l:List Dcl) (k:Nat) (h:k<l.length) (j:Nat),j<10→(dcls l)[10*k+j]? =(dclC l[k])[j]?
 |x::l,0,_,j,hj=>by
  rw[zcJ,List.getElem?_append_left (by simp[dclC];omega)];simp
 |x::l,k+1,h,j,hj=>by
  have:=zcI l k (by simpa using h) j hj;rw[zcJ,List.getElem?_append_right (by simp[dclC];omega)];rw[show 10*(k+1)+j-(dclC x).length=10*k+j by simp[dclC];omega];simpa using this
theorem SlR.dcls {w:World} {a:Option Addr} {cap:Nat} {l:List Dcl} (h:SlR w (.slice a l.length cap) l.length (dcls l)) {k:Nat} (hk:k<l.length):
 ∃b o,a=some ⟨b,o,none⟩∧∀(j:Nat) (u:Value),(dclC l[k])[j]? =some u→w.cell? ⟨b,o+k*10+j,none⟩=some u:=by
 obtain⟨b,o,cap',hv,-,-,hcell⟩:=h.at (by omega);injection hv with e1 _ _;refine⟨b,o,e1,fun j u hj=>?_⟩;have hj10:j<10:=by have:=(List.getElem?_eq_some_iff.1 hj).1;simpa[dclC] using this
 have:=hcell _ _ ((zcI l k hk j hj10).trans hj);rwa [Nat.mul_comm 10 k,←Nat.add_assoc]at this
theorem zjo {w:World} {B e size n:Nat} {g c:Nat} {xs:List Value} (h:w.ownsRow B e size (.slice (some ⟨g,0,none⟩) n c) n xs):zaq w g xs:=by
 rcases h.2 with⟨h0,-⟩|⟨g',cap',cur,h0,hbase,hb,hn,hm,hsz,htk⟩
 ·cases h0
 injection h0 with e1 _ e3;injection e1 with e1;injection e1 with e1 _ _;subst e1 e3;intro j u hj
 have hj':cur.toList[j]? =some u:=by
  rw[←htk,List.getElem?_take]at hj;split at hj
  ·exact hj
  ·cases hj
 rw[Array.getElem?_toList]at hj';exact⟨by simp[World.cell?,hb,hj'],by simp[World.frozen?,hb]⟩
theorem zjl {w:World} {B B' e e' size size' n n':Nat} {v v':Value} {xs xs':List Value} (h:w.ownsRow B e size v n xs) (h':w.ownsRow B' e' size' v' n' xs') (hne:e≠e'):v.ownBlock=none∨v.ownBlock≠v'.ownBlock:=by
 rcases h.2 with⟨rfl,_⟩|⟨g,cap,cur,rfl,_,hgg,_⟩
 ·exact .inl rfl
 ·rcases h'.2 with⟨rfl,_⟩|⟨g',cap',cur',rfl,_,hgg',_⟩
  ·exact .inr (by simp[Value.ownBlock])
  ·refine .inr fun he=>?_;simp only[Value.ownBlock,Option.some.injEq]at he;subst he;rw[hgg]at hgg';simp only[Option.some.injEq,Obj.cells.injEq]at hgg';exact hne hgg'.2.1
theorem zjr {w:World} {B e size n g c:Nat} {xs:List Value} (h:w.ownsRow B e size (.slice (some ⟨g,0,none⟩) n c) n xs) (j:Nat) (u:Value):
 (w.setCell ⟨g,j,none⟩ u).ownsRow B e size (.slice (some ⟨g,0,none⟩) n c) n (xs.set j u):=(h.stored j u).1
theorem zjs {w:World} {B B' e e' size size' n n' g c:Nat} {v:Value} {xs xs':List Value} (h:w.ownsRow B e size v n xs) (h':w.ownsRow B' e' size' (.slice (some ⟨g,0,none⟩) n' c) n' xs') (hne:e≠e') (j:Nat) (u:Value):
 (w.setCell ⟨g,j,none⟩ u).ownsRow B e size v n xs:=ownsRow_setCell_other h (by
   rcases zjl h h' hne with h1|h1
   ·rw[h1];intro h;cases h
   ·exact h1) u
theorem zaq.setFar {w:World} {b b':Nat} {xs:List Value} (h:zaq w b xs) (hb:b'≠b) (o:Nat) (u:Value):zaq (w.setCell ⟨b',o,none⟩ u) b xs:=by
 intro j v hj;have:=h j v hj;refine⟨?_,by rw[World.frozen?_setCell];exact this.2⟩;rw[World.cell?_setCell_other (h:=by intro e;apply hb;injection e with e1 _ _)];exact this.1
theorem zaq.same {W V:World} {b:Nat} {xs:List Value} (h:zaq W b xs) (hb:V.heap[b]? =W.heap[b]?):zaq V b xs:=fun j v hj=>by
 have:=h j v hj;refine⟨?_,?_⟩
 ·rw[←this.1];simp[World.cell?,hb]
 ·rw[←this.2];simp[World.frozen?,hb]
structure PC where
 wk:World
 w0:World
 B:Nat
 mb:Nat
 kb:Nat
 n:Nat
 m:Nat
 F:BsM→Option Value
 G:BsM→Option Value
 wa:Option Addr
 wn:Nat
 wc:Nat
theorem zjb {W W':World} {B e size n:Nat} {v:Value} {xs:List Value} (h:W.ownsRow B e size v n xs) (hb:RowKit.Below W.heap.size W W'):W'.ownsRow B e size v n xs:=
 h.kept (row:=none) ⟨hb.os,hb.tape,hb.output,hb.size,fun i hi _=>hb.block i hi⟩ (by cases v.ownBlock<;>simp)
def PC.from (c:PC) (V:World):PC:={c with wk:=V}
open Go.Joins Go.ChangeShapes Go.WideShapes Go.RowKit Go.Deep
theorem zm0 {w:World} {a:Addr} {v:Value} (h:w.cell? a=some v):a.spot=none:=by
 unfold World.cell? at h;split at h
 ·split at h
  ·cases h
  ·rename_i h1;simpa using h1
 ·cases h
theorem zpV {H:Type} {P:Program} {e:TypeId}:∀{l:List (DataW H)} {d:DataW H},d∈l→∀n∈d.weights P e,n∈DataW.weightsAll P e l
 |x::r,d,h,n,hn=>by
  unfold DataW.weightsAll;rcases List.mem_cons.1 h with rfl|h
  ·exact List.mem_append.2 (.inl hn)
  ·exact List.mem_append.2 (.inr (zpV h n hn))
theorem zed {T:Type} {enc:T→List Value} {k:Nat} (henc:∀x,(enc x).length=k):∀l:List T,(l.flatMap enc).length=k*l.length
 | []=>rfl
 |x::l=>by rw[List.flatMap_cons,List.length_append,henc,zed henc l,List.length_cons,Nat.mul_add];omega
theorem zgZ {T:Type} {enc:T→List Value} {k:Nat} (henc:∀x,(enc x).length=k) {Q:T→Prop} {w:World} {a:Addr}:∀{m:Nat},(∀i,i<m→∃c:T,Q c∧∀(j:Nat) (u:Value),(enc c)[j]? =some u→w.cell? (a.add (i*k+j))=some u)→
 ∃l:List T,l.length=m∧(∀c∈l,Q c)∧∀(j:Nat) (u:Value),(l.flatMap enc)[j]? =some u→w.cell? (a.add j)=some u
 |0,_=>⟨[],rfl,by simp,fun j u h=>by simp at h⟩
 |m+1,h=>by
  obtain⟨l,hl,hq,hc⟩:=zgZ henc (m:=m) fun i hi=>h i (by omega);obtain⟨c,h0,h1⟩:=h m (by omega);have hf:=zed henc l;refine⟨l++ [c],by simp[hl],fun x hx=>?_,fun j u hj=>?_⟩
  ·rcases List.mem_append.1 hx with hx|hx
   ·exact hq x hx
   ·rw[List.mem_singleton]at hx;subst hx;exact h0
  ·rw[List.flatMap_append]at hj;by_cases hlt:j<(l.flatMap enc).length
   ·rw[List.getElem?_append_left hlt]at hj;exact hc j u hj
   ·rw[List.getElem?_append_right (by omega)]at hj;have:=h1 (j-(l.flatMap enc).length) u (by simpa using hj);rwa [show m*k+(j-(l.flatMap enc).length)=j by rw[hf,hl,Nat.mul_comm m k];rw[hf,hl]at hlt;omega]at this
section
variable {H : Type} {enc : TypeId × Value → H} {P : Program} {w : World} {base : Nat} {spare : Nat → Bool} {held : Bool}
theorem ziR {T:Type} {encT:T→List Value} {k:Nat} (henc:∀x,(encT x).length=k) (hk0:0<k) {Q:T→Prop} {t e:TypeId} (ht:P.underlying t=some (.slice e)) (hk:P.cellsOf e=k)
 (hel:∀(n:Nat) (cs':List Value) (y:DataW H×List MemPlace),cs'.length=k→DataW.trod enc P w base spare held n e cs'=some y→(∀m∈y.1.weights P e,m≤reachBytes)→∃c:T,cs'=encT c∧Q c)
 {fuel:Nat} {cs:List Value} {x:DataW H×List MemPlace} (h:DataW.trod enc P w base spare held fuel t cs=some x) (hz:∀m∈x.1.weights P t,m≤reachBytes):
 ∃(v:Value) (l:List T),cs=[v]∧SlR w v l.length (l.flatMap encT)∧∀c∈l,Q c:=by
 rcases open_slice ht h with⟨rfl,-⟩|⟨a,len,cap,m,n,D,Pl,rfl,hb,hl,hm,hmm,rfl,hi⟩
 ·exact⟨_,[],rfl,SlR.nil _,by simp⟩
 ·have hlm:len≤m:=by rw[hmm];split<;>omega
  obtain⟨l,hll,hq,hc⟩:=zgZ henc (Q:=Q) (w:=w) (a:=a) (m:=len) fun i him=>by
   obtain⟨cs',hcs,htr⟩:=hi i (by omega);rw[hk]at hcs;obtain⟨-,hcl,hat⟩:=World.cells?_some hcs
   obtain⟨c,rfl,hqc⟩:=hel n cs' _ hcl htr fun q hq=>hz q (by
    unfold DataW.weights;rw[ht];refine List.mem_cons_of_mem _ (List.mem_append.2 (.inl (zpV (d:=D i) ?_ q hq)));exact List.mem_map.2 ⟨i,List.mem_range.2 him,rfl⟩)
   refine⟨c,hqc,fun j u hj=>?_⟩;have hjk:j<k:=by have:=(List.getElem?_eq_some_iff.1 hj).1;rwa [hcl]at this
   rw[←Go.Deep.add_add,hat j hjk,hj]
  subst hll;refine⟨_,l,rfl,⟨some a,cap,rfl,hl,hm,fun h=>by simp at h,fun hn=>?_⟩,hq⟩;have hpos:0<(l.flatMap encT).length:=by rw[zed henc];exact Nat.mul_pos hk0 (by omega)
  have hsp:a.spot=none:=by
   have h0:=hc 0 _ (List.getElem?_eq_getElem hpos);have:=zm0 h0;simpa[Addr.add] using this
  obtain⟨b,o,sp⟩:=a;simp only at hsp;subst hsp;exact⟨b,o,rfl,fun j u hj=>by have:=hc j u hj;rwa [zaD]at this⟩
theorem fld {t:TypeId} {fs:Array Field} {n:Nat} {cs:List Value} {y:DataW H×List MemPlace} (hu:P.underlying t=some (.struct fs)) (h:DataW.trod enc P w base spare held n t cs=some y) (hz:∀m∈y.1.weights P t,m≤reachBytes)
 (i:Nat) {f:Field} (hi:fs[i]? =some f) {k o:Nat} (hk:P.cellsOf f.type=k) (ho:f.offset=o):∃(n':Nat) (z:DataW H×List MemPlace),DataW.trod enc P w base spare held n' f.type ((cs.drop o).take k)=some z∧∀m∈z.1.weights P f.type,m≤reachBytes:=by
 obtain⟨xs,n',-,rfl,-,hxl,hf⟩:=DataW.trod_struct hu h;have hlt:i<xs.length:=by rw[hxl];exact(Array.getElem?_eq_some_iff.1 hi).1
 have h1:=hf i f hi;rw[hk,ho,List.getElem?_eq_getElem hlt]at h1;refine⟨n',xs[i],h1,fun m hm=>hz m ?_⟩;unfold DataW.weights;rw[hu];refine DataW.weights_mem_each (j:=i) (t:=f.type) (d:=xs[i].1) ?_ ?_ m hm
 ·rw[List.getElem?_map,Array.getElem?_toList,hi];rfl
 ·rw[List.getElem?_map,List.getElem?_eq_getElem hlt];rfl
end
section
variable {H : Type} {enc : TypeId × Value → H} {w : World} {base : Nat} {spare : Nat → Bool} {held : Bool} {n : Nat} {v : Value} {z : DataW H × List MemPlace}
theorem zgD (h:DataW.trod enc Tryz.prog w base spare held n 3 [v]=some z):∃x:Int,v=.int .i64 x:=by
 obtain⟨x,e,-⟩:=DataW.trod_int Tryz.underlying3 h;injection e with e;exact⟨x,e⟩
theorem zgC (h:DataW.trod enc Tryz.prog w base spare held n 4 [v]=some z):∃x:Bool,v=.bool x:=by
 obtain⟨x,e,-⟩:=DataW.trod_bool Tryz.underlying4 h;injection e with e;exact⟨x,e⟩
theorem zgE (h:DataW.trod enc Tryz.prog w base spare held n 9 [v]=some z) (hz:∀m∈z.1.weights Tryz.prog 9,m≤reachBytes):∃x:Bs,v=.string (bsB x)∧x.length≤140737488351232:=by
 obtain⟨x,e,rfl,-⟩:=DataW.trod_string Tryz.underlying9 h;injection e with e;refine⟨x.data.toList,by rw[zbj];exact e,?_⟩;exact hz _ (by unfold DataW.weights;exact List.mem_singleton.2 rfl)
end
theorem ten {cs:List Value} (h:cs.length=10):∃a b c d e f g i j k,cs=[a,b,c,d,e,f,g,i,j,k]:=by
 match cs,h with
 | [a,b,c,d,e,f,g,i,j,k],_=>exact⟨a,b,c,d,e,f,g,i,j,k,rfl⟩
section
variable {H : Type} {enc : TypeId × Value → H} {w : World} {base : Nat} {spare : Nat → Bool} {held : Bool} {fuel : Nat} {cs : List Value} {x : DataW H × List MemPlace}
theorem ziO (h:DataW.trod enc Tryz.prog w base spare held fuel 23 cs=some x) (hz:∀m∈x.1.weights Tryz.prog 23,m≤reachBytes):
 ∃(v:Value) (l:List Dcl),cs=[v]∧SlR w v l.length (dcls l)∧∀r∈l,r.nm.length≤140737488351232∧r.code.length≤140737488351232:=
 ziR (encT:=dclC) (k:=10) (fun _=>rfl) (by decide) (Q:=fun r:Dcl=>r.nm.length≤140737488351232∧r.code.length≤140737488351232) Tryz.underlying23 (by kernel_rfl) (fun n cs' y hl ht hy=>by
  obtain⟨a,b,c,d,e,f,g,i,j,k,rfl⟩:=ten hl;obtain⟨n0,z0,h0,w0⟩:=fld Tryz.underlying50 ht hy 0 rfl (show Tryz.prog.cellsOf 48=7 by kernel_rfl) rfl;obtain⟨m0,y0,k0,s0⟩:=fld Tryz.underlying48 h0 w0 0 rfl (show Tryz.prog.cellsOf 9=1 by kernel_rfl) rfl;obtain⟨m1,y1,k1,-⟩:=fld Tryz.underlying48 h0 w0 1 rfl (show Tryz.prog.cellsOf 3=1 by kernel_rfl) rfl;obtain⟨m2,y2,k2,-⟩:=fld Tryz.underlying48 h0 w0 2 rfl (show Tryz.prog.cellsOf 3=1 by kernel_rfl) rfl;obtain⟨m3,y3,k3,-⟩:=fld Tryz.underlying48 h0 w0 3 rfl (show Tryz.prog.cellsOf 3=1 by kernel_rfl) rfl;obtain⟨m4,y4,k4,-⟩:=fld Tryz.underlying48 h0 w0 4 rfl (show Tryz.prog.cellsOf 4=1 by kernel_rfl) rfl;obtain⟨m5,y5,k5,-⟩:=fld Tryz.underlying48 h0 w0 5 rfl (show Tryz.prog.cellsOf 3=1 by kernel_rfl) rfl;obtain⟨m6,y6,k6,-⟩:=fld Tryz.underlying48 h0 w0 6 rfl (show Tryz.prog.cellsOf 3=1 by kernel_rfl) rfl;obtain⟨n1,z1,h1,w1⟩:=fld Tryz.underlying50 ht hy 1 rfl (show Tryz.prog.cellsOf 9=1 by kernel_rfl) rfl;obtain⟨n2,z2,h2,-⟩:=fld Tryz.underlying50 ht hy 2 rfl (show Tryz.prog.cellsOf 3=1 by kernel_rfl) rfl;obtain⟨n3,z3,h3,-⟩:=fld Tryz.underlying50 ht hy 3 rfl (show Tryz.prog.cellsOf 3=1 by kernel_rfl) rfl;obtain⟨x0,rfl,q0⟩:=zgE k0 s0;obtain⟨x1,rfl⟩:=zgD k1;obtain⟨x2,rfl⟩:=zgD k2;obtain⟨x3,rfl⟩:=zgD k3;obtain⟨x4,rfl⟩:=zgC k4;obtain⟨x5,rfl⟩:=zgD k5;obtain⟨x6,rfl⟩:=zgD k6;obtain⟨x7,rfl,q7⟩:=zgE h1 w1;obtain⟨x8,rfl⟩:=zgD h2;obtain⟨x9,rfl⟩:=zgD h3;exact⟨⟨x0,x1,x2,x3,x4,x5,x6,x7,x8,x9⟩,rfl,q0,q7⟩) h hz
end
def zgo (t:Int):Int:=if t=3∨t=4 then 1 else if t=6 then 2 else if t=0 then 3 else 0
def spl:Bs→Bs→List Bs
 | [],cur=> [cur]
 |c::t,cur=>if c=32 then cur::spl t []else spl t (cur++ [c])
def zpZ (w:Bs):Bool:=!decide (w=[])&&!decide (w.head? =some 36)&&w.all prn
def zp2 (s:Bs):Bool:=decide (s=[])||((spl s []).all zpZ&&decide (s.length≤200))
def varW:List Bs:=[[101,118,101,110,116],[105,110,116,101,103,101,114],[112,97,114,97,109,101,116,101,114],[114,101,97,108],[114,101,97,108,116,105,109,101],[114,101,103],[115,116,114,105,110,103],[115,117,112,112,108,121,48],[115,117,112,112,108,121,49],[116,105,109,101],[116,114,105],[116,114,105,97,110,100],[116,114,105,111,114],[116,114,105,114,101,103],[116,114,105,48],[116,114,105,49],[119,97,110,100],[119,105,114,101],[119,111,114]]
def zl4:List Bs:=[[109,111,100,117,108,101],[116,97,115,107],[102,117,110,99,116,105,111,110],[98,101,103,105,110],[102,111,114,107]]
def zlw:Bs:=[36,100,97,116,101]
def zlF:Bs:=[36,118,101,114,115,105,111,110]
def zlv:Bs:=[36,99,111,109,109,101,110,116]
def zlD:Bs:=[36,116,105,109,101,115,99,97,108,101]
def zlC:Bs:=[36,115,99,111,112,101]
def zlE:Bs:=[36,117,112,115,99,111,112,101]
def sVar:Bs:=[36,118,97,114]
def zlB:Bs:=[36,101,110,100,100,101,102,105,110,105,116,105,111,110,115]
def zlV:List Bs:=[[49,32,102,115],[49,48,32,102,115],[49,48,48,32,102,115],[49,32,112,115],[49,48,32,112,115],[49,48,48,32,112,115],[49,32,110,115],[49,48,32,110,115],[49,48,48,32,110,115],[49,32,117,115],[49,48,32,117,115],[49,48,48,32,117,115],[49,32,109,115],[49,48,32,109,115],[49,48,48,32,109,115],[49,32,115],[49,48,32,115],[49,48,48,32,115]]
def zn4 (l:List Bs) (w:Bs):Int×Bool:=if w∈l then((l.idxOf w:Int),true)else(0,false)
def zhx (l:List Bs) (t:Int):Bs:=if t<0 then []else l.getD t.toNat []
def zgc:List Bs→Bs
 | []=> []
 | [w]=>w
 |w::l=>w++32::zgc l
def zgg (l:List Bs):Bs×Int:=if l.all zpZ=false then([],3)else if 200<(zgc l).length then([],9)else(zgc l,0)
def zlU (n:Int):Bs:=if n< -15∨2<n then []else zlV.getD (n+15).toNat []
def znH (s:Bs):Bs:=s.filter fun c=>decide (c≠32)
def zlR (x:Bs):Int×Int:=match zlV.findIdx? fun s=>decide (x=s)||decide (x=znH s)with
 |some i=>((i:Int)-15,0)
 |none=>(0,3)
def zmK (s:Bs):Option Int:=if s=[]∨9<s.length∨s.all isD=false∨s.head? =some 48 then none else some (decN s:Int)
def numT (x:Bs):(Int×Bool)×Bs:=
 let neg:=decide (x.head? =some 45)
 let y:=if neg=true then x.drop 1 else x
 let d:=y.takeWhile isD
 if d.length<1∨9<d.length∨(d.head? =some 48∧(1<d.length∨neg=true))then((0,false),y.drop d.length)
 else((if neg=true then-(decN d:Int)else(decN d:Int),true),y.drop d.length)
def zkK (o mk lk:Bool) (m l:Int) (r:Bs):Int×Int×Int:=
 if o=false∨mk=false∨lk=false∨r≠ [93]then(0,0,3)else if zba m=false∨zba l=false then(0,0,2)else(m,l,0)
def zkN (x:Bs):Int×Int×Int:=
 let o:=decide (x.head? =some 91)
 let a:=numT (if o=true then x.drop 1 else x)
 if a.2.head? =some 58 then
  let c:=numT (a.2.drop 1)
  zkK o a.1.2 c.1.2 a.1.1 c.1.1 c.2
 else zkK o a.1.2 true a.1.1 a.1.1 a.2
def refS (ws:List Bs):Option (Bs×Option Bs):=match ws with
 | [w]=>if 91∈w∧w.head? ≠some 92 then some (w.takeWhile fun c=>decide (c≠91),some (w.dropWhile fun c=>decide (c≠91)))else some (w,none)
 | [w,r]=>some (w,some r)
 |_=>none
def refF (ws:List Bs):Bs×Bool×Int×Int×Int:=match refS ws with
 |none=>([],false,0,0,3)
 |some (n,none)=>if zhz n=true then(n,false,0,0,0)else([],false,0,0,4)
 |some (n,some r)=>if zhz n=false then([],false,0,0,4)else if(zkN r).2.2≠0 then([],false,0,0,(zkN r).2.2)else(n,true,(zkN r).1,(zkN r).2.1,0)
structure DS where
 sc:Int
 scd:Bool
 dt:Bs
 dtd:Bool
 vn:Bs
 vnd:Bool
 cm:Bs
 cmd:Bool
 S:List Sc
 D:List Dcl
 now:Int
 skip:Int
 wrong:List Pb
 ended:Bool
def ds0:DS:=⟨-9,false,[],false,[],false,[],false,[],[],-1,0,[],false⟩
def DS.prob (s:DS) (e:Int) (w:Wd):DS:={s with wrong:=s.wrong++ [(e,w.2.1,w.2.2.1,w.2.2.2)]}
def wd0:Wd:=([],0,0,0)
def cAt (c:List Wd) (i:Nat):Wd:=c.getD i wd0
def txt (c:List Wd):List Bs:=c.map (·.1)
def zdb (S:List Sc) (i:Int):Nat:=(upL S (S.length+1) i).length
def zd6 (S:List Sc) (p:Int) (n:Bs):Option Nat:=S.findIdx? fun x=>decide (x.2.2=p)&&decide (x.1=n)
def ziH (s:DS) (w:Wd) (c:List Wd):Option (Int×Wd):=
 if c.length≠2 then some (3,w)
 else if(zn4 zl4 (cAt c 0).1).2=false then some (7,cAt c 0)
 else if zhz (cAt c 1).1=false then some (4,cAt c 1)
 else match zd6 s.S s.now (cAt c 1).1 with
  |some k=>if s.S.getD k ([],0,0)≠((cAt c 1).1,(zn4 zl4 (cAt c 0).1).1,s.now)then some (5,cAt c 1)else none
  |none=>if 32≤s.S.length∨8≤zdb s.S s.now then some (9,w)else none
def ziM (s:DS) (c:List Wd):DS:=match zd6 s.S s.now (cAt c 1).1 with
 |some k=>{s with now:=k}
 |none=>{s with S:=s.S++ [((cAt c 1).1,(zn4 zl4 (cAt c 0).1).1,s.now)],now:=s.S.length}
def zl1 (s:DS) (w:Wd) (c:List Wd):DS:=
 if 0<s.skip then{s with skip:=s.skip+1}
 else match ziH s w c with
  |some e=>{s.prob e.1 e.2 with skip:=1}
  |none=>ziM s c
def upP (s:DS) (w:Wd) (c:List Wd):DS:=
 if 0<s.skip then{s with skip:=s.skip-1}
 else if s.now<0 then s.prob 10 w
 else
  let t:={s with now:=parS s.S s.now.toNat}
  if 0<c.length then t.prob 3 w else t
def zb5:List Dcl→List Bs→Nat
 | [],seen=>seen.length
 |x::l,seen=>zb5 l (if x.code∈seen then seen else seen++ [x.code])
def knD (D:List Dcl) (c:Bs):Option Dcl:=D.find? fun x=>decide (x.code=c)
def dupV (x y:Dcl):Bool:=decide (y.nm=x.nm)&&decide (y.sc=x.sc)&&decide (y.sg=x.sg)&&decide (y.rg=x.rg)&&decide (y.mb=x.mb)&&decide (y.lb=x.lb)
def dclF (s:DS) (c:List Wd):Dcl:=
 let t:=(zn4 varW (cAt c 0).1).1
 let r:=refF ((txt c).drop 3)
 ⟨r.1,t,s.now,0,r.2.1,r.2.2.1,r.2.2.2.1,(cAt c 2).1,zgo t,if zgo t=0 then(zmK (cAt c 1).1).getD 0 else 0⟩
def zc7 (s:DS) (w:Wd) (c:List Wd):Option (Int×Wd):=
 if c.length<4∨5<c.length then some (3,w)
 else if(zn4 varW (cAt c 0).1).2=false then some (7,cAt c 0)
 else match zmK (cAt c 1).1 with
  |none=>some (3,cAt c 1)
  |some n=>
   let x:=dclF s c
   let r:=refF ((txt c).drop 3)
   if x.kind=0∧128<n then some (8,cAt c 1)
   else if zb1 x.code=false then some (3,cAt c 2)
   else if r.2.2.2.2≠0 then some (r.2.2.2.2,cAt c 3)
   else if x.rg=true∧x.kind≠0 then some (7,cAt c (c.length-1))
   else if x.rg=true∧zpX x.mb x.lb≠n then some (8,cAt c (c.length-1))
   else match knD s.D x.code with
    |some o=>if o.kind≠x.kind then some (7,cAt c 2)else if o.width≠x.width then some (8,cAt c 2)
     else if s.D.any (dupV x)=true then some (5,cAt c 3)else if 128≤s.D.length then some (9,w)else none
    |none=>if s.D.any (dupV x)=true then some (5,cAt c 3)else if 128≤s.D.length∨64≤zb5 s.D []then some (9,w)else none
def varP (s:DS) (w:Wd) (c:List Wd):DS:=
 if 0<s.skip then s else match zc7 s w c with
  |some e=>s.prob e.1 e.2
  |none=>{s with D:=s.D++ [dclF s c]}
def endD (s:DS) (w:Wd) (c:List Wd):DS:=
 let t:={s with ended:=true}
 if 0<c.length then t.prob 3 w else t
def zlQ (s:DS) (w:Wd) (c:List Wd):DS:=
 if(zlR (zgc (txt c))).2≠0 then s.prob 3 w else if s.scd=true then s else{s with sc:=(zlR (zgc (txt c))).1,scd:=true}
def zcG (s:DS) (w:Wd) (c:List Wd):DS:=if(zgg (txt c)).2≠0 then s.prob (zgg (txt c)).2 w else if s.dtd=true then s else{s with dt:=(zgg (txt c)).1,dtd:=true}
def zpc (s:DS) (w:Wd) (c:List Wd):DS:=if(zgg (txt c)).2≠0 then s.prob (zgg (txt c)).2 w else if s.vnd=true then s else{s with vn:=(zgg (txt c)).1,vnd:=true}
def zb9 (s:DS) (w:Wd) (c:List Wd):DS:=if(zgg (txt c)).2≠0 then s.prob (zgg (txt c)).2 w else if s.cmd=true then s else{s with cm:=(zgg (txt c)).1,cmd:=true}
def secP (s:DS) (w:Wd) (c:List Wd):DS:=
 if w.1=zlw then zcG s w c
 else if w.1=zlF then zpc s w c
 else if w.1=zlv then zb9 s w c
 else if w.1=zlD then zlQ s w c
 else if w.1=zlC then zl1 s w c
 else if w.1=zlE then upP s w c
 else if w.1=sVar then varP s w c
 else if w.1=zlB then endD s w c
 else s.prob 3 w
def zck (t:List Wd):List Wd:=t.takeWhile fun w=>decide (w.1≠sEnd)
def zeE (t:List Wd):Bool:=t.any fun w=>decide (w.1=sEnd)
def znk (w:Wd):Bool:=decide (w.1.head? =some 35)||decide (w.1=zlA)||decide (w.1=zlx)||decide (w.1=zlz)||decide (w.1=zly)
def zg4 (w:Wd):Bool:=decide (w.1.head? ≠some 36)||decide (w.1=sEnd)
def zcF (s:DS) (w:Wd) (t:List Wd):DS×Option Nat:=
 if znk w=true then(s.prob 3 w,none)
 else if zg4 w=true then(s.prob 3 w,some 0)
 else if zeE t=true then(secP s w (zck t),some ((zck t).length+1))
 else(s.prob 3 w,some t.length)
def dRun (s:DS):List Wd→DS×Nat
 | []=>(s,0)
 |w::t=>
  if s.ended=true then(s,0)
  else match (zcF s w t).2 with
   |none=>((zcF s w t).1,0)
   |some k=>((dRun (zcF s w t).1 (t.drop k)).1,(dRun (zcF s w t).1 (t.drop k)).2+(k+1))
termination_by l=>l.length
decreasing_by all_goals (rw[List.length_drop,List.length_cons];omega)
theorem zcD (s:DS):dRun s []=(s,0):=by rw[dRun]
theorem zcB {s:DS} (h:s.ended=true):∀l,dRun s l=(s,0)
 | []=>zcD s
 |w::t=>by rw[dRun,if_pos h]
theorem zcE {s s2:DS} {w:Wd} {t:List Wd} (h:s.ended=false) (hs:zcF s w t=(s2,none)):dRun s (w::t)=(s2,0):=by
 rw[dRun,if_neg (by rw[h];simp),hs]
theorem zcC {s s2:DS} {w:Wd} {t:List Wd} {k:Nat} (h:s.ended=false) (hs:zcF s w t=(s2,some k)):dRun s (w::t)=((dRun s2 (t.drop k)).1,(dRun s2 (t.drop k)).2+(k+1)):=by
 rw[dRun,if_neg (by rw[h];simp),hs]
def zjK (ws:List Wd):DS×Nat:=dRun ds0 ws
theorem zmQ:∀(s:Bs),∃a r,spl s []=a::r∧(∀cur,spl s cur=(cur++a)::r)∧a++Lib.joinTail [32] r=s
 | []=>⟨[],[],rfl,fun cur=>by simp[spl],rfl⟩
 |c::t=>by
  obtain⟨a,r,h1,h2,h3⟩:=zmQ t;by_cases hc:c=32
  ·subst hc;refine⟨[],a::r,by rw[spl,if_pos rfl,h1],fun cur=>by rw[spl,if_pos rfl,h1,List.append_nil],?_⟩;show []++(32::a++Lib.joinTail [32] r)=_;simp[h3]
  ·refine⟨c::a,r,by rw[spl,if_neg hc,h2];rfl,fun cur=>by rw[spl,if_neg hc,h2,List.append_assoc];rfl,?_⟩;rw[List.cons_append,h3]
theorem zmR (s:Bs):Lib.join (spl s []) [32]=s:=by
 obtain⟨a,r,h1,-,h3⟩:=zmQ s;rw[h1,Lib.join_cons,h3]
theorem zfZ (t:Bs):Lib.index (32::t) [32]=0:=by rw[Lib.index_one];rfl
theorem zf0 {c:UInt8} (hc:c≠32) (t:Bs):Lib.index (c::t) [32]=if Lib.index t [32]= -1 then-1 else Lib.index t [32]+1:=by
 rw[Lib.index_one,Lib.index_one,Lib.indexByte,if_neg (by simpa using hc)];simp
theorem zf5 {t:Bs} (h:t.count 32≠0):0≤Lib.index t [32]:=by
 induction t with
 |nil=>simp at h
 |cons c t ih=>
  by_cases hc:c=32
  ·subst hc;rw[zfZ];omega
  ·rw[List.count_cons_of_ne (by simpa using hc)]at h;have:=ih h;rw[zf0 hc,if_neg (by omega)];omega
theorem zmZ:∀(s:Bs),Lib.splitK [32] 0 (s.count 32) s=spl s []
 | []=>rfl
 |c::t=>by
  have ih:=zmZ t;obtain⟨a,r,h1,h2,-⟩:=zmQ t;by_cases hc:c=32
  ·subst hc;rw[List.count_cons_self,Lib.splitK,if_neg (by rw[zfZ];decide),zfZ,spl,if_pos rfl,←ih];rfl
  ·rw[List.count_cons_of_ne (by simpa using hc),spl,if_neg hc,h2];rw[h1]at ih;cases hk:t.count 32 with
   |zero=>
    rw[hk,Lib.splitK]at ih;injection ih with e1 e2;subst e1 e2;rfl
   |succ k=>
    have hi:=zf5 (t:=t) (by omega);rw[hk,Lib.splitK,if_neg (by rw[beq_iff_eq];omega)]at ih;injection ih with e1 e2;have hx:Lib.index (c::t) [32]=Lib.index t [32]+1:=by rw[zf0 hc,if_neg (by omega)]
    rw[Lib.splitK,hx,if_neg (by rw[beq_iff_eq];omega)];obtain⟨i,hi2⟩:=Int.eq_ofNat_of_zero_le hi;rw[hi2]at e1 e2⊢;subst e1 e2;rw[show((i:Int)+1).toNat=i+1 by omega,Int.toNat_natCast];show(c::t).take (i+1)::Lib.splitK [32] 0 k ((c::t).drop (i+1+1))=_;rw[List.take_succ_cons,List.drop_succ_cons];rfl
theorem zmY (s:Bs):(Lib.splitB ⟨#[32]⟩ 0 (Lib.countB (bsB s) ⟨#[32]⟩) (bsB s)).map (fun x=>x.data.toList)=spl s []:=by
 rw[Lib.splitB_data]
 have e1:Lib.countB (bsB s) ⟨#[32]⟩=s.count 32:=by
  show Lib.count (bsB s).data.toList [32]=_;rw[Lib.count_one];simp[bsB]
 rw[e1];show Lib.splitK [32] 0 (s.count 32) (bsB s).data.toList=_;rw[show(bsB s).data.toList=s by simp[bsB],zmZ]
theorem zmX (s:Bs):(Lib.splitB ⟨#[32]⟩ 0 (Lib.countB (bsB s) ⟨#[32]⟩) (bsB s))=(spl s []).map bsB:=by
 rw[←zmY,List.map_map];conv=>lhs;rw[←List.map_id (Lib.splitB ⟨#[32]⟩ 0 (Lib.countB (bsB s) ⟨#[32]⟩) (bsB s))]
 exact List.map_congr_left fun x _=>by
  obtain⟨⟨l⟩⟩:=x;rfl
theorem zmU (s:Bs):(spl s []).length=s.count 32+1:=by
 have:=Lib.splitB_all ⟨#[32]⟩ (by decide) 0 _ (bsB s) rfl;rw[zmX,List.length_map]at this;rw[this];congr 1
 show Lib.count (bsB s).data.toList [32]=_;rw[Lib.count_one];simp[bsB]
open Go.RowKit
set_option linter.unusedSimpArgs false
def Glm (w:World):Prop:=∃m,w.cell? ⟨0,0,none⟩=some (.int .i64 m)
theorem Glm.below {w w':World} (h:Glm w) (hb:Below w.heap.size w w'):Glm w':=by
 obtain⟨m,hm⟩:=h;exact⟨m,(hb.cell (p:=⟨0,0,none⟩) (zbA hm)).trans hm⟩
theorem zkG (s:ByteArray) (w:World) (hm:s.size≤2000000):Calls Tryz.prog 169 #[.string s] w fun e w'=>e=.returned (.bool (zpZ s.data.toList))∧Below w.heap.size w w':=by
 have hP:=lhd (zkH s);by_cases h0:s.size=0
 ·have HR:=lhd (show false=zpZ s.data.toList by
   have:s.data.toList=[]:=by rw[←List.length_eq_zero_iff];simpa using h0
   rw[this];rfl)
  have hb:(s==(⟨#[]⟩:ByteArray))=true:=by
   have:s=⟨#[]⟩:=by cases s with|mk d=>congr;exact Array.eq_empty_of_size_eq_zero h0
   rw[this];rfl
  obtain rfl:s=⟨#[]⟩:=by cases s with|mk d=>congr;exact Array.eq_empty_of_size_eq_zero h0
  go_enter Tryz.func169,Tryz.ntmps169;go_wp2_with fail;go_ret;exact⟨zle HR.out,Below.refl _ _⟩
 ·have hne:decide (s=(⟨#[]⟩:ByteArray))=false:=by
   rw[decide_eq_false_iff_not];rintro rfl;exact h0 rfl
  have hlt:0<s.size:=by omega
  have hte:=znN h0;have htn:¬s.toList=[]:=by intro h;rw[h]at hte;cases hte
  have hW:zpZ s.data.toList=(!decide (s[0]'hlt=36)&&s.data.toList.all prn):=by
   unfold zpZ
   have h1:s.data.toList≠ []:=by
    intro h;apply h0;have:=congrArg List.length h;simpa using this
   rw[decide_eq_false h1]
   have h2:s.data.toList.head? =some (s[0]'hlt):=by
    rw[List.head?_eq_getElem?,List.getElem?_eq_getElem (by simpa using hlt)];rfl
   rw[h2];simp
  have hu:(((s[0]'hlt).toNat:Int)==36)=decide (s[0]'hlt=36):=zn8 (s[0]'hlt) 36 (by omega);by_cases hc:s[0]'hlt=36
  ·have HR:=lhd (show false=zpZ s.data.toList by rw[hW,decide_eq_true hc];rfl);rw[decide_eq_true hc]at hu;have hcn:(s[0]'hlt).toNat=36:=by rw[hc];rfl
   clear hW hc;go_enter Tryz.func169,Tryz.ntmps169;go_wp2_with fail;go_ret;exact⟨zle HR.out,Below.refl _ _⟩
  ·have HR:=lhd (show s.data.toList.all prn=zpZ s.data.toList by rw[hW,decide_eq_false hc];rfl);rw[decide_eq_false hc]at hu;have hcn:¬((s[0]'hlt).toNat:Int)=36:=by simpa using hu
   clear hW hc;go_enter Tryz.func169,Tryz.ntmps169;go_wp2_with fail;refine(hP.out _).mono ?_;rintro e w1 ⟨rfl,hb⟩;rw[HR.out];go_wp2_with fail;go_ret;exact⟨zle (by simp[bne,hu]),hb⟩
theorem zmT:∀(s cur:Bs),∀y∈spl s cur,y.length≤cur.length+s.length
 | [],cur,y,h=>by
   rw[show spl [] cur=[cur]from rfl,List.mem_singleton]at h;subst h;simp
 |c::t,cur,y,h=>by
  unfold spl at h;split at h
  ·rcases List.mem_cons.1 h with rfl|h
   ·omega
   ·have:=zmT t [] y h;simp at this⊢;omega
  ·have:=zmT t _ y h;simp at this⊢;omega
def zgb (L:List ByteArray):Int:=if L.all (fun x=>zpZ x.data.toList)=true then if 200<(Lib.join (L.map (·.data.toList)) [32]).length then 9 else 0 else 3
theorem zkB (g:Nat) (L:List ByteArray) (w:World) (hc:∀(j:Nat) x,L[j]? =some x→w.cell? ⟨g,j,none⟩=some (.string x)) (hg:g<w.heap.size) (hL:L.length≤1000000)
 (hx:∀x∈L,x.size≤1000000) (hz:(Lib.join (L.map (·.data.toList)) [32]).length≤1000000):
 Calls Tryz.prog 138 #[.slice (some ⟨g,0,none⟩) L.length L.length] w fun e w'=>
  (∃s,e=.returned (.tuple #[.string s,.int .i64 (zgb L)]))∧Below w.heap.size w w':=by
 have HC:=lhd hc;have HX:=lhd hx;obtain⟨J,hJ⟩:∃J,J=Lib.join (L.map (·.data.toList)) [32]:=⟨_,rfl⟩;rw[←hJ]at hz;have HJ:=lhd hJ
 have HJoin:=lhd (fun(W:World) (hb:Below w.heap.size w W)=>Tryz.strings_Join g 0 L.length L ⟨#[32]⟩ W (fun j x h=>by rw[Nat.zero_add];exact(hb.cell (p:=⟨g,j,none⟩) hg).trans (hc j x h)) (Nat.lt_of_lt_of_le hg hb.size) (by omega) (Nat.le_refl _) (by
  show(Lib.join (L.map (·.data.toList)) [32]).length≤_;rw[←hJ];omega))
 clear hc hx hJ;have HB0:=lhd (Below.refl w.heap.size w);go_enter Tryz.func138,Tryz.ntmps138;go_wp2_with fail;go_loopw [9] (fun i wr=>∃k:Nat,k≤L.length∧i=.int .i64 k∧(L.take k).all (fun x=>zpZ x.data.toList)=true∧Below w.heap.size w wr) (fun i _=>L.length-(intOf i).toNat)
 case atStart=>exact⟨0,Nat.zero_le _,rfl,rfl,HB0.out⟩
 case round=>
  obtain⟨k,hk,rfl,hal,hb⟩:=hrel;have HB:=lhd hb;have HA:=lhd hal;clear hal hb;by_cases hlt:k<L.length
  ·have d0:wr.cell? ⟨g,k,none⟩=some (.string L[k]):=(HB.out.cell (p:=⟨g,k,none⟩) hg).trans (HC.out k _ (List.getElem?_eq_getElem hlt));have HW:=lhd (zkG L[k] wr (Nat.le_trans (HX.out _ (List.getElem_mem hlt)) (by decide)));by_cases hw:zpZ L[k].data.toList=true
   ·rw[hw]at HW
    have HA2:=lhd (show(L.take (k+1)).all (fun x=>zpZ x.data.toList)=true by
     rw[List.take_succ_eq_append_getElem hlt,List.all_append,HA.out];simp[hw])
    clear hw;generalize L[k]=x at*;go_wp2_with fail;refine HW.out.mono ?_;rintro e w1 ⟨rfl,hb1⟩;have HB1:=lhd (HB.out.trans (hb1.mono HB.out.size));clear hb1;go_wp2_with fail;go_roundw;case rel=>exact⟨k+1,hlt,by go_num,HA2.out,HB1.out⟩
    case measure=>simp[intOf];omega
   ·have hwf:zpZ L[k].data.toList=false:=by simpa using hw
    rw[hwf]at HW
    have HR:=lhd (show(3:Int)=zgb L by
     unfold zgb;rw[←HJ.out];rw[if_neg];intro h;rw[List.all_eq_true]at h;exact hw (h _ (List.getElem_mem hlt)))
    clear hw hwf;generalize L[k]=x at*;go_wp2_with fail;refine HW.out.mono ?_;rintro e w1 ⟨rfl,hb1⟩;have HB1:=lhd (HB.out.trans (hb1.mono HB.out.size));clear hb1;go_wp2_with fail;refine bodyPost_ret (v:=.tuple #[.string ⟨#[]⟩,.int .i64 3]) (by simp[results,Tryz.results138,go_sem]) rfl ?_;exact⟨⟨_,by rw[←HR.out]⟩,HB1.out⟩
  ·obtain rfl:k=L.length:=by omega
   have hal:L.all (fun x=>zpZ x.data.toList)=true:=by have:=HA.out;rwa [List.take_length]at this
   have HAL:=lhd hal;clear hal hlt;obtain⟨SS,hSS⟩:∃SS:ByteArray,SS=⟨(Lib.join (L.map (·.data.toList)) [32]).toArray⟩:=⟨_,rfl⟩;have hsz:SS.size=J.length:=by rw[hSS,HJ.out];rfl
   have HJN:=HJoin.out wr HB.out;rw[show(Lib.join (L.map (·.data.toList)) (⟨#[32]⟩:ByteArray).data.toList)=(Lib.join (L.map (·.data.toList)) [32])from rfl,←hSS]at HJN;have HJN:=lhd HJN;clear hSS;by_cases h200:200<J.length
   ·have h2:(200:Int)<(SS.size:Int):=by omega
    have HR:=lhd (show(9:Int)=zgb L by
     unfold zgb;rw[←HJ.out];rw[if_pos HAL.out,if_pos h200])
    clear h200 hsz;go_wp2_with fail;refine HJN.out.mono ?_;rintro e w1 ⟨rfl,hb1⟩;have HB1:=lhd (HB.out.trans (hb1.mono HB.out.size));clear hb1;go_wp2_with fail;refine bodyPost_ret (v:=.tuple #[.string ⟨#[]⟩,.int .i64 9]) (by simp[results,Tryz.results138,go_sem]) rfl ?_;exact⟨⟨_,by rw[←HR.out]⟩,HB1.out⟩
   ·have h2:¬(200:Int)<(SS.size:Int):=by omega
    have HR:=lhd (show(0:Int)=zgb L by
     unfold zgb;rw[←HJ.out];rw[if_pos HAL.out,if_neg h200])
    clear h200 hsz;go_wp2_with fail;refine HJN.out.mono ?_;rintro e w1 ⟨rfl,hb1⟩;have HB1:=lhd (HB.out.trans (hb1.mono HB.out.size));clear hb1;go_wp2_with fail;refine bodyPost_ret (v:=.tuple #[.string SS,.int .i64 0]) (by simp[results,Tryz.results138,go_sem]) rfl ?_;exact⟨⟨_,by rw[←HR.out]⟩,HB1.out⟩
theorem zkF (s:ByteArray) (w:World) (hm:s.size≤100000) (hg:Glm w):Calls Tryz.prog 117 #[.string s] w fun e w'=>
 (∃v,e=.returned v∧((s.data.toList≠ []∧zp2 s.data.toList=true∧∃g n,v=.slice (some ⟨g,0,none⟩) (n+1) (n+1))∨(v=.slice none 0 0∧(s.data.toList=[]∨zp2 s.data.toList=false))))∧Below w.heap.size w w':=by
 by_cases h0:s.size=0
 ·obtain rfl:s=⟨#[]⟩:=by cases s with|mk d=>congr;exact Array.eq_empty_of_size_eq_zero h0
  go_enter Tryz.func117,Tryz.ntmps117;go_wp2_with fail;go_ret;exact⟨⟨_,rfl,Or.inr ⟨rfl,by simp⟩⟩,Below.refl _ _⟩
 ·have hte:=znN h0;have htn:¬s.toList=[]:=by intro h;rw[h]at hte;cases hte
  have hne:¬s=(⟨#[]⟩:ByteArray):=by rintro rfl;exact h0 rfl
  obtain⟨m,hm0⟩:=hg;have HSP:=lhd (Tryz.strings_Split s ⟨#[32]⟩ m w (by omega) hm0 (by decide))
  have hl0:s.data.toList≠ []:=by
   intro h;apply h0;have:=congrArg List.length h;simpa using this
  have HL0:=lhd hl0;have hs:s=bsB s.data.toList:=by obtain⟨⟨l⟩⟩:=s;rfl
  have hall:Lib.splitB ⟨#[32]⟩ 0 (Lib.countB s ⟨#[32]⟩) s=(spl s.data.toList []).map bsB:=by
   conv=>lhs;rw[hs]
   exact zmX s.data.toList
  have hct:Lib.countB s ⟨#[32]⟩+1=(spl s.data.toList []).length:=by
   rw[←Lib.splitB_all ⟨#[32]⟩ (by decide) 0 _ s rfl,hall,List.length_map]
  rw[hall,hct]at HSP;obtain⟨L,hL⟩:∃L,L=(spl s.data.toList []).map bsB:=⟨_,rfl⟩;have hll:(spl s.data.toList []).length=L.length:=by rw[hL,List.length_map]
  rw[hll,←hL]at HSP
  have hlm:L.map (·.data.toList)=spl s.data.toList []:=by
   rw[hL,List.map_map];conv=>rhs;rw[←List.map_id (spl s.data.toList [])]
   rfl
  have hjn:Lib.join (L.map (·.data.toList)) [32]=s.data.toList:=by rw[hlm,zmR]
  have hE:zgb L=0↔zp2 s.data.toList=true:=by
   unfold zgb zp2;rw[hjn,decide_eq_false hl0,Bool.false_or,hL,List.all_map];have e1:((fun x=>zpZ x.data.toList)∘bsB)=zpZ:=by funext x;rfl
   rw[e1];by_cases h1:(spl s.data.toList []).all zpZ=true
   ·rw[if_pos h1,h1];by_cases h2:200<s.data.toList.length
    ·rw[if_pos h2];simp;simpa using h2
    ·rw[if_neg h2];simp;simpa using h2
   ·rw[if_neg h1];simp[h1]
  have HE:=lhd hE;have hlen:L.length=s.data.toList.count 32+1:=by rw[←hll,zmU]
  have hcz:s.data.toList.count 32≤s.size:=Nat.le_trans List.count_le_length (by simp);obtain⟨n,hn⟩:∃n,L.length=n+1:=⟨_,hlen⟩;have HN:=lhd hn
  have HJN:=lhd (fun(W:World)=>zkB w.heap.size L (w.alloc (.cells (L.map Value.string).toArray 9)) (fun j x h=>by
   have:=(zaq.fresh w (L.map Value.string).toArray 9).cell (j:=j) (v:=.string x) (by simp[h])
   exact this) (by simp) (by omega) (fun x hx=>by
    rw[hL]at hx;obtain⟨y,hy,rfl⟩:=List.mem_map.1 hx;have:=zmT _ _ y hy;have h2:(bsB y).size=y.length:=rfl;rw[h2];have h3:s.data.toList.length=s.size:=rfl;simp at this;omega) (by rw[hjn];simpa using (show s.size≤1000000 by omega)))
  have HNE:=lhd hlen;clear hE hlen hcz hjn hlm hll hL hct hall hs hl0 hn hm0;go_enter Tryz.func117,Tryz.ntmps117;go_wp2_with fail;refine HSP.out.mono ?_;rintro e w1 ⟨rfl,rfl⟩;have HB0:=lhd (show Below w.heap.size w (w.alloc (.cells (L.map Value.string).toArray 9))from(Below.refl _ _).alloc (Nat.le_refl _) _);have HJ1:=lhd (HJN.out w);clear HSP HJN;rw[HN.out];generalize w.alloc (.cells (L.map Value.string).toArray 9)=w1 at*;rw[HN.out]at HJ1;by_cases hw:zp2 s.data.toList=true
  ·have hj:=HE.out.2 hw;rw[hj]at HJ1;have HW:=lhd hw;clear hw hj;go_wp2_with fail;refine HJ1.out.mono ?_;rintro e w2 ⟨⟨x,rfl⟩,hb⟩;have HB:=lhd (HB0.out.trans (hb.mono HB0.out.size));clear hb;go_wp2_with fail;go_ret;exact⟨⟨_,rfl,Or.inl ⟨HL0.out,HW.out,_,_,rfl⟩⟩,HB.out⟩
  ·have hj:¬zgb L=0:=fun h=>hw (HE.out.1 h);have hj2:(zgb L==0)=false:=by simpa using hj
   have HW:=lhd (show zp2 s.data.toList=false by simpa using hw);clear hw;generalize zgb L=q at*;go_wp2_with fail;refine HJ1.out.mono ?_;rintro e w2 ⟨⟨x,rfl⟩,hb⟩;have HB:=lhd (HB0.out.trans (hb.mono HB0.out.size));clear hb;go_wp2_with fail;go_ret;exact⟨⟨_,rfl,Or.inr ⟨rfl,Or.inr HW.out⟩⟩,HB.out⟩
theorem zkE (s:ByteArray) (w:World) (hm:s.size≤100000) (hg:Glm w):Calls Tryz.prog 64 #[.string s] w fun e w'=>e=.returned (.bool (zp2 s.data.toList))∧Below w.heap.size w w':=by
 have HWD:=lhd (zkF s w hm hg);by_cases h0:s.size=0
 ·obtain rfl:s=⟨#[]⟩:=by cases s with|mk d=>congr;exact Array.eq_empty_of_size_eq_zero h0
  go_enter Tryz.func64,Tryz.ntmps64;go_wp2_with fail;go_ret;exact⟨rfl,Below.refl _ _⟩
 ·have hte:=znN h0;have htn:¬s.toList=[]:=by intro h;rw[h]at hte;cases hte
  have hne:¬s=(⟨#[]⟩:ByteArray):=by rintro rfl;exact h0 rfl
  have hl0:s.data.toList≠ []:=by
   intro h;apply h0;have:=congrArg List.length h;simpa using this
  have HL:=lhd hl0;clear hl0;go_enter Tryz.func64,Tryz.ntmps64;go_wp2_with fail;refine HWD.out.mono ?_;rintro e w1 ⟨⟨v,rfl,hv⟩,hb⟩;have HB:=lhd hb;clear hb;rcases hv with⟨-,hv,g,n,rfl⟩|⟨rfl,hv⟩
  ·have HV:=lhd hv;clear hv;have hn:(0:Int)<((n+1:Nat):Int):=by omega
   have hn1:decide ((0:Int)<(n:Int)+1)=true:=by rw[decide_eq_true_iff];omega
   go_wp2_with fail;go_ret;exact⟨zle HV.out.symm,HB.out⟩
  ·have HV:=lhd (show zp2 s.data.toList=false by rcases hv with hv|hv;exact absurd hv HL.out;exact hv);clear hv;go_wp2_with fail;go_ret;exact⟨zle HV.out.symm,HB.out⟩
def secN (ws:List Wd) (i:Nat):Nat×Bool:=match zaX (ws.drop (i+1))with
 |none=>(ws.length,false)
 |some r=>(ws.length-r.length,true)
theorem zaY {ws:List Wd} {k:Nat} (h:k<ws.length):zaX (ws.drop k)=if ws[k].1=[36,101,110,100]then some (ws.drop (k+1))else zaX (ws.drop (k+1)):=by
 rw[List.drop_eq_getElem_cons h,zaX]
theorem zbe (t l:Bs):((bsB t).toList==l)=decide (t=l):=by
 rw[beqB,zbh]
theorem zgH (wv:Value) (ws:List Wd) (i:Nat) (w:World) (hs:SlR w wv ws.length (wds ws)) (hi:i<ws.length) (hl:ws.length≤1000000):
 Calls Tryz.prog 52 #[wv,.int .i64 i] w fun e w'=>e=.returned (.tuple #[.int .i64 (secN ws i).1,.bool (secN ws i).2])∧w'=w:=by
 obtain⟨a,cap,rfl,-,-⟩:=hs.shape;have HS:=lhd hs;clear hs;have hi0:decide ((0:Int)≤(i:Int))=true:=by rw[decide_eq_true_iff];omega
 go_enter Tryz.func52,Tryz.ntmps52;go_wp2_with fail;go_loop [6] (fun q=>∃k:Nat,i+1≤k∧k≤ws.length∧q=.int .i64 k∧zaX (ws.drop k)=zaX (ws.drop (i+1))) (fun q=>ws.length-(intOf q).toNat)
 case atStart=>exact⟨i+1,Nat.le_refl _,by omega,by go_num,rfl⟩
 case round=>
  obtain⟨k,hk1,hk2,rfl,hb⟩:=hrel;have HB:=lhd hb;clear hb;have hk0:decide ((0:Int)<(k:Int))=true:=by rw[decide_eq_true_iff];omega
  by_cases hlt:k<ws.length
  ·obtain⟨b,o,rfl,c0,-,-,-⟩:=HS.out.wds hlt;have HD:=lhd (zaY hlt);have hb3:=zbe ws[k].1 [36,101,110,100];generalize ws[k].1=tx at HD c0 hb3;by_cases he:tx=[36,101,110,100]
   ·have HR:=lhd (show secN ws i=(k+1,true)by
     unfold secN;rw[←HB.out,HD.out,if_pos he];have:(ws.drop (k+1)).length=ws.length-(k+1):=by simp
     simp only[this];congr 1
     omega)
    rw[decide_eq_true he]at hb3;clear he;generalize bsB tx=sb at c0 hb3;go_wp2_with fail;refine bodyPost_ret (v:=.tuple #[.int .i64 ((k:Int)+1),.bool true]) (by simp[results,Tryz.results52,go_sem]) rfl ?_;rw[HR.out];exact⟨by simp,rfl⟩
   ·have HB2:=lhd (show zaX (ws.drop (k+1))=zaX (ws.drop (i+1))by rw[←HB.out,HD.out,if_neg he]);rw[decide_eq_false he]at hb3;clear he;generalize bsB tx=sb at c0 hb3;go_wp2_with fail;go_round
    case rel=>exact⟨k+1,by omega,by omega,by go_num,HB2.out⟩
    case measure=>simp[intOf];omega
  ·obtain rfl:k=ws.length:=by omega
   have HR:=lhd (show secN ws i=(ws.length,false)by
    unfold secN;rw[←HB.out,List.drop_length];rfl)
   go_wp2_with fail;refine bodyPost_ret (v:=.tuple #[.int .i64 (ws.length:Int),.bool false]) (by simp[results,Tryz.results52,go_sem]) rfl ?_;rw[HR.out];exact⟨rfl,rfl⟩
def PS.secP (s:PS) (w:Wd) (ok:Bool):PS:=if ok=true∧w.1=[36,99,111,109,109,101,110,116]then s else s.prob 3 w
theorem SMap.more {P:Program} {K:TypeId} {w:World} {b n n':Nat} {f:BsM→Option Value} (h:SMap P K w b n f) (hn:n≤n'):SMap P K w b n' f:=by
 obtain⟨D,ho,hf⟩:=h;exact⟨D,ho.mono hn,hf⟩
theorem zbT (k n:Int) (v id:Bs):(cmdB k n (bsB v) (bsB id)).toList.isEmpty=decide (cmdL cv k n v id=[]):=by
 unfold cmdB;rw[ByteArray.toList_eq,zbh,zbh,zbh];cases cmdL cv k n v id with
 |nil=>rfl
 |cons a l=>rfl
def tk1 (c:UInt8) (x:Bs):Bs:=if x.head? =some c then x.drop 1 else x
theorem zks (c:UInt8) (x:Bs):Lib.hasPrefix x [c]=decide (x.head? =some c)∧Lib.trimPrefix x [c]=tk1 c x:=by
 unfold Lib.trimPrefix Lib.hasPrefix tk1;cases x with
 |nil=>exact⟨rfl,rfl⟩
 |cons a t=>
  by_cases h:a=c
  ·subst h;simp[List.isPrefixOf]
  ·have h2:¬c=a:=fun e=>h e.symm;simp[List.isPrefixOf,h,h2]
theorem zh2 (b:Nat) (c:UInt8) (x:Bs) (w:World) (hc:w.cell? ⟨b,0,none⟩=some (.string (bsB x))) (hf:w.frozen? ⟨b,0,none⟩=false):
 Calls Tryz.prog 240 #[.pointer (some ⟨b,0,none⟩),.string ⟨#[c]⟩] w fun e w'=>e=.returned (.bool (decide (x.head? =some c)))∧w'=w.setCell ⟨b,0,none⟩ (.string (bsB (tk1 c x))):=by
 have hC:=Tryz.strings_CutPrefix (bsB x) ⟨#[c]⟩ w;rw[zbh,show(⟨#[c]⟩:ByteArray).data.toList=[c]from rfl,(zks c x).1,(zks c x).2]at hC;have HC:=lhd hC;clear hC;rw[show(⟨(tk1 c x).toArray⟩:ByteArray)=bsB (tk1 c x)from rfl]at HC;generalize decide (x.head? =some c)=r at*;generalize tk1 c x=y at*;go_enter Tryz.func240,Tryz.ntmps240;go_wp2_with fail;refine HC.out.mono ?_;rintro e w' ⟨rfl,rfl⟩;go_wp2_with fail;go_ret;exact⟨rfl,rfl⟩
structure KB (B:Nat) (W V:World):Prop where
 b:Below B W V
 keep:∀(i:Nat) (o:Obj),W.heap[i]? =some o→(∀C T fr,o=.cells C T fr→T≠5∧T≠72)→V.heap[i]? =some o
theorem KB.refl (B:Nat) (W:World):KB B W W:=⟨Below.refl _ _,fun _ _ h _=>h⟩
theorem KB.trans {B:Nat} {X Y Z:World} (h:KB B X Y) (k:KB B Y Z):KB B X Z:=⟨h.b.trans k.b,fun i o ho hT=>k.keep i o (h.keep i o ho hT) hT⟩
theorem KB.of_below {B:Nat} {W V:World} (h:Below W.heap.size W V) (hB:B≤W.heap.size):KB B W V:=
 ⟨h.mono hB,fun i o ho _=>by rw[h.block i (Array.getElem?_eq_some_iff.1 ho).1];exact ho⟩
theorem KB.set {B:Nat} {W:World} {b:Nat} {C:Array Value} {T:TypeId} {fr:Nat×Nat} (hb:W.heap[b]? =some (.cells C T fr)) (hT:T=5∨T=72) (hB:B≤b) (j:Nat) (u:Value):KB B W (W.setCell ⟨b,j,none⟩ u):=
 ⟨(Below.refl _ _).setCell (p:=⟨b,j,none⟩) hB _,fun i o ho hk=>by
  have hne:i≠b:=by
   rintro rfl;rw[hb]at ho;injection ho with ho;have:=hk _ _ _ ho.symm;rcases hT with rfl|rfl
   ·exact this.1 rfl
   ·exact this.2 rfl
  rw[Below.heap_setCell _ _ _ _ hne];exact ho⟩
theorem KB.row {B:Nat} {W V:World} {b:Nat} {xs:List Value} {C:Array Value} {T:TypeId} (h:KB B W V) (hb:W.heap[b]? =some (.cells C T (0,0))) (hT:T≠5∧T≠72) (hx:zaq W b xs):zaq V b xs:=by
 have:=h.keep b _ hb (fun C' T' fr' e=>by injection e with _ e _;rw[←e];exact hT);exact hx.same (this.trans hb.symm)
theorem KB.map {B:Nat} {W V:World} {P:Program} {K:TypeId} {b n:Nat} {f:BsM→Option Value} (h:KB B W V) (hm:SMap P K W b n f):SMap P K V b n f:=by
 have hlt:=hm.lt;have e:W.heap[b]? =some W.heap[b]:=Array.getElem?_eq_getElem hlt;exact hm.same ((h.keep b _ e (fun C T fr ho=>absurd (e.trans (congrArg some ho)) hm.no_cells)).trans e.symm)
theorem zbr:(Tryz.prog.info? 5).map (fun i=>(i.zero,i.size,i.bytes))=some (some (.int .u8 0),1,1):=by kernel_rfl
theorem zgT (a b:List Bs):zgS (a++b)=zgS a++zgS b:=by simp[zgS]
theorem zgU (a:Bs) (b:List Bs):zgS (a::b)=zgN a++zgS b:=rfl
structure FmI (w w3:World) (L:List Dcl) (W:Bs) (wr:World) (T R:Bs):Prop where
 bld:Lib.IsBuilder 72 5 w3.heap.size w3.heap.size (Lib.byteCells T) wr
 eq:W=T++R
 k:Below w3.heap.size w3 wr
theorem FmI.keep {w w3 wr wr':World} {L:List Dcl} {W T R:Bs} (h:FmI w w3 L W wr T R) (hk:Below wr.heap.size wr wr'):FmI w w3 L W wr' T R:=by
 obtain⟨hb,he,hk0⟩:=h
 have aux:∀p,Lib.BuilderAt 72 5 w3.heap.size w3.heap.size p (Lib.byteCells T) wr→Lib.BuilderAt 72 5 w3.heap.size w3.heap.size p (Lib.byteCells T) wr':=by
  rintro p ⟨h1,v,h2,h3,h4⟩;exact⟨h1,v,by rw[hk.block _ (Array.getElem?_eq_some_iff.1 h2).1];exact h2,zjb h3 hk,h4⟩
 exact⟨hb.elim (fun x=> .inl (aux _ x)) (fun x=> .inr (aux _ x)),he,hk0.trans (hk.mono hk0.size)⟩
theorem FmI.grown {w w3 wr wr':World} {L:List Dcl} {W T R:Bs} {mb n:Nat} {P:Program} {K:TypeId} {f:BsM→Option Value} (h:FmI w w3 L W wr T R) (hm:SMap P K wr mb n f) (hg:wr.grownBy wr' (some mb)) (hlo:w3.heap.size≤mb):FmI w w3 L W wr' T R:=by
 obtain⟨hb,he,hk0⟩:=h
 have aux:∀p,Lib.BuilderAt 72 5 w3.heap.size w3.heap.size p (Lib.byteCells T) wr→Lib.BuilderAt 72 5 w3.heap.size w3.heap.size p (Lib.byteCells T) wr':=by
  rintro p ⟨h1,v,h2,h3,h4⟩;refine⟨h1,v,?_,h3.kept hg (.inr (fun e=>hm.ne_row h3 e.symm)),h4⟩;rw[hg.block _ (Array.getElem?_eq_some_iff.1 h2).1 (fun e=>by injection e with e;subst e;exact hm.no_cells h2)];exact h2
 exact⟨hb.elim (fun x=> .inl (aux _ x)) (fun x=> .inr (aux _ x)),he,hk0.grown hg hk0.size (fun k hk=>by injection hk with hk;omega)⟩
def zag (w:World):Prop:=(∃tp p,w.var? Tryz.prog "strconv.ErrSyntax" =some #[.iface tp p])∧(∃tp p,w.var? Tryz.prog "strconv.ErrRange" =some #[.iface tp p])
theorem zez:Tryz.prog.globalNamed "strconv.ErrSyntax" =some 6:=by kernel_rfl
theorem zey:Tryz.prog.globalNamed "strconv.ErrRange" =some 7:=by kernel_rfl
theorem zoU {w w':World} {nm:String} {g:Nat} (hn:Tryz.prog.globalNamed nm=some g) {x:Array Value} (h:w.var? Tryz.prog nm=some x) (hb:Below w.heap.size w w'):w'.var? Tryz.prog nm=some x:=by
 unfold World.var? at*;simp only[hn,Option.bind_some]at*
 have hlt:g<w.heap.size:=by
  rcases Nat.lt_or_ge g w.heap.size with h'|h'
  ·exact h'
  ·rw[Array.getElem?_eq_none h']at h;simp at h
 rw[hb.block _ hlt];exact h
theorem zag.below {w w':World} (h:zag w) (hb:Below w.heap.size w w'):zag w':=by
 obtain⟨⟨t1,p1,h1⟩,t2,p2,h2⟩:=h;exact⟨⟨t1,p1,zoU zez h1 hb⟩,t2,p2,zoU zey h2 hb⟩
def zaa (l:Bs) (w:World) (e:Ending) (w':World):Prop:=
 (∃v,Lib.atoiAll l=.ok v∧e=.returned (.tuple #[.int .i64 v,.nilIface])∧Below w.heap.size w w')∨((∀v,Lib.atoiAll l≠ .ok v)∧∃v t a,e=.returned (.tuple #[.int .i64 v,.iface t (.pointer (some a))])∧Below w.heap.size w w')
theorem zca (l:Bs) (w:World) (hg:zag w) (hl:l.length≤281474976710656):Calls Tryz.prog 208 #[.string (bsB l)] w (zaa l w):=by
 obtain⟨⟨t1,p1,h1⟩,t2,p2,h2⟩:=hg;have hs:(bsB l).size=l.length:=zbk l;cases ha:Lib.atoiAll l
 ·rename_i v
  refine(Tryz.strconv_Atoi_ok (bsB l) (by omega) v (by rw[zbh];exact ha) w).mono ?_;rintro e w' ⟨rfl,rfl|⟨t,rfl⟩⟩
  ·exact .inl ⟨v,ha,rfl,Below.refl _ _⟩
  ·exact .inl ⟨v,ha,rfl,Go.Joins.below_bytesWorld _ _ _ _ (Nat.le_refl _)⟩
 ·refine(Tryz.strconv_Atoi_syntax_var (bsB l) (by omega) (by rw[zbh];exact ha) t1 p1 w h1).mono ?_;rintro e w' ⟨N,rfl,-,-,hb⟩;exact .inr ⟨(fun v h=>by rw[ha]at h;cases h),_,_,_,rfl,hb⟩
 ·refine(Tryz.strconv_Atoi_range_var (bsB l) (by omega) (by rw[zbh];exact ha) t2 p2 w h2).mono ?_;rintro e w' ⟨N,rfl,-,-,hb⟩;exact .inr ⟨(fun v h=>by rw[ha]at h;cases h),_,_,_,rfl,hb⟩
def curL (cur:Bs):List Bs:=if cur=[]then []else [cur]
structure ScSt (s:Bs) (k:Nat) (ws:List Wd) (cur:Bs):Prop where
 t:∃d,ws.map (·.1)=d++curL cur∧zp1 s=d++wrd (s.drop k) cur
 c:cur≠ []→∃ini x,ws=ini++ [x]∧x.1=cur∧x.2.1=((k-cur.length:Nat):Int)
 e:cur.length≤k∧cur=(s.take k).drop (k-cur.length)
 l:ws.length≤k
theorem ScSt.start (s:Bs):ScSt s 0 [] []:=⟨⟨[],rfl,rfl⟩,fun h=>absurd rfl h,⟨Nat.le_refl _,rfl⟩,Nat.le_refl _⟩
theorem ScSt.white {s:Bs} {k:Nat} {ws:List Wd} {cur:Bs} (h:ScSt s k ws cur) (hk:k<s.length) (hw:isW s[k]=true):ScSt s (k+1) ws []:=by
 obtain⟨d,h1,h2⟩:=h.t;refine⟨⟨d++curL cur,by rw[h1];simp[curL],?_⟩,fun h=>absurd rfl h,⟨Nat.zero_le _,by simp⟩,by have:=h.l;omega⟩;rw[h2,List.drop_eq_getElem_cons hk,wrd,if_pos hw,List.append_assoc];congr 1
 unfold curL;split<;>rfl
theorem ScSt.new {s:Bs} {k:Nat} {ws:List Wd} (h:ScSt s k ws []) (hk:k<s.length) (hw:isW s[k]=false) (p q:Int):ScSt s (k+1) (ws++ [([s[k]],(k:Int),p,q)]) [s[k]]:=by
 obtain⟨d,h1,h2⟩:=h.t;refine⟨⟨d,?_,?_⟩,fun _=>⟨ws,_,rfl,rfl,?_⟩,⟨by simp,?_⟩,by have:=h.l;simp;omega⟩
 ·rw[List.map_append,h1];simp[curL]
 ·rw[h2,List.drop_eq_getElem_cons hk,wrd,if_neg (by rw[hw];simp)];rfl
 ·simp
 ·rw[List.take_succ_eq_append_getElem hk,List.length_singleton,Nat.add_sub_cancel,List.drop_append_of_le_length (by simp;omega),List.drop_of_length_le (by simp;omega)];rfl
theorem ScSt.more {s:Bs} {k:Nat} {ini:List Wd} {x:Wd} {cur:Bs} (h:ScSt s k (ini++ [x]) cur) (hx:x.1=cur) (hc:cur≠ []) (hk:k<s.length) (hw:isW s[k]=false) (ho:x.2.1=((k-cur.length:Nat):Int)):
 ScSt s (k+1) (ini++ [(cur++ [s[k]],x.2)]) (cur++ [s[k]]):=by
 obtain⟨d,h1,h2⟩:=h.t;obtain⟨e1,e2⟩:=h.e;refine⟨⟨d,?_,?_⟩,fun _=>⟨ini,_,rfl,rfl,?_⟩,⟨by simp;omega,?_⟩,by have:=h.l;simp at this⊢;omega⟩
 ·rw[List.map_append,List.map_cons,List.map_nil]at h1⊢;have:curL cur=[cur]:=by unfold curL;rw[if_neg hc]
  rw[this,hx]at h1;have h3:=List.append_inj_left' h1 rfl;rw[h3];unfold curL;rw[if_neg (by simp)]
 ·rw[h2,List.drop_eq_getElem_cons hk,wrd,if_neg (by rw[hw];simp)]
 ·rw[ho];simp
 ·rw[List.take_succ_eq_append_getElem hk,List.length_append,List.length_singleton,show k+1-(cur.length+1)=k-cur.length by omega,List.drop_append_of_le_length (by simp;omega),←e2]
theorem ScSt.fin {s:Bs} {ws:List Wd} {cur:Bs} (h:ScSt s s.length ws cur):ws.map (·.1)=zp1 s:=by
 obtain⟨d,h1,h2⟩:=h.t;rw[h1,h2,List.drop_length,wrd];rfl
theorem ScSt.text {s:Bs} {k:Nat} {ws:List Wd} {cur:Bs} (h:ScSt s k ws cur) (hk:k<s.length):(s.take (k+1)).drop (k-cur.length)=cur++ [s[k]]:=by
 obtain⟨e1,e2⟩:=h.e;rw[List.take_succ_eq_append_getElem hk,List.drop_append_of_le_length (by simp;omega),←e2]
open Go.RowKit Go.Shelf
attribute [local go_sem] Oper.semAt_some
def plc (s:Bs) (k:Nat):Int×Int×Int:=(s.take k).foldl behP (0,1,1)
theorem zjU {s:Bs} {k:Nat} (h:k<s.length):plc s (k+1)=behP (plc s k) s[k]:=by
 unfold plc;rw[List.take_succ_eq_append_getElem h,List.foldl_append];rfl
theorem zjT:∀{s:Bs} {k:Nat},k≤s.length→(plc s k).1=k∧1≤(plc s k).2.1∧(plc s k).2.1≤k+1∧1≤(plc s k).2.2∧(plc s k).2.2≤k+1
 |s,0,_=>⟨rfl,(by decide:(1:Int)≤1),(by decide:(1:Int)≤((0:Nat):Int)+1),(by decide:(1:Int)≤1),(by decide:(1:Int)≤((0:Nat):Int)+1)⟩
 |s,k+1,h=>by
  obtain⟨h1,h2,h3,h4,h5⟩:=zjT (s:=s) (k:=k) (by omega);rw[zjU (by omega)];unfold behP;split
  ·refine⟨?_,?_,?_,?_,?_⟩<;>simp only<;>omega
  ·refine⟨?_,?_,?_,?_,?_⟩<;>simp only<;>omega
theorem zjf {w:World} {b:Nat} {C:Array Value} {T:TypeId} (h:w.heap[b]? =some (.cells C T (0,0))):zaq w b C.toList:=fun j v hj=>by
 rw[Array.getElem?_toList]at hj;exact⟨by simp[World.cell?,h,hj],by simp[World.frozen?,h]⟩
theorem za8 {w w':World} {b:Nat} {o:Obj} (h:w.heap[b]? =some o) (hb:Below w.heap.size w w'):w'.heap[b]? =some o:=by rw[hb.block b (Array.getElem?_eq_some_iff.1 h).1];exact h
theorem zeJ {W:World} {b:Nat} {x y z x' y' z':Value} {T:TypeId} (h:W.heap[b]? =some (.cells #[x,y,z] T (0,0))):(((W.setCell ⟨b,0,none⟩ x').setCell ⟨b,1,none⟩ y').setCell ⟨b,2,none⟩ z').heap[b]? =some (.cells #[x',y',z'] T (0,0)):=by
 simp[World.setCell,Array.getElem?_modify,h]
theorem zeH {W:World} {b b':Nat} {x' y' z':Value} {o:Obj} (hne:b≠b') (h:W.heap[b]? =some o):(((W.setCell ⟨b',0,none⟩ x').setCell ⟨b',1,none⟩ y').setCell ⟨b',2,none⟩ z').heap[b]? =some o:=by
 rw[Below.heap_setCell _ _ _ _ hne,Below.heap_setCell _ _ _ _ hne,Below.heap_setCell _ _ _ _ hne];exact h
theorem zn0 {B:Nat} {W:World} {b:Nat} {x y z x' y' z':Value} {T:TypeId} (h:W.heap[b]? =some (.cells #[x,y,z] T (0,0))) (hB:B≤b):TurnJ B T W (((W.setCell ⟨b,0,none⟩ x').setCell ⟨b,1,none⟩ y').setCell ⟨b,2,none⟩ z'):=by
 have h1:(W.setCell ⟨b,0,none⟩ x').heap[b]? =some (.cells #[x',y,z] T (0,0)):=by simp[World.setCell,Array.getElem?_modify,h]
 have h2:((W.setCell ⟨b,0,none⟩ x').setCell ⟨b,1,none⟩ y').heap[b]? =some (.cells #[x',y',z] T (0,0)):=by simp[World.setCell,Array.getElem?_modify,h]
 exact((TurnJ.setCell h hB 0 x').trans (TurnJ.setCell h1 hB 1 y')).trans (TurnJ.setCell h2 hB 2 z')
def zng (s:Bs) (k:Nat):Array Value:=#[.agg #[.int .i64 (plc s k).1,.int .i64 (plc s k).2.1,.int .i64 (plc s k).2.2,.int .u8 ((s.getD k 0).toNat:Int)]]
def KpS (W V:World):Prop:=∀(b:Nat) (C:Array Value) (T:TypeId) (fr:Nat×Nat),T=113∨T=9→W.heap[b]? =some (.cells C T fr)→V.heap[b]? =some (.cells C T fr)
theorem KpS.trans {A B C:World} (h:KpS A B) (k:KpS B C):KpS A C:=fun b D T fr hT hb=>k b D T fr hT (h b D T fr hT hb)
theorem KpS.same0 {W V:World} (h:Same0 W V):KpS W V:=fun b C T fr _ hb=>h.cells b C T fr hb
theorem KpS.below {W V:World} (h:Below W.heap.size W V):KpS W V:=fun b C T fr _ hb=>by rw[h.block b (Array.getElem?_eq_some_iff.1 hb).1];exact hb
theorem znj (n:Nat) (hn:2≤n) (lp Bs0 B:Nat) (s:Bs) (hlen:s.length≤100000) (J:Nat→World→Prop) (W:World) (hB:B≤W.heap.size)
 (hJ:∀k X Y,J k X→TurnJ B 113 X Y→J k Y)
 (hY:∀k W1,J k W1→k<s.length→YieldAt Fence.wide (n-1) Tryz.prog lp (zng s k) W1 fun e W'=>e=.returned (.bool true)∧J (k+1) W'∧KpS W1 W')
 (fr:Nat×Nat) (hc:W.heap[Bs0]? =some (.cells #[.string (bsB s)] 9 fr)) (h0:J 0 W):
 CallsIn Fence.wide n Tryz.prog 115 #[.func (.yield lp) #[] #[],.pointer (some ⟨Bs0,0,none⟩)] W fun e W'=>(∃v,e=.returned v)∧J s.length W':=by
 have hro:Fence.wide.round=none:=rfl;refine callsIn_of_wp Tryz.func115 rfl trivial ?_ hro;simp only[Tryz.ntmps115,List.size_toArray,List.length_cons,List.length_nil,Nat.reduceAdd,Nat.reduceSub,Array.replicate_succ,Array.replicate_zero,List.push_toArray,List.append_toArray,List.nil_append,List.cons_append];have hal:Below W.heap.size W (W.alloc (.cells #[.int .i64 0,.int .i64 1,.int .i64 1] 113)):=(Below.refl _ _).alloc (Nat.le_refl _) _;have HP1:=lhd (heap_alloc_new W (.cells #[.int .i64 0,.int .i64 1,.int .i64 1] 113));have HJ1:=lhd (hJ 0 _ _ h0 (TurnJ.below hB hal));have HC1:=lhd (show(W.alloc (.cells #[.int .i64 0,.int .i64 1,.int .i64 1] 113)).heap[Bs0]? =some (.cells #[.string (bsB s)] 9 fr)by rw[hal.block _ (Array.getElem?_eq_some_iff.1 hc).1];exact hc);have HCL:=lhd (fun(X:World) (h:X.heap[Bs0]? =some (.cells #[.string (bsB s)] 9 fr))=>(show X.cell? ⟨Bs0,0,none⟩=some (.string (bsB s))by simp[World.cell?,h]));have x0:=HCL.out _ HC1.out;have hBs:Bs0≠W.heap.size:=Nat.ne_of_lt (Array.getElem?_eq_some_iff.1 hc).1;have HSZ:=lhd (show(bsB s).size=s.length from zbk s);have HJ:=lhd hJ;have HY:=lhd hY;clear hal hc h0 hJ hY;generalize hw1:W.alloc (.cells #[.int .i64 0,.int .i64 1,.int .i64 1] 113)=w1 at*;gi_wp2
 clear hw1 x0
 gi_loopw [8] (fun i wr=>∃k:Nat,k≤s.length∧i=.int .i64 k∧J k wr∧wr.heap[W.heap.size]? =some (.cells #[.int .i64 (plc s k).1,.int .i64 (plc s k).2.1,.int .i64 (plc s k).2.2] 113 (0,0))∧wr.heap[Bs0]? =some (.cells #[.string (bsB s)] 9 fr))
  (fun i _=>s.length-(intOf i).toNat)
 case atStart=>exact⟨0,Nat.zero_le _,rfl,HJ1.out,HP1.out,HC1.out⟩
 case round=>
  obtain⟨k,hk,rfl,hjk,hp,hc⟩:=hrel;have x0:=HCL.out _ hc;have HP:=lhd hp;have HC:=lhd hc;have HJK:=lhd hjk;have hsz:=HSZ.out;clear hp hc;by_cases hlt:k<s.length
  ·obtain⟨fn,tmps,assign,body,hy,hR⟩:=HY.out k wr.drew (HJ.out _ _ _ hjk (TurnJ.drew B _ wr 1)) hlt;have HR:=lhd hR;clear hR;obtain⟨b1,b2,b3,b4,b5⟩:=zjT (s:=s) (k:=k) hk;have HS1:=lhd (zjU hlt);have hgd:s.getD k 0=s[k]:=by simp[List.getD,hlt]
   unfold zng at hy;rw[hgd]at hy;obtain⟨c,hcv⟩:∃c,s[k]=c:=⟨_,rfl⟩;have hcix:∀h:k<(bsB s).size,(bsB s)[k]'h=c:=fun h=>hcv;rw[hcv]at hy HS1;generalize plc s k=p at hy HP HS1 b1 b2 b3 b4 b5;clear hcv hgd;obtain⟨po,pl,pc⟩:=p;dsimp only at hy HP b1 b2 b3 b4 b5;subst b1;have q0:=(zjf HP.out).cell (j:=0) rfl;have q1:=(zjf HP.out).cell (j:=1) rfl;have q2:=(zjf HP.out).cell (j:=2) rfl;have hlt2:k<(bsB s).size:=by omega
   clear hjk;gi_wp2
   have hmx:Tryz.prog.follows .mixedOrders=true:=by kernel_rfl
   have h1n:1≤n:=by omega
   clear hsz;refine wpIn_region_any hmx ?_;refine wpAnyIn_take (i:=0) (v:=?_) hro rfl (by kernel_rfl) (by kernel_rfl) (by kernel_rfl) (fun _ _ _ h=>h) ⟨Or.inl ⟨by rfl,?_⟩,?_⟩ ?_;rotate_left
   ·intro w;go_simp;all_goals with_reducible rfl
   ·intro w;rfl
   simp only[tkS];refine wpAnyIn_take (i:=3) (v:=?_) hro rfl (by kernel_rfl) (by kernel_rfl) (by kernel_rfl) (fun _ _ _ h=>h) ⟨Or.inl ⟨by rfl,?_⟩,?_⟩ ?_;rotate_left
   ·intro w;go_simp;all_goals with_reducible rfl
   ·intro w;rfl
   simp only[tkS];refine wpAnyIn_ready (rs:=[1,2]) (by kernel_rfl) (by simp) ?_;refine AllReadyIn.cons (o:=_) rfl (fun K hK=>?_) (AllReadyIn.cons (o:=_) rfl (fun K hK=>?_) AllReadyIn.nil)<;>(have HKK:=lhd hK;clear hK)
   ·go_simp;refine HKK.out _ _ ?_;clear HKK;try simp only[tkS]
    refine wpAnyIn_ready (rs:=[2]) (by kernel_rfl) (by simp) ?_;refine AllReadyIn.cons (o:=_) rfl (fun K hK=>?_) AllReadyIn.nil;have HKK:=lhd hK;clear hK;go_simp;refine HKK.out _ _ ?_;clear HKK;try simp only[tkS]
    refine wpAnyIn_take (i:=4) (v:=?_) hro rfl (by kernel_rfl) (by kernel_rfl) (by kernel_rfl) (fun _ _ _ h=>h) ⟨Or.inl ⟨by rfl,?_⟩,?_⟩ ?_;rotate_left
    ·intro w;go_simp;all_goals with_reducible rfl
    ·intro w;rfl
    simp only[tkS];refine wpAnyIn_take (i:=5) (v:=?_) hro rfl (by kernel_rfl) (by kernel_rfl) (by kernel_rfl) (fun _ _ _ h=>h) ⟨Or.inl ⟨by rfl,?_⟩,?_⟩ ?_;rotate_left
    ·intro w;go_simp;all_goals with_reducible rfl
    ·intro w;rfl
    simp only[tkS];refine wpAnyIn_ready (rs:=[6]) (by kernel_rfl) (by simp) ?_;refine AllReadyIn.cons (o:=_) rfl (fun K hK=>?_) AllReadyIn.nil;have HKK:=lhd hK;clear hK;go_simp;refine HR.out.mono ?_;rintro e W3 ⟨rfl,hj3,hk3⟩;have HJ3:=lhd hj3;have HK3:=lhd hk3;clear hj3 hk3;refine HKK.out _ _ ?_;clear HKK;try simp only[tkS]
    refine wpAnyIn_take (i:=7) (v:=?_) hro rfl (by kernel_rfl) (by kernel_rfl) (by kernel_rfl) (fun _ _ _ h=>h) ⟨Or.inl ⟨by rfl,?_⟩,?_⟩ ?_;rotate_left
    ·intro w;go_simp;all_goals with_reducible rfl
    ·intro w;rfl
    simp only[tkS];refine wpAnyIn_done (by kernel_rfl) ?_ _;have HP3:=lhd (HK3.out _ _ _ _ (.inl rfl) HP.out);have HC3:=lhd (HK3.out _ _ _ _ (.inr rfl) HC.out);have z0:=HCL.out _ HC3.out;have z1:=(zjf HP3.out).cell (j:=0) rfl;have z2:=(zjf HP3.out).cell (j:=1) rfl;have z3:=(zjf HP3.out).cell (j:=2) rfl;clear q0 q1 q2 x0;gi_wp2
    refine wpIn_region_any hmx ?_;have HBH:=lhd (zgI (k:Int) pl pc c W3.drew ⟨by omega,by omega⟩ ⟨by omega,by omega⟩ ⟨by omega,by omega⟩);refine wpAnyIn_take (i:=2) (v:=?_) hro rfl (by kernel_rfl) (by kernel_rfl) (by kernel_rfl) (fun _ _ _ h=>h) ⟨Or.inl ⟨by rfl,?_⟩,?_⟩ ?_;rotate_left
    ·intro w;go_simp;all_goals with_reducible rfl
    ·intro w;rfl
    simp only[tkS];refine wpAnyIn_ready (rs:=[0,1]) (by kernel_rfl) (by simp) ?_;refine AllReadyIn.cons (o:=_) rfl (fun K hK=>?_) (AllReadyIn.cons (o:=_) rfl (fun K hK=>?_) AllReadyIn.nil)<;>(have HKK:=lhd hK;clear hK)
    ·go_simp;refine HKK.out _ _ ?_;clear HKK;try simp only[tkS]
     refine wpAnyIn_ready (rs:=[1]) (by kernel_rfl) (by simp) ?_;refine AllReadyIn.cons (o:=_) rfl (fun K hK=>?_) AllReadyIn.nil;have HKK:=lhd hK;clear hK;go_simp;refine HKK.out _ _ ?_;clear HKK;try simp only[tkS]
     refine wpAnyIn_take (i:=3) (v:=?_) hro rfl (by kernel_rfl) (by kernel_rfl) (by kernel_rfl) (fun _ _ _ h=>h) ⟨Or.inl ⟨by rfl,?_⟩,?_⟩ ?_;rotate_left
     ·intro w;go_simp;all_goals with_reducible rfl
     ·intro w;rfl
     simp only[tkS];refine wpAnyIn_ready (rs:=[4]) (by kernel_rfl) (by simp) ?_;refine AllReadyIn.cons (o:=_) rfl (fun K hK=>?_) AllReadyIn.nil;have HKK:=lhd hK;clear hK;go_simp;refine⟨trivial,(callsIn_wide.2 HBH.out).mono ?_⟩;rintro e W5 ⟨rfl,hb5'⟩;have hb5:=za6 hb5';have HP5:=lhd (za8 HP3.out hb5);have HC5:=lhd (za8 HC3.out hb5);have HT5:=lhd (TurnJ.below (T:=113) (Nat.le_trans hB (Nat.le_of_lt (zbA z1))) hb5);generalize hbp:behP (↑k,pl,pc) c=bp at*;obtain⟨bo,bl,bc⟩:=bp;have y1:=(zjf HP5.out).cell (j:=0) rfl;have y2:=(zjf HP5.out).cell (j:=1) rfl;have y3:=(zjf HP5.out).cell (j:=2) rfl;have f1:=(zjf HP5.out).free (j:=0) (by simp);have f2:=(zjf HP5.out).free (j:=1) (by simp);have f3:=(zjf HP5.out).free (j:=2) (by simp);clear hb5 hb5' hbp;refine HKK.out _ _ ?_;clear HKK;try simp only[tkS]
     refine wpAnyIn_ready (rs:=[5]) (by kernel_rfl) (by simp) ?_;refine AllReadyIn.cons (o:=_) rfl (fun K hK=>?_) AllReadyIn.nil;have HKK:=lhd hK;clear hK;go_simp;have HP6:=lhd (zeJ (x':=.int .i64 bo) (y':=.int .i64 bl) (z':=.int .i64 bc) HP5.out);have HC6:=lhd (zeH (x':=.int .i64 bo) (y':=.int .i64 bl) (z':=.int .i64 bc) hBs HC5.out);have HJ6:=lhd (HJ.out _ _ _ HJ3.out (HT5.out.trans (zn0 (x':=.int .i64 bo) (y':=.int .i64 bl) (z':=.int .i64 bc) HP5.out hB)));have HPL:=HS1;clear y1 y2 y3 f1 f2 f3 z0 z1 z2 z3;refine HKK.out _ _ ?_;clear HKK;try simp only[tkS]
     refine wpAnyIn_done (by kernel_rfl) ?_ _;gi_wp2
     go_roundw;case rel=>exact⟨k+1,hlt,by go_num,HJ6.out,by rw[HPL.out];exact HP6.out,HC6.out⟩
     case measure=>simp[intOf];omega
    ·go_simp;refine HKK.out _ _ ?_;clear HKK;try simp only[tkS]
     refine wpAnyIn_take (i:=3) (v:=?_) hro rfl (by kernel_rfl) (by kernel_rfl) (by kernel_rfl) (fun _ _ _ h=>h) ⟨Or.inl ⟨by rfl,?_⟩,?_⟩ ?_;rotate_left
     ·intro w;go_simp;all_goals with_reducible rfl
     ·intro w;rfl
     simp only[tkS];refine wpAnyIn_ready (rs:=[0]) (by kernel_rfl) (by simp) ?_;refine AllReadyIn.cons (o:=_) rfl (fun K hK=>?_) AllReadyIn.nil;have HKK:=lhd hK;clear hK;go_simp;refine HKK.out _ _ ?_;clear HKK;try simp only[tkS]
     refine wpAnyIn_ready (rs:=[4]) (by kernel_rfl) (by simp) ?_;refine AllReadyIn.cons (o:=_) rfl (fun K hK=>?_) AllReadyIn.nil;have HKK:=lhd hK;clear hK;go_simp;refine⟨trivial,(callsIn_wide.2 HBH.out).mono ?_⟩;rintro e W5 ⟨rfl,hb5'⟩;have hb5:=za6 hb5';have HP5:=lhd (za8 HP3.out hb5);have HC5:=lhd (za8 HC3.out hb5);have HT5:=lhd (TurnJ.below (T:=113) (Nat.le_trans hB (Nat.le_of_lt (zbA z1))) hb5);generalize hbp:behP (↑k,pl,pc) c=bp at*;obtain⟨bo,bl,bc⟩:=bp;have y1:=(zjf HP5.out).cell (j:=0) rfl;have y2:=(zjf HP5.out).cell (j:=1) rfl;have y3:=(zjf HP5.out).cell (j:=2) rfl;have f1:=(zjf HP5.out).free (j:=0) (by simp);have f2:=(zjf HP5.out).free (j:=1) (by simp);have f3:=(zjf HP5.out).free (j:=2) (by simp);clear hb5 hb5' hbp;refine HKK.out _ _ ?_;clear HKK;try simp only[tkS]
     refine wpAnyIn_ready (rs:=[5]) (by kernel_rfl) (by simp) ?_;refine AllReadyIn.cons (o:=_) rfl (fun K hK=>?_) AllReadyIn.nil;have HKK:=lhd hK;clear hK;go_simp;have HP6:=lhd (zeJ (x':=.int .i64 bo) (y':=.int .i64 bl) (z':=.int .i64 bc) HP5.out);have HC6:=lhd (zeH (x':=.int .i64 bo) (y':=.int .i64 bl) (z':=.int .i64 bc) hBs HC5.out);have HJ6:=lhd (HJ.out _ _ _ HJ3.out (HT5.out.trans (zn0 (x':=.int .i64 bo) (y':=.int .i64 bl) (z':=.int .i64 bc) HP5.out hB)));have HPL:=HS1;clear y1 y2 y3 f1 f2 f3 z0 z1 z2 z3;refine HKK.out _ _ ?_;clear HKK;try simp only[tkS]
     refine wpAnyIn_done (by kernel_rfl) ?_ _;gi_wp2
     go_roundw;case rel=>exact⟨k+1,hlt,by go_num,HJ6.out,by rw[HPL.out];exact HP6.out,HC6.out⟩
     case measure=>simp[intOf];omega
   ·go_simp;refine HKK.out _ _ ?_;clear HKK;try simp only[tkS]
    refine wpAnyIn_take (i:=4) (v:=?_) hro rfl (by kernel_rfl) (by kernel_rfl) (by kernel_rfl) (fun _ _ _ h=>h) ⟨Or.inl ⟨by rfl,?_⟩,?_⟩ ?_;rotate_left
    ·intro w;go_simp;all_goals with_reducible rfl
    ·intro w;rfl
    simp only[tkS];refine wpAnyIn_ready (rs:=[1]) (by kernel_rfl) (by simp) ?_;refine AllReadyIn.cons (o:=_) rfl (fun K hK=>?_) AllReadyIn.nil;have HKK:=lhd hK;clear hK;go_simp;refine HKK.out _ _ ?_;clear HKK;try simp only[tkS]
    refine wpAnyIn_take (i:=5) (v:=?_) hro rfl (by kernel_rfl) (by kernel_rfl) (by kernel_rfl) (fun _ _ _ h=>h) ⟨Or.inl ⟨by rfl,?_⟩,?_⟩ ?_;rotate_left
    ·intro w;go_simp;all_goals with_reducible rfl
    ·intro w;rfl
    simp only[tkS];refine wpAnyIn_ready (rs:=[6]) (by kernel_rfl) (by simp) ?_;refine AllReadyIn.cons (o:=_) rfl (fun K hK=>?_) AllReadyIn.nil;have HKK:=lhd hK;clear hK;go_simp;refine HR.out.mono ?_;rintro e W3 ⟨rfl,hj3,hk3⟩;have HJ3:=lhd hj3;have HK3:=lhd hk3;clear hj3 hk3;refine HKK.out _ _ ?_;clear HKK;try simp only[tkS]
    refine wpAnyIn_take (i:=7) (v:=?_) hro rfl (by kernel_rfl) (by kernel_rfl) (by kernel_rfl) (fun _ _ _ h=>h) ⟨Or.inl ⟨by rfl,?_⟩,?_⟩ ?_;rotate_left
    ·intro w;go_simp;all_goals with_reducible rfl
    ·intro w;rfl
    simp only[tkS];refine wpAnyIn_done (by kernel_rfl) ?_ _;have HP3:=lhd (HK3.out _ _ _ _ (.inl rfl) HP.out);have HC3:=lhd (HK3.out _ _ _ _ (.inr rfl) HC.out);have z0:=HCL.out _ HC3.out;have z1:=(zjf HP3.out).cell (j:=0) rfl;have z2:=(zjf HP3.out).cell (j:=1) rfl;have z3:=(zjf HP3.out).cell (j:=2) rfl;clear q0 q1 q2 x0;gi_wp2
    refine wpIn_region_any hmx ?_;have HBH:=lhd (zgI (k:Int) pl pc c W3.drew ⟨by omega,by omega⟩ ⟨by omega,by omega⟩ ⟨by omega,by omega⟩);refine wpAnyIn_take (i:=2) (v:=?_) hro rfl (by kernel_rfl) (by kernel_rfl) (by kernel_rfl) (fun _ _ _ h=>h) ⟨Or.inl ⟨by rfl,?_⟩,?_⟩ ?_;rotate_left
    ·intro w;go_simp;all_goals with_reducible rfl
    ·intro w;rfl
    simp only[tkS];refine wpAnyIn_ready (rs:=[0,1]) (by kernel_rfl) (by simp) ?_;refine AllReadyIn.cons (o:=_) rfl (fun K hK=>?_) (AllReadyIn.cons (o:=_) rfl (fun K hK=>?_) AllReadyIn.nil)<;>(have HKK:=lhd hK;clear hK)
    ·go_simp;refine HKK.out _ _ ?_;clear HKK;try simp only[tkS]
     refine wpAnyIn_ready (rs:=[1]) (by kernel_rfl) (by simp) ?_;refine AllReadyIn.cons (o:=_) rfl (fun K hK=>?_) AllReadyIn.nil;have HKK:=lhd hK;clear hK;go_simp;refine HKK.out _ _ ?_;clear HKK;try simp only[tkS]
     refine wpAnyIn_take (i:=3) (v:=?_) hro rfl (by kernel_rfl) (by kernel_rfl) (by kernel_rfl) (fun _ _ _ h=>h) ⟨Or.inl ⟨by rfl,?_⟩,?_⟩ ?_;rotate_left
     ·intro w;go_simp;all_goals with_reducible rfl
     ·intro w;rfl
     simp only[tkS];refine wpAnyIn_ready (rs:=[4]) (by kernel_rfl) (by simp) ?_;refine AllReadyIn.cons (o:=_) rfl (fun K hK=>?_) AllReadyIn.nil;have HKK:=lhd hK;clear hK;go_simp;refine⟨trivial,(callsIn_wide.2 HBH.out).mono ?_⟩;rintro e W5 ⟨rfl,hb5'⟩;have hb5:=za6 hb5';have HP5:=lhd (za8 HP3.out hb5);have HC5:=lhd (za8 HC3.out hb5);have HT5:=lhd (TurnJ.below (T:=113) (Nat.le_trans hB (Nat.le_of_lt (zbA z1))) hb5);generalize hbp:behP (↑k,pl,pc) c=bp at*;obtain⟨bo,bl,bc⟩:=bp;have y1:=(zjf HP5.out).cell (j:=0) rfl;have y2:=(zjf HP5.out).cell (j:=1) rfl;have y3:=(zjf HP5.out).cell (j:=2) rfl;have f1:=(zjf HP5.out).free (j:=0) (by simp);have f2:=(zjf HP5.out).free (j:=1) (by simp);have f3:=(zjf HP5.out).free (j:=2) (by simp);clear hb5 hb5' hbp;refine HKK.out _ _ ?_;clear HKK;try simp only[tkS]
     refine wpAnyIn_ready (rs:=[5]) (by kernel_rfl) (by simp) ?_;refine AllReadyIn.cons (o:=_) rfl (fun K hK=>?_) AllReadyIn.nil;have HKK:=lhd hK;clear hK;go_simp;have HP6:=lhd (zeJ (x':=.int .i64 bo) (y':=.int .i64 bl) (z':=.int .i64 bc) HP5.out);have HC6:=lhd (zeH (x':=.int .i64 bo) (y':=.int .i64 bl) (z':=.int .i64 bc) hBs HC5.out);have HJ6:=lhd (HJ.out _ _ _ HJ3.out (HT5.out.trans (zn0 (x':=.int .i64 bo) (y':=.int .i64 bl) (z':=.int .i64 bc) HP5.out hB)));have HPL:=HS1;clear y1 y2 y3 f1 f2 f3 z0 z1 z2 z3;refine HKK.out _ _ ?_;clear HKK;try simp only[tkS]
     refine wpAnyIn_done (by kernel_rfl) ?_ _;gi_wp2
     go_roundw;case rel=>exact⟨k+1,hlt,by go_num,HJ6.out,by rw[HPL.out];exact HP6.out,HC6.out⟩
     case measure=>simp[intOf];omega
    ·go_simp;refine HKK.out _ _ ?_;clear HKK;try simp only[tkS]
     refine wpAnyIn_take (i:=3) (v:=?_) hro rfl (by kernel_rfl) (by kernel_rfl) (by kernel_rfl) (fun _ _ _ h=>h) ⟨Or.inl ⟨by rfl,?_⟩,?_⟩ ?_;rotate_left
     ·intro w;go_simp;all_goals with_reducible rfl
     ·intro w;rfl
     simp only[tkS];refine wpAnyIn_ready (rs:=[0]) (by kernel_rfl) (by simp) ?_;refine AllReadyIn.cons (o:=_) rfl (fun K hK=>?_) AllReadyIn.nil;have HKK:=lhd hK;clear hK;go_simp;refine HKK.out _ _ ?_;clear HKK;try simp only[tkS]
     refine wpAnyIn_ready (rs:=[4]) (by kernel_rfl) (by simp) ?_;refine AllReadyIn.cons (o:=_) rfl (fun K hK=>?_) AllReadyIn.nil;have HKK:=lhd hK;clear hK;go_simp;refine⟨trivial,(callsIn_wide.2 HBH.out).mono ?_⟩;rintro e W5 ⟨rfl,hb5'⟩;have hb5:=za6 hb5';have HP5:=lhd (za8 HP3.out hb5);have HC5:=lhd (za8 HC3.out hb5);have HT5:=lhd (TurnJ.below (T:=113) (Nat.le_trans hB (Nat.le_of_lt (zbA z1))) hb5);generalize hbp:behP (↑k,pl,pc) c=bp at*;obtain⟨bo,bl,bc⟩:=bp;have y1:=(zjf HP5.out).cell (j:=0) rfl;have y2:=(zjf HP5.out).cell (j:=1) rfl;have y3:=(zjf HP5.out).cell (j:=2) rfl;have f1:=(zjf HP5.out).free (j:=0) (by simp);have f2:=(zjf HP5.out).free (j:=1) (by simp);have f3:=(zjf HP5.out).free (j:=2) (by simp);clear hb5 hb5' hbp;refine HKK.out _ _ ?_;clear HKK;try simp only[tkS]
     refine wpAnyIn_ready (rs:=[5]) (by kernel_rfl) (by simp) ?_;refine AllReadyIn.cons (o:=_) rfl (fun K hK=>?_) AllReadyIn.nil;have HKK:=lhd hK;clear hK;go_simp;have HP6:=lhd (zeJ (x':=.int .i64 bo) (y':=.int .i64 bl) (z':=.int .i64 bc) HP5.out);have HC6:=lhd (zeH (x':=.int .i64 bo) (y':=.int .i64 bl) (z':=.int .i64 bc) hBs HC5.out);have HJ6:=lhd (HJ.out _ _ _ HJ3.out (HT5.out.trans (zn0 (x':=.int .i64 bo) (y':=.int .i64 bl) (z':=.int .i64 bc) HP5.out hB)));have HPL:=HS1;clear y1 y2 y3 f1 f2 f3 z0 z1 z2 z3;refine HKK.out _ _ ?_;clear HKK;try simp only[tkS]
     refine wpAnyIn_done (by kernel_rfl) ?_ _;gi_wp2
     go_roundw;case rel=>exact⟨k+1,hlt,by go_num,HJ6.out,by rw[HPL.out];exact HP6.out,HC6.out⟩
     case measure=>simp[intOf];omega
  ·obtain rfl:k=s.length:=by omega
   have HJK2:=HJK;clear hjk;gi_wp2
   go_end0
   exact⟨⟨_,rfl⟩,HJK2.out⟩
end Go.Proofs.YtcdekelomkcahaaGreatDoor
