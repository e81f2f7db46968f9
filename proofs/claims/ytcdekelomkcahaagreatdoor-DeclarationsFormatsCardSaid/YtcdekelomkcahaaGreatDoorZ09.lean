import Derived.Test.YtcdekelomkcahaaGreatDoorZ01
import Derived.Test.YtcdekelomkcahaaGreatDoorZ02
set_option maxRecDepth 100000
set_option maxHeartbeats 16000000
namespace Go.Proofs.YtcdekelomkcahaaGreatDoor
open Go.RowKit
def allR (n:Int) (c:UInt8):ByteArray:=if n<1∨128<n∨zb0 c= -1 then⟨#[]⟩else⟨(List.replicate n.toNat c).toArray⟩
theorem zrC (P:Program) (w:World) (src dst e:TypeId) (c:UInt8) (hs:P.underlying src=some (.slice e)) (he:P.underlying e=some (.int .u8)) (hd:P.underlying dst=some .string):
 (convert src dst (.slice (some ⟨w.heap.size,0,none⟩) 1 1)).run P (w.alloc (.cells #[.int .u8 c.toNat] e))=.ok (.string ⟨#[c]⟩) (w.alloc (.cells #[.int .u8 c.toNat] e)):=by
 have:=run_convert_bytes_back (P:=P) (w.alloc (.cells #[.int .u8 c.toNat] e)) src dst e ⟨w.heap.size,0,none⟩ 1 [c] hs he hd (fun j hj=>by
  simp at hj;subst hj;rw[zaD,World.cell?_alloc_mark];rfl)
 exact this
def zfI (c:UInt8):Bool:=decide (48≤c.toNat)&&decide (c.toNat≤57)
def zdc (s:ByteArray) (k:Nat):Nat:=((s.data.toList.drop k).takeWhile zfI).length
theorem zeC {w w':World} {B:Nat} (h:w.grownBy w' (some B)) (o:Nat) (v:Value):w.grownBy (w'.setCell ⟨B,o,none⟩ v) (some B):=
 ⟨h.os,h.tape,h.output,by simpa[World.setCell] using h.size,fun i hi hne=>(Below.heap_setCell w' _ v i (by rintro rfl;exact hne rfl)).trans (h.block i hi hne)⟩
def bys (l:List UInt8):List Value:=l.map zbq
theorem SlR.tail {w:World} {b o n cap:Nat} {x:Value} {xs:List Value} (hn:n+1≤cap) (hm:cap≤maxLen) (hc:∀j u,(x::xs)[j]? =some u→w.cell? ⟨b,o+j,none⟩=some u) (a:Option Addr) (ha:0<n→a=some ⟨b,o+1,none⟩) (ha':a=none→False):
 SlR w (.slice a n (cap-1)) n xs:=
 ⟨a,cap-1,rfl,by omega,by omega,fun h=>(ha' h).elim,fun h=>⟨b,o+1,ha h,fun j u hj=>by have:=hc (j+1) u (by simpa using hj);rwa [show o+(j+1)=o+1+j by omega]at this⟩⟩
def znP (c:UInt8) (l:List UInt8):List UInt8:=(l.reverse.dropWhile (· ==c)).reverse
abbrev Num:=Bool×List UInt8×Int
def zik (n:Num):Num:=
 let d1:=n.2.1.dropWhile (· ==48)
 let d2:=znP 48 d1
 if d2=[]then(false,[],0)else(n.1,d2,n.2.2+((d1.length:Int)-d2.length))
def zij (n:Num):List UInt8×Int:=
 if n.2.1=[]then([48],0)else
 if 17<n.2.1.length∨n.2.2+n.2.1.length-1< -400∨400<n.2.2+n.2.1.length-1 then([],9)else
 ((if n.1 then [45]else [])++(n.2.1.take 1++((if 1<n.2.1.length then [46]++n.2.1.drop 1 else [])++([101]++Lib.itoa (n.2.2+n.2.1.length-1)))),0)
def Glob (w:World):Prop:=Lib.TabIs Tryz.prog w "internal/strconv.uint64pow10" .u64 Lib.pow10Tab
theorem zeA:Tryz.prog.globalNamed "internal/strconv.uint64pow10" =some 1:=by kernel_rfl
theorem Glob.below {w w':World} (h:Glob w) (hb:Below w.heap.size w w'):Glob w':=by
 unfold Glob Lib.TabIs World.var? at*;simp only[zeA,Option.bind_some]at*
 have hlt:1<w.heap.size:=by
  rcases Nat.lt_or_ge 1 w.heap.size with h'|h'
  ·exact h'
  ·rw[Array.getElem?_eq_none h']at h;simp at h
 rw[hb.block _ hlt];exact h
structure ScanSt (w0 w:World) (s:ByteArray) (k:Nat) (neg:Bool) (dv:Value) (ds:List UInt8) (ex:Int):Prop where
 below:Below w0.heap.size w0 w
 size:w0.heap.size+4≤w.heap.size
 str:w.cell? ⟨w0.heap.size,0,none⟩=some (.string s)
 res:zaq w (w0.heap.size+1) [.bool false,.slice none 0 0,.int .i64 0]
 num:zaq w (w0.heap.size+2) [.bool neg,dv,.int .i64 ex]
 at_:zaq w (w0.heap.size+3) [.int .i64 k]
 own:w.ownsRow (w0.heap.size+4) 5 1 dv ds.length (bys ds)
theorem zaq.grown {w w':World} {b:Nat} {xs:List Value} {row:Option Nat} (h:zaq w b xs) (hg:w.grownBy w' row) (hb:b<w.heap.size) (hne:some b≠row):zaq w' b xs:=
 fun j v hj=>⟨(World.cell?_of_block (w:=w) (hg.block b hb hne)).trans (h j v hj).1,(World.frozen?_of_block (w:=w) (hg.block b hb hne)).trans (h j v hj).2⟩
theorem ScanSt.drewN {w0 w:World} {s:ByteArray} {k:Nat} {neg:Bool} {dv:Value} {ds:List UInt8} {ex:Int} (h:ScanSt w0 w s k neg dv ds ex) (n:Nat):ScanSt w0 (w.drewN n) s k neg dv ds ex:=
 ⟨⟨h.below.os,h.below.tape,h.below.output,h.below.size,h.below.block⟩,h.size,h.str,h.res,h.num,h.at_,h.own⟩
def ziC (set:List UInt8) (s:ByteArray) (k:Nat):Bool:=match s.data.toList[k]? with|some c=>set.contains c|none=>false
theorem ScanSt.app {w0 w w':World} {s:ByteArray} {k:Nat} {neg:Bool} {dv v':Value} {ds x:List UInt8} {ex:Int} (h:ScanSt w0 w s k neg dv ds ex)
 (hg:w.grownBy w' dv.ownBlock) {n:Nat} {xs:List Value} (ho:w'.ownsRow (w0.heap.size+4) 5 1 v' n xs) (hn:n=(ds++x).length) (hx:xs=bys (ds++x)):
 zaq w' (w0.heap.size+2) [.bool neg,dv,.int .i64 ex]∧ScanSt w0 (w'.setCell ⟨w0.heap.size+2,1,none⟩ v') s k neg v' (ds++x) ex:=by
 subst hn hx;have hsz:=h.size;have hlt:=h.own.lt
 have hne:∀b,b<w0.heap.size+4→some b≠dv.ownBlock:=fun b hb e=>by
  have:=hlt b e.symm;omega
 have hnum:=h.num.grown hg (by omega) (hne _ (by omega));have hg2:w'.grownBy (w'.setCell ⟨w0.heap.size+2,1,none⟩ v') (some (w0.heap.size+2)):=zeC (World.grownBy.refl _ _) _ _;have hsz':=hg.size;refine⟨hnum,(h.below.grown hg (by omega) (fun k hk=>by have:=hlt k hk;omega)).setCell (by simp) _,by simp[World.setCell];omega,?_,?_,?_,?_,ho.kept hg2 ?_⟩
 ·exact(World.cell?_of_block (w:=w') (hg2.block w0.heap.size (by omega) (by simp))).trans ((World.cell?_of_block (w:=w) (hg.block w0.heap.size (by omega) (hne _ (by omega)))).trans h.str)
 ·exact(h.res.grown hg (by omega) (hne _ (by omega))).grown hg2 (by omega) (by simp)
 ·exact hnum.set (j:=1) (by simp) v'
 ·exact(h.at_.grown hg (by omega) (hne _ (by omega))).grown hg2 (by omega) (by simp)
 ·right
  intro e;have:=ho.lt _ e;omega
theorem ScanSt.alloc {w0 w:World} {s:ByteArray} {k:Nat} {neg:Bool} {dv:Value} {ds:List UInt8} {ex:Int} (h:ScanSt w0 w s k neg dv ds ex) (o:Obj):ScanSt w0 (w.alloc o) s k neg dv ds ex:=by
 have hsz:=h.size;exact⟨h.below.alloc (by omega) _,by simp;omega,zbz h.str _,h.res.alloc (by omega) _,h.num.alloc (by omega) _,h.at_.alloc (by omega) _,h.own.alloc _⟩
theorem zd4 (s:ByteArray) (k:Nat):s.extract k s.size=bsB (s.data.toList.drop k):=by
 rw[←zbj (s.extract k s.size),Lib.extract_data,List.take_of_length_le (by simp)]
theorem za6 {w W:World} (h:Below w.drew.heap.size w.drew W):Below w.heap.size w W:=⟨h.os,h.tape,h.output,h.size,h.block⟩
def zae (s:ByteArray) (w:World) (e:Ending) (w':World):Prop:=
 (∃(a:Int) (b:ByteArray) (ok:Bool),e=.returned (.tuple #[.int .u8 a,.string b,.bool ok])∧(match unqF s.data.toList with|some (c,r)=>a=(c.toNat:Int)∧b=bsB r∧ok=true|none=>ok=false))∧Below w.heap.size w w'
theorem zae.none {s:ByteArray} {w w':World} {a:Int} {b:ByteArray} (h:unqF s.data.toList=none) (hb:Below w.heap.size w w'):zae s w (.returned (.tuple #[.int .u8 a,.string b,.bool false])) w':=⟨⟨a,b,false,rfl,by rw[h]⟩,hb⟩
theorem zae.some {s:ByteArray} {w w':World} {c:UInt8} {r:Bs} (h:unqF s.data.toList=some (c,r)) (hb:Below w.heap.size w w'):zae s w (.returned (.tuple #[.int .u8 (c.toNat:Int),.string (bsB r),.bool true])) w':=⟨⟨_,_,true,rfl,by rw[h];exact⟨rfl,rfl,rfl⟩⟩,hb⟩
end Go.Proofs.YtcdekelomkcahaaGreatDoor
