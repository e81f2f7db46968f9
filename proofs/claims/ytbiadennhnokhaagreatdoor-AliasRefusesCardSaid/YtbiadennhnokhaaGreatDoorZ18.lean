import Derived.ChangeSame
import Derived.Deep.AppendLies
import Derived.Deep.Fields
import Derived.Deep.Slices
import Derived.Laws.AppendOwnNone
import Derived.Lib.AppendZeros
import Derived.Lib.LazyBuf
import Derived.Lib.SmallJoins
import Derived.Sort.OwnSortedInts
import Derived.Test.YtbiadennhnokhaaGreatDoorZ15
set_option maxRecDepth 100000
set_option maxHeartbeats 16000000
namespace Go.Proofs.YtbiadennhnokhaaGreatDoor
open Go.RowKit
theorem all_takeWhile {α:Type} (p:α→Bool):∀(l:List α) (x:α),x∈l.take (l.takeWhile p).length→p x=true
 | [],x,h=>by simp at h
 |a::l,x,h=>by
  by_cases ha:p a=true
  ·rw[List.takeWhile_cons_of_pos ha,List.length_cons,List.take_succ_cons]at h;rcases List.mem_cons.1 h with h|h
   ·rw[h];exact ha
   ·exact all_takeWhile p l x h
  ·rw[List.takeWhile_cons_of_neg ha]at h;simp at h
open Go.Joins Go.ChangeShapes Go.WideShapes Go.RowKit Go.Deep
section
variable {H : Type} {enc : TypeId × Value → H} {P : Program} {w : World} {base : Nat} {spare : Nat → Bool} {held : Bool}
theorem ztf {t e:TypeId} {fs:Array Field} {fuel:Nat} {cs:List Value} {x:DataW H×List MemPlace} (ht:P.underlying t=some (.slice e)) (he:P.underlying e=some (.struct fs))
 (hone:oneCellFields P fs=true) (hC:P.cellsOf e=fs.size) (h:DataW.trod enc P w base spare held fuel t cs=some x):
 (cs=[.slice none 0 0]∧x=(.nil,[]))∨
 ∃(a:Addr) (len cap m:Nat) (D:Nat→DataW H) (Pl:Nat→List MemPlace),cs=[.slice (some a) len cap]∧base≤a.block∧len≤cap∧cap≤maxLen∧m=(if spare a.block then cap else len)∧
  x=(.slice ((List.range len).map D) ((List.range (m-len)).map fun j=>D (len+j)),MemPlace.row a (m*fs.size)++(List.range m).flatMap Pl)∧
  ∀i,i<m→∃(ys:List (DataW H×List MemPlace)) (n:Nat),D i=.agg (ys.map (·.1))∧Pl i=ys.flatMap (·.2)∧ys.length=fs.size∧
   ∀(j:Nat) (f:Field),fs[j]? =some f→∃(v:Value) (y:DataW H×List MemPlace),w.cell? (a.add (i*fs.size+j))=some v∧ys[j]? =some y∧DataW.trod enc P w base spare held n f.type [v]=some y:=by
 rcases open_slice ht h with h0|⟨a,len,cap,m,n,D,Pl,hcs,hb,hl,hm,hmm,hx,hi⟩
 ·exact .inl h0
 ·refine .inr ⟨a,len,cap,m,D,Pl,hcs,hb,hl,hm,hmm,by rw[hC]at hx;exact hx,fun i him=>?_⟩;obtain⟨cs',hc,ht'⟩:=hi i him;rw[hC]at hc;obtain⟨ys,n',hn',hy,hlen,hyl,hf⟩:=DataW.trod_struct he ht';obtain⟨_,hcl,hat⟩:=World.cells?_some hc;simp only[Prod.mk.injEq]at hy;refine⟨ys,n',hy.1,hy.2,hyl,fun j f hj=>?_⟩;obtain⟨ho,hk⟩:=hone_of hone j f hj;have hjl:j<fs.size:=(Array.getElem?_eq_some_iff.1 hj).1;have hcell:=hat j hjl;have hv:cs'[j]? =some (cs'[j]'(by omega)):=List.getElem?_eq_getElem (by omega);have h1:=hf j f hj;rw[ho,hk]at h1
  have hone':(cs'.drop j).take 1=[cs'[j]'(by omega)]:=by
   rw[List.drop_eq_getElem_cons (by omega)];rfl
  rw[hone']at h1;have hys:ys[j]? =some (ys[j]'(by omega)):=List.getElem?_eq_getElem (by omega);refine⟨_,_,?_,hys,h1.trans hys⟩;rw[←Go.Deep.add_add,hcell,hv]
end
theorem zuj {w:World} {a:Addr} {v:Value} (h:w.cell? a=some v):a.spot=none:=by
 unfold World.cell? at h;split at h
 ·split at h
  ·cases h
  ·rename_i h1;simpa using h1
 ·cases h
theorem zs3 {w:World} {a:Addr}:∀{m:Nat},(∀i,i<m→∃c:Ch,w.cell? (a.add (i*2))=some (.int .i64 c.1)∧w.cell? (a.add (i*2+1))=some (.string c.2))→
 ∃l:List Ch,l.length=m∧∀j u,(chs l)[j]? =some u→w.cell? (a.add j)=some u
 |0,_=>⟨[],rfl,fun j u h=>by simp[chs]at h⟩
 |m+1,h=>by
  obtain⟨l,hl,hc⟩:=zs3 (m:=m) fun i hi=>h i (by omega);obtain⟨c,h0,h1⟩:=h m (by omega);refine⟨l++ [c],by simp[hl],fun j u hj=>?_⟩;rw[zck]at hj;by_cases hlt:j<(chs l).length
  ·rw[List.getElem?_append_left hlt]at hj;exact hc j u hj
  ·rw[List.getElem?_append_right (by omega)]at hj;have hcl:=zco l;have hj2:(encC c)[j-(chs l).length]? =some u:=by simpa[chs] using hj
   have hjl:=(List.getElem?_eq_some_iff.1 hj2).1;simp[encC]at hjl;rcases Nat.lt_or_ge (j-(chs l).length) 1 with h2|h2
   ·obtain rfl:j=m*2:=by omega
    rw[show m*2-(chs l).length=0 by omega]at hj2;obtain rfl:=Option.some.inj hj2;exact h0
   ·obtain rfl:j=m*2+1:=by omega
    rw[show m*2+1-(chs l).length=1 by omega]at hj2;obtain rfl:=Option.some.inj hj2;exact h1
theorem ztc {H:Type} {enc:TypeId×Value→H} {w:World} {base:Nat} {spare:Nat→Bool} {held:Bool} {fuel:Nat} {cs:List Value} {x:DataW H×List MemPlace}
 (h:DataW.trod enc Tryz.prog w base spare held fuel 43 cs=some x):∃(v:Value) (l:List Ch),cs=[v]∧SlR w v l.length (chs l):=by
 rcases ztf Tryz.underlying43 Tryz.underlying53 (by kernel_rfl) (by kernel_rfl) h with⟨rfl,-⟩|⟨a,len,cap,m,D,Pl,rfl,hb,hl,hm,hmm,-,hi⟩
 ·exact⟨_,[],rfl,SlR.nil _⟩
 ·have hlm:len≤m:=by rw[hmm];split<;>omega
  obtain⟨l,hll,hc⟩:=zs3 (w:=w) (a:=a) (m:=len) fun i him=>by
   obtain⟨ys,n,-,-,-,hf⟩:=hi i (by omega);obtain⟨v0,y0,hc0,-,ht0⟩:=hf 0 _ rfl;obtain⟨v1,y1,hc1,-,ht1⟩:=hf 1 _ rfl;obtain⟨k,e0,-,-⟩:=DataW.trod_int Tryz.underlying3 ht0;obtain⟨s,e1,-,-⟩:=DataW.trod_string Tryz.underlying9 ht1;simp only[List.cons.injEq,and_true]at e0 e1;subst e0 e1;exact⟨(k,s),hc0,hc1⟩
  subst hll;refine⟨_,l,rfl,some a,cap,rfl,hl,hm,fun h=>by simp at h,fun hn=>?_⟩
  have hsp:a.spot=none:=by
   have h0:=hc 0 _ (zcl l 0 hn).1;have:=zuj h0;simpa[Addr.add] using this
  obtain⟨b,o,sp⟩:=a;simp only at hsp;subst hsp;exact⟨b,o,rfl,fun j u hj=>by have:=hc j u hj;rwa [zaF]at this⟩
open Go.RowKit Go.Sort
def zsQ (l:List Int):List Value:=l.map (Value.int .i64)
theorem zsP:(Tryz.prog.info? 3).map (fun i=>(i.zero,i.size,i.bytes))=some (some (.int .i64 0),1,8):=by kernel_rfl
def zq8 (w:World) (vs:List (Value×List Ch)):Prop:=∀x∈vs,SlR w x.1 x.2.length (chs x.2)∧x.2.length≤5000∧∀c∈x.2,0≤c.1∧c.1≤1099511627776
theorem zq8.below {w w':World} {vs:List (Value×List Ch)} (h:zq8 w vs) (hb:Below w.heap.size w w'):zq8 w' vs:=fun x hx=>⟨(h x hx).1.below hb,(h x hx).2⟩
end Go.Proofs.YtbiadennhnokhaaGreatDoor
