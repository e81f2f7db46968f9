import Derived.BigQuiet
import Derived.BigRegion
import Derived.ChangeSame
import Derived.Deep.Cut
import Derived.Deep.CutRange
import Derived.Deep.DeepCutAuto
import Derived.Deep.Fields
import Derived.Deep.LoopGhost
import Derived.Deep.QuietTactic
import Derived.Deep.Slices
import Derived.Laws.AppendOwnNone
import Derived.Laws.EntriesVeiled
import Derived.Lib.AppendIntMem
import Derived.Lib.AppendStr
import Derived.Lib.AppendZeros
import Derived.Lib.IndexAny
import Derived.Lib.IndexBytes
import Derived.Lib.ItoaLen
import Derived.Lib.Join
import Derived.Lib.LazyBuf
import Derived.Lib.SmallJoins
import Derived.Lib.SplitLaws
import Derived.Lib.Strings
import Derived.Maps.AppendAt
import Derived.Maps.OwnIn
import Derived.SizedLaws
import Derived.Test.YtbiadennhnokhaaGreatDoorZ01
import Derived.Test.YtbiadennhnokhaaGreatDoorZ02
import Derived.Test.YtbiadennhnokhaaGreatDoorZ03
import Derived.Test.YtbiadennhnokhaaGreatDoorZ04
set_option maxRecDepth 100000
set_option maxHeartbeats 16000000
namespace Go.Proofs.YtbiadennhnokhaaGreatDoor
open Go.RowKit Go.Maps Go.Sort Go.Shelf
open Go.Joins Go.ChangeShapes Go.WideShapes Go.RowKit Go.Deep
set_option linter.unusedSimpArgs false
theorem znA {w:World} {a:Addr} {v:Value} (h:w.cell? a=some v):a.spot=none:=by
 unfold World.cell? at h;split at h
 ·split at h
  ·cases h
  ·rename_i h1;simpa using h1
 ·cases h
theorem zq6 {H:Type} {P:Program} {e:TypeId}:∀{l:List (DataW H)} {d:DataW H},d∈l→∀n∈d.weights P e,n∈DataW.weightsAll P e l
 |x::r,d,h,n,hn=>by
  unfold DataW.weightsAll;rcases List.mem_cons.1 h with rfl|h
  ·exact List.mem_append.2 (.inl hn)
  ·exact List.mem_append.2 (.inr (zq6 h n hn))
theorem zfa {T:Type} {enc:T→List Value} {k:Nat} (henc:∀x,(enc x).length=k):∀l:List T,(l.flatMap enc).length=k*l.length
 | []=>rfl
 |x::l=>by rw[List.flatMap_cons,List.length_append,henc,zfa henc l,List.length_cons,Nat.mul_add];omega
theorem zhI {T:Type} {enc:T→List Value} {k:Nat} (henc:∀x,(enc x).length=k) {Q:T→Prop} {w:World} {a:Addr}:∀{m:Nat},(∀i,i<m→∃c:T,Q c∧∀(j:Nat) (u:Value),(enc c)[j]? =some u→w.cell? (a.add (i*k+j))=some u)→
 ∃l:List T,l.length=m∧(∀c∈l,Q c)∧∀(j:Nat) (u:Value),(l.flatMap enc)[j]? =some u→w.cell? (a.add j)=some u
 |0,_=>⟨[],rfl,by simp,fun j u h=>by simp at h⟩
 |m+1,h=>by
  obtain⟨l,hl,hq,hc⟩:=zhI henc (m:=m) fun i hi=>h i (by omega);obtain⟨c,h0,h1⟩:=h m (by omega);have hf:=zfa henc l;refine⟨l++ [c],by simp[hl],fun x hx=>?_,fun j u hj=>?_⟩
  ·rcases List.mem_append.1 hx with hx|hx
   ·exact hq x hx
   ·rw[List.mem_singleton]at hx;subst hx;exact h0
  ·rw[List.flatMap_append]at hj;by_cases hlt:j<(l.flatMap enc).length
   ·rw[List.getElem?_append_left hlt]at hj;exact hc j u hj
   ·rw[List.getElem?_append_right (by omega)]at hj;have:=h1 (j-(l.flatMap enc).length) u (by simpa using hj);rwa [show m*k+(j-(l.flatMap enc).length)=j by rw[hf,hl,Nat.mul_comm m k];rw[hf,hl]at hlt;omega]at this
section
variable {H : Type} {enc : TypeId × Value → H} {P : Program} {w : World} {base : Nat} {spare : Nat → Bool} {held : Bool}
theorem zjN {T:Type} {encT:T→List Value} {k:Nat} (henc:∀x,(encT x).length=k) (hk0:0<k) {Q:T→Prop} {t e:TypeId} (ht:P.underlying t=some (.slice e)) (hk:P.cellsOf e=k)
 (hel:∀(n:Nat) (cs':List Value) (y:DataW H×List MemPlace),cs'.length=k→DataW.trod enc P w base spare held n e cs'=some y→(∀m∈y.1.weights P e,m≤reachBytes)→∃c:T,cs'=encT c∧Q c)
 {fuel:Nat} {cs:List Value} {x:DataW H×List MemPlace} (h:DataW.trod enc P w base spare held fuel t cs=some x) (hz:∀m∈x.1.weights P t,m≤reachBytes):
 ∃(v:Value) (l:List T),cs=[v]∧SlR w v l.length (l.flatMap encT)∧∀c∈l,Q c:=by
 rcases open_slice ht h with⟨rfl,-⟩|⟨a,len,cap,m,n,D,Pl,rfl,hb,hl,hm,hmm,rfl,hi⟩
 ·exact⟨_,[],rfl,SlR.nil _,by simp⟩
 ·have hlm:len≤m:=by rw[hmm];split<;>omega
  obtain⟨l,hll,hq,hc⟩:=zhI henc (Q:=Q) (w:=w) (a:=a) (m:=len) fun i him=>by
   obtain⟨cs',hcs,htr⟩:=hi i (by omega);rw[hk]at hcs;obtain⟨-,hcl,hat⟩:=World.cells?_some hcs
   obtain⟨c,rfl,hqc⟩:=hel n cs' _ hcl htr fun q hq=>hz q (by
    unfold DataW.weights;rw[ht];refine List.mem_cons_of_mem _ (List.mem_append.2 (.inl (zq6 (d:=D i) ?_ q hq)));exact List.mem_map.2 ⟨i,List.mem_range.2 him,rfl⟩)
   refine⟨c,hqc,fun j u hj=>?_⟩;have hjk:j<k:=by have:=(List.getElem?_eq_some_iff.1 hj).1;rwa [hcl]at this
   rw[←Go.Deep.add_add,hat j hjk,hj]
  subst hll;refine⟨_,l,rfl,⟨some a,cap,rfl,hl,hm,fun h=>by simp at h,fun hn=>?_⟩,hq⟩;have hpos:0<(l.flatMap encT).length:=by rw[zfa henc];exact Nat.mul_pos hk0 (by omega)
  have hsp:a.spot=none:=by
   have h0:=hc 0 _ (List.getElem?_eq_getElem hpos);have:=znA h0;simpa[Addr.add] using this
  obtain⟨b,o,sp⟩:=a;simp only at hsp;subst hsp;exact⟨b,o,rfl,fun j u hj=>by have:=hc j u hj;rwa [zaJ]at this⟩
theorem fld {t:TypeId} {fs:Array Field} {n:Nat} {cs:List Value} {y:DataW H×List MemPlace} (hu:P.underlying t=some (.struct fs)) (h:DataW.trod enc P w base spare held n t cs=some y) (hz:∀m∈y.1.weights P t,m≤reachBytes)
 (i:Nat) {f:Field} (hi:fs[i]? =some f) {k o:Nat} (hk:P.cellsOf f.type=k) (ho:f.offset=o):∃(n':Nat) (z:DataW H×List MemPlace),DataW.trod enc P w base spare held n' f.type ((cs.drop o).take k)=some z∧∀m∈z.1.weights P f.type,m≤reachBytes:=by
 obtain⟨xs,n',-,rfl,-,hxl,hf⟩:=DataW.trod_struct hu h;have hlt:i<xs.length:=by rw[hxl];exact(Array.getElem?_eq_some_iff.1 hi).1
 have h1:=hf i f hi;rw[hk,ho,List.getElem?_eq_getElem hlt]at h1;refine⟨n',xs[i],h1,fun m hm=>hz m ?_⟩;unfold DataW.weights;rw[hu];refine DataW.weights_mem_each (j:=i) (t:=f.type) (d:=xs[i].1) ?_ ?_ m hm
 ·rw[List.getElem?_map,Array.getElem?_toList,hi];rfl
 ·rw[List.getElem?_map,List.getElem?_eq_getElem hlt];rfl
end
section
variable {H : Type} {enc : TypeId × Value → H} {w : World} {base : Nat} {spare : Nat → Bool} {held : Bool} {n : Nat} {v : Value} {z : DataW H × List MemPlace}
theorem zhE (h:DataW.trod enc Tryz.prog w base spare held n 4 [v]=some z):∃x:Bool,v=.bool x:=by
 obtain⟨x,e,-⟩:=DataW.trod_bool Tryz.underlying4 h;injection e with e;exact⟨x,e⟩
theorem zhG (h:DataW.trod enc Tryz.prog w base spare held n 9 [v]=some z) (hz:∀m∈z.1.weights Tryz.prog 9,m≤reachBytes):∃x:Bs,v=.string (bsB x)∧x.length≤140737488351232:=by
 obtain⟨x,e,rfl,-⟩:=DataW.trod_string Tryz.underlying9 h;injection e with e;refine⟨x.data.toList,by rw[zb0];exact e,?_⟩;exact hz _ (by unfold DataW.weights;exact List.mem_singleton.2 rfl)
end
end Go.Proofs.YtbiadennhnokhaaGreatDoor
