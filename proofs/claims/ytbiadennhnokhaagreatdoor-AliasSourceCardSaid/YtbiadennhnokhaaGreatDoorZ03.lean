import Derived.Deep.AppendLies
import Derived.Deep.RegionHeld
import Derived.Deep.RegionHeld3
import Derived.DeepKeys4
import Derived.Ground.Names2Prog
import Derived.Ground.SlgnProg
import Derived.Laws.OwnMore
import Derived.Laws.RangeAny
import Derived.Laws.Runes
import Derived.Laws.Strings
import Derived.Lib.Hide
import Derived.Lib.OwnBridge
import Derived.LoopIn
import Derived.LoopNIn
import Derived.Maps.OwnSet
import Derived.OneCell
import Derived.OrdersHeld
import Derived.OrdersIn
import Derived.OwnWalkIn
import Derived.RangeFuncBound
import Derived.RangeFuncCalls
import Derived.RangeFuncLeaves
import Derived.RangeFuncNested
import Derived.RegionTactic
import Derived.Shelf.Abstract
import Derived.Shelf.Bits.Mul64
import Derived.Shelf.LaysM
import Derived.Shelf.RegionOpen
import Derived.Shelf.Slices.Cells
import Derived.Shelf.Slices.In.SortNone
import Derived.Shelf.Slices.ReverseS
import Derived.Shelf.Slices.SearchI
import Derived.Shelf.Slices.Turned
import Derived.Shelf.SlicesE.Reverse
import Derived.Shelf.Small.Bits
import Derived.Shelf.Small.Strs
import Derived.Shelf.Small.Utf8
import Derived.Shelf.Small.Wraps
import Derived.Shelf.Sort.Plain
import Derived.Shelf.Strconv.Itoa0
import Derived.Shelf.Strconv.Itoa1
import Derived.Shelf.Strconv.Itoa2
import Derived.Shelf.Strconv.Itoa3
import Derived.Shelf.Strings.AsciiSet
import Derived.Shelf.Strings.Builder1
import Derived.Shelf.Strings.Builder2
import Derived.Shelf.Strings.Builder2Cap
import Derived.Shelf.Strings.BuilderCap
import Derived.Shelf.Strings.BuilderF
import Derived.Shelf.Strings.BuilderK
import Derived.Shelf.Strings.Count
import Derived.Shelf.Strings.Explode
import Derived.Shelf.Strings.IndexAny
import Derived.Shelf.Strings.IndexAnyAll
import Derived.Shelf.Strings.OnBuilder
import Derived.Shelf.Strings.Prefix
import Derived.Shelf.Strings.Repeat
import Derived.Shelf.Strings.RuneCount
import Derived.Shelf.Strings.Runes
import Derived.Shelf.Strings.Search1
import Derived.Shelf.Strings.Search2
import Derived.Shelf.Strings.Search3
import Derived.Shelf.Strings.Shaped
import Derived.Shelf.Strings.Split
import Derived.Shelf.Strings.SplitShaped
import Derived.Shelf.Unicode.Decode
import Derived.Shelf.Unicode.DecodeAny
import Derived.Shelf.Unicode.DecodeSlow
import Derived.Shelf.Utf8.RuneCount
import Derived.TacticsInMore
import Derived.Test.YtbiadennhnokhaaGreatDoorProg
import Derived.WalkKit
import Derived.WalkLawsBesides
import Derived.WalkSpells
set_option maxRecDepth 100000
set_option maxHeartbeats 16000000
namespace Go.Proofs.YtbiadennhnokhaaGreatDoor
abbrev Bs:=List UInt8
def prn (c:UInt8):Bool:=decide (33≤c.toNat)&&decide (c.toNat≤126)
def bsB (l:Bs):ByteArray:=⟨l.toArray⟩
theorem zbZ (l:Bs):(bsB l).data.toList=l:=by simp[bsB]
theorem zb1 (l:Bs):(bsB l).size=l.length:=by simp[bsB,ByteArray.size]
theorem zb0 (s:ByteArray):bsB s.data.toList=s:=by cases s;simp[bsB]
section
variable {α : Type} (k : α → Int)
def Srt (l:List α):Prop:=l.Pairwise fun x y=>k x≤k y
def ins (a:α):List α→List α
 | []=> [a]
 |x::l=>if k x<k a then x::ins a l else a::x::l
def zgK:List α→List α
 | []=> []
 |a::l=>ins k a (zgK l)
def mrg (A B:List α):List α:=A.foldr (ins k) B
variable {k}
theorem zgv {a:α}:∀{l:List α} {x:α},x∈ins k a l↔x=a∨x∈l
 | [],x=>by simp[ins]
 |y::l,x=>by
  unfold ins;split
  ·rw[List.mem_cons,zgv,List.mem_cons];constructor
   ·rintro(h|h|h)
    ·exact .inr (.inl h)
    ·exact .inl h
    ·exact .inr (.inr h)
   ·rintro(h|h|h)
    ·exact .inr (.inl h)
    ·exact .inl h
    ·exact .inr (.inr h)
  ·exact List.mem_cons
theorem zgu (a:α):∀l:List α,(ins k a l).length=l.length+1
 | []=>rfl
 |x::l=>by
  unfold ins;split
  ·rw[List.length_cons,zgu a l,List.length_cons]
  ·rfl
theorem zgy {a:α}:∀{l:List α},Srt k l→Srt k (ins k a l)
 | [],_=>List.pairwise_singleton _ _
 |x::l,h=>by
  have h':=List.pairwise_cons.1 h;unfold ins;split
  ·rename_i hx
   refine List.pairwise_cons.2 ⟨fun y hy=>?_,zgy h'.2⟩;rcases zgv.1 hy with rfl|hy
   ·omega
   ·exact h'.1 y hy
  ·rename_i hx
   refine List.pairwise_cons.2 ⟨fun y hy=>?_,h⟩;rcases List.mem_cons.1 hy with rfl|hy
   ·omega
   ·have:=h'.1 y hy;omega
theorem zik (B:List α):mrg k [] B=B:=rfl
theorem zid (a:α) (A B:List α):mrg k (a::A) B=ins k a (mrg k A B):=rfl
theorem zic (A A' B:List α):mrg k (A++A') B=mrg k A (mrg k A' B):=by simp[mrg]
theorem zij {B:List α} {x:α}:∀{A:List α},x∈mrg k A B↔x∈A∨x∈B
 | []=>by simp[zik]
 |a::A=>by rw[zid,zgv,zij,List.mem_cons,or_assoc]
theorem zii (B:List α):∀A:List α,(mrg k A B).length=A.length+B.length
 | []=>by simp[zik]
 |a::A=>by rw[zid,zgu,zii B A,List.length_cons];omega
theorem ziq {B:List α} (h:Srt k B):∀A:List α,Srt k (mrg k A B)
 | []=>h
 |_::A=>zgy (ziq h A)
theorem zgS:∀l:List α,Srt k (zgK k l)
 | []=>List.Pairwise.nil
 |_::l=>zgy (zgS l)
theorem zgN:∀l:List α,(zgK k l).length=l.length
 | []=>rfl
 |a::l=>by unfold zgK;rw[zgu,zgN l,List.length_cons]
theorem zgO {x:α}:∀{l:List α},x∈zgK k l↔x∈l
 | []=>Iff.rfl
 |a::l=>by unfold zgK;rw[zgv,zgO,List.mem_cons]
theorem zgx (a:α):∀l:List α,(ins k a l).Perm (a::l)
 | []=>List.Perm.refl _
 |x::l=>by
  unfold ins;split
  ·exact((zgx a l).cons x).trans (List.Perm.swap a x l)
  ·exact List.Perm.refl _
theorem zgQ:∀l:List α,(zgK k l).Perm l
 | []=>List.Perm.refl _
 |a::l=>(zgx a _).trans ((zgQ l).cons a)
theorem zgq {x:α} {D:List α} (h:∀y∈D,k x≤k y):ins k x D=x::D:=by
 cases D with
 |nil=>rfl
 |cons y D=>unfold ins;rw[if_neg (by have:=h y (by simp);omega)]
theorem zgw {x:α} {D:List α}:∀{B:List α},(∀y∈B,k y<k x)→ins k x (B++D)=B++ins k x D
 | [],_=>rfl
 |b::B,h=>by
  rw[List.cons_append];show(if k b<k x then b::ins k x (B++D)else x::b::(B++D))=_;rw[if_pos (h b (by simp)),zgw fun y hy=>h y (by simp[hy])];rfl
theorem zgs {x:α} {D:List α} (h:∀y∈D,k x≤k y):∀(E:List α),ins k x (E++D)=ins k x E++D
 | []=>by rw[List.nil_append,zgq h];rfl
 |e::E=>by
  rw[List.cons_append];show(if k e<k x then e::ins k x (E++D)else x::e::(E++D))=(if k e<k x then e::ins k x E else x::e::E)++D;split
  ·rw[zgs h E];rfl
  ·rfl
theorem zgp {a x:α} (h:k x<k a):∀{C:List α},Srt k C→ins k a (ins k x C)=ins k x (ins k a C)
 | [],_=>by
   show(if k x<k a then x::ins k a []else _)=(if k a<k x then _ else _);rw[if_pos h,if_neg (by omega)];rfl
 |c::C,hs=>by
  have h':=List.pairwise_cons.1 hs;show ins k a (if k c<k x then c::ins k x C else x::c::C)=ins k x (if k c<k a then c::ins k a C else a::c::C);by_cases h1:k c<k x
  ·rw[if_pos h1,if_pos (by omega)];show(if k c<k a then c::ins k a (ins k x C)else _)=(if k c<k x then c::ins k x (ins k a C)else _);rw[if_pos (by omega),if_pos h1,zgp h h'.2]
  ·rw[if_neg h1];by_cases h2:k c<k a
   ·rw[if_pos h2];show(if k x<k a then x::(if k c<k a then c::ins k a C else _)else _)=(if k c<k x then _ else x::c::ins k a C);rw[if_pos h,if_pos h2,if_neg h1]
   ·rw[if_neg h2];show(if k x<k a then x::(if k c<k a then _ else a::c::C)else _)=(if k a<k x then _ else x::a::c::C);rw[if_pos h,if_neg h2,if_neg (by omega)]
theorem zif {a:α} {C:List α} (hC:Srt k C):∀{A:List α},Srt k A→mrg k (ins k a A) C=ins k a (mrg k A C)
 | [],_=>rfl
 |x::A,h=>by
  have h':=List.pairwise_cons.1 h;show mrg k (if k x<k a then x::ins k a A else a::x::A) C=_;split
  ·rename_i hx
   rw[zid,zif hC h'.2,zid,zgp hx (ziq hC A)]
  ·rfl
theorem zig {C:List α} (hC:Srt k C):∀A:List α,mrg k (zgK k A) C=mrg k A C
 | []=>rfl
 |a::A=>by
  show mrg k (ins k a (zgK k A)) C=_;rw[zif hC (zgS A),zig hC A,zid]
theorem zgL (A B:List α):zgK k (A++B)=mrg k (zgK k A) (zgK k B):=by
 rw[zig (zgS B)];induction A with
 |nil=>rfl
 |cons a A ih=>rw[List.cons_append];show ins k a (zgK k (A++B))=_;rw[ih,zid]
theorem zio {A1 A2 B1 B2:List α} (hA:Srt k (A1++A2)) (h1:∀x∈A1,∀y∈B2,k x≤k y) (h2:∀y∈B1,∀x∈A2,k y<k x):mrg k (A1++A2) (B1++B2)=mrg k A1 B1++mrg k A2 B2:=by
 have e1:∀A:List α,(∀y∈B1,∀x∈A,k y<k x)→mrg k A (B1++B2)=B1++mrg k A B2:=by
  intro A;induction A with
  |nil=>intro _;rfl
  |cons a A ih=>
   intro h;rw[zid,ih (fun y hy x hx=>h y hy x (by simp[hx])),zgw (fun y hy=>h y hy a (by simp)),zid]
 have e2:∀(D:List α) (A:List α),(∀x∈A,∀y∈D,k x≤k y)→mrg k A (B1++D)=mrg k A B1++D:=by
  intro D A;induction A with
  |nil=>intro _;rfl
  |cons a A ih=>
   intro h;rw[zid,ih (fun x hx y hy=>h x (by simp[hx]) y hy),zgs (fun y hy=>h a (by simp) y hy),zid]
 rw[zic,e1 A2 h2,e2 _ A1 (fun x hx y hy=>by
  rcases zij.1 hy with hy|hy
  ·exact(List.pairwise_append.1 hA).2.2 x hx y hy
  ·exact h1 x hx y hy)]
theorem zil {A:List α} (h:Srt k A):mrg k A []=A:=by
 induction A with
 |nil=>rfl
 |cons a A ih=>
  have h':=List.pairwise_cons.1 h;rw[zid,ih h'.2,zgq h'.1]
theorem zih {A B:List α} (hA:Srt k A) (h:∀x∈A,∀y∈B,k x≤k y):mrg k A B=A++B:=by
 have:=zio (A1:=A) (A2:=[]) (B1:=[]) (B2:=B) (by rw[List.append_nil];exact hA) h (fun y hy=>by cases hy);rw[List.append_nil,List.nil_append,zil hA,zik]at this;exact this
theorem zim {x:α} {B1 B2:List α} (h1:∀y∈B1,k y<k x) (h2:∀y∈B2,k x≤k y):mrg k [x] (B1++B2)=B1++x::B2:=by
 rw[zid,zik,zgw h1,zgq h2]
theorem zin {y:α} {A1 A2:List α} (hA:Srt k (A1++A2)) (h1:∀x∈A1,k x≤k y) (h2:∀x∈A2,k y<k x):mrg k (A1++A2) [y]=A1++y::A2:=by
 have hp:=List.pairwise_append.1 hA;have:=zio (B1:=[y]) (B2:=[]) hA (fun x hx z hz=>by cases hz) (fun z hz x hx=>by rw[List.mem_singleton]at hz;subst hz;exact h2 x hx);rw[List.append_nil]at this;rw[this,zih hp.1 (fun x hx z hz=>by rw[List.mem_singleton]at hz;subst hz;exact h1 x hx),zil hp.2.1];simp
theorem zgR (A:List α) (y:α):zgK k (A++ [y])=mrg k (zgK k A) [y]:=zgL A [y]
theorem zgM {l:List α} (h:Srt k l):zgK k l=l:=by
 induction l with
 |nil=>rfl
 |cons a l ih=>
  have h':=List.pairwise_cons.1 h;show ins k a (zgK k l)=_;rw[ih h'.2,zgq h'.1]
variable (k) in
end
section
variable {par : Nat → Int} {n : Nat}
def pre (par:Nat→Int) (n:Nat):Nat→Int→List Nat
 |0,_=> []
 |f+1,p=>(List.range n).flatMap fun i=>if par i=p then i::pre par n f i else []
def Fst (par:Nat→Int) (n:Nat):Prop:=∀i,i<n→ -1≤par i∧par i<(i:Int)
theorem zk8 (f:Nat) (p:Int):pre par n (f+1) p=(List.range n).flatMap fun i=>if par i=p then i::pre par n f i else []:=rfl
theorem zk3 {f:Nat} {p:Int} {x:Nat}:x∈pre par n (f+1) p↔ ∃i,i<n∧par i=p∧(x=i∨x∈pre par n f i):=by
 rw[zk8,List.mem_flatMap];constructor
 ·rintro⟨i,hi,hx⟩;split at hx
  ·rename_i hp
   exact⟨i,List.mem_range.1 hi,hp,List.mem_cons.1 hx⟩
  ·cases hx
 ·rintro⟨i,hi,hp,hx⟩;exact⟨i,List.mem_range.2 hi,by rw[if_pos hp];exact List.mem_cons.2 hx⟩
theorem zk2 (hF:Fst par n):∀(f:Nat) (p:Int) (x:Nat),x∈pre par n f p→x<n∧p≤par x∧p<(x:Int)∧(par x=p∨∃y,y∈pre par n f p∧par x=(y:Int))
 |0,_,_,h=>by cases h
 |f+1,p,x,h=>by
  obtain⟨i,hi,hp,hx⟩:=zk3.1 h;have h1:=hF i hi;rcases hx with rfl|hx
  ·exact⟨hi,by omega,by omega,.inl hp⟩
  ·obtain⟨a,b,c,d⟩:=zk2 hF f i x hx;refine⟨a,by omega,by omega,.inr ?_⟩;rcases d with d|⟨y,hy,d⟩
   ·exact⟨i,zk3.2 ⟨i,hi,hp,.inl rfl⟩,d⟩
   ·exact⟨y,zk3.2 ⟨i,hi,hp,.inr hy⟩,d⟩
theorem zkZ (hF:Fst par n):∀(f:Nat) (p:Int) (x y:Nat),(n:Int)<(f:Int)+p+1→y∈pre par n f p→x<n→par x=(y:Int)→x∈pre par n f p
 |0,_,_,_,_,h,_,_=>by cases h
 |f+1,p,x,y,hf,h,hx,hp=>by
  obtain⟨i,hi,hpi,hy⟩:=zk3.1 h;have h1:=hF i hi;have h2:=hF x hx;rcases hy with rfl|hy
  ·cases f with
   |zero=>omega
   |succ f=>exact zk3.2 ⟨y,hi,hpi,.inr (zk3.2 ⟨x,hx,hp,.inl rfl⟩)⟩
  ·exact zk3.2 ⟨i,hi,hpi,.inr (zkZ hF f i x y (by omega) hy hx hp)⟩
theorem zkW (hF:Fst par n):∀(x:Nat),x<n→x∈pre par n (n+1) (-1):=fun x=>by
 induction x using Nat.strongRecOn with
 |ind x ih=>
  intro hx;have h:=hF x hx;by_cases hp:par x= -1
  ·exact zk3.2 ⟨x,hx,hp,.inl rfl⟩
  ·obtain⟨y,hy⟩:∃y:Nat,par x=(y:Int):=⟨(par x).toNat,by omega⟩;exact zkZ hF (n+1) (-1) x y (by omega) (ih y (by omega) (by omega)) hx hy
theorem zk5 (hF:Fst par n) {f:Nat} {p:Int}:∀(x i j:Nat),i<n→j<n→par i=p→par j=p→(x=i∨x∈pre par n f i)→(x=j∨x∈pre par n f j)→i=j:=fun x=>by
 induction x using Nat.strongRecOn with
 |ind x ih=>
  intro i j hi hj hpi hpj h1 h2;have fi:=hF i hi;have fj:=hF j hj;rcases h1 with rfl|h1
  ·rcases h2 with h2|h2
   ·exact h2
   ·have:=(zk2 hF f j x h2).2.1;omega
  ·have l1:=zk2 hF f i x h1;rcases h2 with rfl|h2
   ·have:=l1.2.1;omega
   ·have l2:=zk2 hF f j x h2;rcases l1.2.2.2 with e1|⟨y,hy,e1⟩
    ·rcases l2.2.2.2 with e2|⟨z,hz,e2⟩
     ·omega
     ·obtain rfl:i=z:=by omega
      exact ih i (by have:=hF x l1.1;omega) i j hi hj hpi hpj (.inl rfl) (.inr hz)
    ·rcases l2.2.2.2 with e2|⟨z,hz,e2⟩
     ·obtain rfl:j=y:=by omega
      exact ih j (by have:=hF x l1.1;omega) i j hi hj hpi hpj (.inr hy) (.inl rfl)
     ·obtain rfl:y=z:=by omega
      exact ih y (by have:=hF x l1.1;omega) i j hi hj hpi hpj (.inr hy) (.inr hz)
theorem ziO {β γ:Type} {g:β→List γ}:∀{l:List β},l.Nodup→(∀a∈l,(g a).Nodup)→(∀a∈l,∀b∈l,∀x,x∈g a→x∈g b→a=b)→(l.flatMap g).Nodup
 | [],_,_,_=>List.nodup_nil
 |a::l,hn,h1,h2=>by
  have hn':=List.nodup_cons.1 hn;rw[List.flatMap_cons];refine List.nodup_append.2 ⟨h1 a (by simp),ziO hn'.2 (fun b hb=>h1 b (by simp[hb])) (fun b hb c hc=>h2 b (by simp[hb]) c (by simp[hc])),?_⟩;rintro x hx y hy rfl;obtain⟨b,hb,hy⟩:=List.mem_flatMap.1 hy;exact hn'.1 (h2 a (by simp) b (by simp[hb]) x hx hy▸hb)
theorem zk4 (hF:Fst par n):∀(f:Nat) (p:Int),(pre par n f p).Nodup
 |0,_=>List.nodup_nil
 |f+1,p=>by
  rw[zk8];refine ziO List.nodup_range (fun i hi=>?_) (fun i hi j hj x hx hy=>?_)
  ·split
   ·refine List.nodup_cons.2 ⟨fun h=>?_,zk4 hF f i⟩;have:=(zk2 hF f i i h).2.2.1;omega
   ·exact List.nodup_nil
  ·split at hx
   ·rename_i hpi
    split at hy
    ·rename_i hpj
     exact zk5 hF x i j (List.mem_range.1 hi) (List.mem_range.1 hj) hpi hpj (List.mem_cons.1 hx) (List.mem_cons.1 hy)
    ·cases hy
   ·cases hx
theorem zk1 (hF:Fst par n):(pre par n (n+1) (-1)).length=n:=by
 have h1:(pre par n (n+1) (-1)).Perm (List.range n):=by
  refine(List.perm_ext_iff_of_nodup (zk4 hF _ _) List.nodup_range).2 fun x=>?_;rw[List.mem_range];exact⟨fun h=>(zk2 hF _ _ x h).1,fun h=>zkW hF x h⟩
 rw[h1.length_eq,List.length_range]
theorem zkX:∀(f:Nat) (p:Int) (A:List Nat) (x:Nat) (B:List Nat),pre par n f p=A++x::B→par x=p∨∃y∈A,par x=(y:Int)
 |0,p,A,x,B,h=>by
  have:=congrArg List.length h;simp[pre]at this
 |f+1,p,A,x,B,h=>by
  rw[zk8]at h;generalize List.range n=is at h;induction is generalizing A with
  |nil=>
   have:=congrArg List.length h;simp at this
  |cons i is ih=>
   rw[List.flatMap_cons]at h;by_cases hc:par i=p
   ·rw[if_pos hc]at h;rcases List.append_eq_append_iff.1 h with⟨a',ha,hb⟩|⟨c',ha,hb⟩
    ·rcases ih a' hb with h1|⟨y,hy,h1⟩
     ·exact .inl h1
     ·exact .inr ⟨y,by rw[ha];simp[hy],h1⟩
    ·cases c' with
     |nil=>
      rcases ih [] hb.symm with h1|⟨y,hy,h1⟩
      ·exact .inl h1
      ·cases hy
     |cons z c'=>
      rw[List.cons_append]at hb;injection hb with hb1 hb2;subst hb1;cases A with
      |nil=>
       injection ha with ha1 _;subst ha1;exact .inl hc
      |cons a A=>
       injection ha with ha1 ha2;subst ha1;rcases zkX f i A x c' ha2 with h1|⟨y,hy,h1⟩
       ·exact .inr ⟨i,by simp,h1⟩
       ·exact .inr ⟨y,by simp[hy],h1⟩
   ·rw[if_neg hc,List.nil_append]at h;exact ih A h
def pos (o:List Nat) (i:Int):Int:=if i<0 then i else(o.idxOf i.toNat:Int)
theorem zkF {o:List Nat} {i j:Int} (hi: -1≤i) (hj: -1≤j) (h1:0≤i→i.toNat∈o) (h2:0≤j→j.toNat∈o) (h:pos o i=pos o j):i=j:=by
 unfold pos at h;split at h
 ·split at h
  ·omega
  ·omega
 ·rename_i hi0
  split at h
  ·omega
  ·rename_i hj0
   have e:o.idxOf i.toNat=o.idxOf j.toNat:=by omega
   have a:=List.idxOf_lt_length_of_mem (h1 (by omega));have b:=List.idxOf_lt_length_of_mem (h2 (by omega));have e2:o[o.idxOf i.toNat]=o[o.idxOf j.toNat]:=by simp only[e]
   rw[List.getElem_idxOf,List.getElem_idxOf]at e2;omega
theorem zgd:∀{A B:List Nat} {x:Nat},x∉A→(A++x::B).idxOf x=A.length
 | [],B,x,_=>by simp
 |a::A,B,x,h=>by
  rw[List.cons_append,List.idxOf_cons,zgd (fun hx=>h (by simp[hx]))];have:(a==x)=false:=by rw[beq_eq_false_iff_ne];rintro rfl;exact h (by simp)
  rw[this];rfl
theorem ze9 {β γ:Type} {f g:β→List γ}:∀{l:List β},(∀a∈l,f a=g a)→l.flatMap f=l.flatMap g
 | [],_=>rfl
 |a::l,h=>by rw[List.flatMap_cons,List.flatMap_cons,h a (by simp),ze9 fun b hb=>h b (by simp[hb])]
theorem zfc (g:Nat→List Nat):∀(l:List Nat) (t:Nat),(l.zipIdx t).flatMap (fun x=>g x.2)=(List.range' t l.length).flatMap g
 | [],_=>rfl
 |a::l,t=>by rw[List.zipIdx_cons,List.flatMap_cons,zfc g l (t+1),List.length_cons,List.range'_succ,List.flatMap_cons]
theorem zfb {β γ:Type} {f:β→List γ}:∀{l:List β},(∀a∈l,f a=[])→l.flatMap f=[]
 | [],_=>rfl
 |a::l,h=>by rw[List.flatMap_cons,h a (by simp),zfb fun b hb=>h b (by simp[hb])];rfl
theorem zrx {l:List Nat} {t:Nat} {x:Nat×Nat} (h:x∈l.zipIdx t):x.1∈l:=by
 have:=List.mem_map_of_mem (f:=Prod.fst) h;rwa [List.zipIdx_map_fst]at this
theorem zkY (hF:Fst par n) {o:List Nat} (ho:o=pre par n (n+1) (-1)) {par':Nat→Int} (hp':∀j (h:j<o.length),par' j=pos o (par o[j])):
 ∀(f:Nat) (p:Int) (A B:List Nat),-1≤p→(0≤p→p.toNat∈o)→(n:Int)<(f:Int)+p+1→o=A++pre par n f p++B→pre par' n f (pos o p)=List.range' A.length (pre par n f p).length
 |0,_,_,_,_,_,_,_=>rfl
 |f+1,p,A,B,hp1,hp2,hf,hsp=>by
  have hnd:o.Nodup:=ho▸zk4 hF _ _;have hln:o.length=n:=ho▸zk1 hF;have hmem:∀x,x∈o↔x<n:=fun x=>by rw[ho];exact⟨fun h=>(zk2 hF _ _ x h).1,fun h=>zkW hF x h⟩
  have e2:pre par' n (f+1) (pos o p)=(o.zipIdx 0).flatMap fun x=>if par x.1=p then x.2::pre par' n f x.2 else []:=by
   rw[zk8,←hln,List.range_eq_range',←zfc];refine ze9 fun x hx=>?_;obtain⟨h1,h2⟩:=List.mem_zipIdx' hx;rw[hp' x.2 h1,←h2,hln];have hxo:x.1<n:=(hmem _).1 (zrx hx);have hfx:=hF x.1 hxo;by_cases hc:par x.1=p
   ·rw[if_pos hc,if_pos (by rw[hc])]
   ·rw[if_neg hc,if_neg];exact fun h=>hc (zkF hfx.1 hp1 (fun h0=>(hmem _).2 (by omega)) hp2 h)
  have hin:∀x,x<n→par x=p→x∈pre par n (f+1) p:=fun x hx hp=>zk3.2 ⟨x,hx,hp,.inl rfl⟩
  have e3:∀(is A' B':List Nat),(∀i∈is,i<n)→o=A'++(is.flatMap fun i=>if par i=p then i::pre par n f i else [])++B'→
   (((is.flatMap fun i=>if par i=p then i::pre par n f i else []).zipIdx A'.length).flatMap fun x=>if par x.1=p then x.2::pre par' n f x.2 else [])=List.range' A'.length (is.flatMap fun i=>if par i=p then i::pre par n f i else []).length:=by
   intro is;induction is with
   |nil=>intro A' B' _ _;rfl
   |cons i is ih=>
    intro A' B' his hs;rw[List.flatMap_cons]at hs⊢;by_cases hc:par i=p
    ·rw[if_pos hc]at hs⊢;have hi:=his i (by simp);have hfi:=hF i hi;generalize hR:(is.flatMap fun i=>if par i=p then i::pre par n f i else [])=R at hs ih⊢;have hs2:o=A'++i::(pre par n f i++R++B'):=by rw[hs];simp
     have hiA:i∉A':=fun h=>by
      rw[hs2]at hnd;exact(List.nodup_append.1 hnd).2.2 i h i (by simp) rfl
     have hpi:pos o i=(A'.length:Int):=by
      unfold pos;rw[if_neg (by omega),Int.toNat_natCast,hs2,zgd hiA]
     have h1:=zkY hF ho hp' f i (A'++ [i]) (R++B') (by omega) (fun _=>by rw[Int.toNat_natCast];exact(hmem i).2 hi) (by omega) (by rw[hs];simp);rw[hpi]at h1;have h2:=ih (A'++i::pre par n f i) B' (fun j hj=>his j (by simp[hj])) (by rw[hs];simp);rw[List.cons_append,List.zipIdx_cons,List.flatMap_cons,if_pos hc,List.zipIdx_append,List.flatMap_append];dsimp only
     rw[zfb (l:=(pre par n f i).zipIdx (A'.length+1)) (fun x hx=>by
      rw[if_neg];have:=(zk2 hF f i x.1 (zrx hx)).2.1;omega),List.nil_append,h1]
     rw[List.length_append,List.length_cons]at h2
     rw[show A'.length+1+(pre par n f i).length=A'.length+((pre par n f i).length+1)by omega,h2,List.length_append,List.length_singleton,List.length_cons,List.length_append,
      show(pre par n f i).length+R.length+1=((pre par n f i).length+1)+R.length by omega,←List.range'_append_1,List.range'_succ]
    ·rw[if_neg hc,List.nil_append]at hs⊢;exact ih A' B' (fun j hj=>his j (by simp[hj])) hs
  have hout:∀x,x∈A∨x∈B→par x≠p:=by
   intro x hx hp;have hxo:x<n:=(hmem x).1 (by rw[hsp];rcases hx with h|h<;>simp[h]);have hb:=hin x hxo hp;rw[hsp]at hnd;rcases hx with h|h
   ·exact(List.nodup_append.1 (List.nodup_append.1 hnd).1).2.2 x h x hb rfl
   ·exact(List.nodup_append.1 hnd).2.2 x (by simp[hb]) x h rfl
  have h3:=e3 (List.range n) A B (fun i hi=>List.mem_range.1 hi) hsp;rw[←zk8]at h3
  rw[e2,hsp,List.zipIdx_append,List.zipIdx_append,List.flatMap_append,List.flatMap_append,zfb (l:=A.zipIdx 0) (fun x hx=>by rw[if_neg (hout _ (.inl (zrx hx)))]),
   zfb (l:=B.zipIdx _) (fun x hx=>by rw[if_neg (hout _ (.inr (zrx hx)))]),List.nil_append,List.append_nil,Nat.zero_add,h3]
theorem zkV (hF:Fst par n) {par':Nat→Int} (hp':∀j (h:j<(pre par n (n+1) (-1)).length),par' j=pos (pre par n (n+1) (-1)) (par (pre par n (n+1) (-1))[j])):
 pre par' n (n+1) (-1)=List.range n:=by
 have:=zkY hF rfl hp' (n+1) (-1) [] [] (by omega) (fun h=>by omega) (by omega) (by simp);rw[zk1 hF]at this;rw[List.range_eq_range'];exact this
end
abbrev Sc:=Bs×Int×Int
structure Vr where
 nm:Bs
 ty:Int
 sc:Int
 sg:Int
 rg:Bool
 mb:Int
 lb:Int
deriving DecidableEq
def ziu (s:Bs):Bool:=decide (s≠ [])&&decide (s.length≤32)&&s.all prn&&(match s with
 | []=>false
 |c::_=>if c=92 then decide (2≤s.length)else decide (c≠36)&&!s.any fun d=>d==92||d==46||d==91||d==93)
def zbT (n:Int):Bool:=decide (-32768≤n)&&decide (n≤32768)
def zq9 (m l:Int):Int:=if(zbT m&&zbT l)=true then max m l-min m l+1 else 0
def zdD (S:List Sc) (V:List Vr):Bool:=S.zipIdx.all (fun x=>decide (-1≤x.1.2.2)&&decide (x.1.2.2<(x.2:Int)))&&V.all fun v=>decide (-1≤v.sc)&&decide (v.sc<(S.length:Int))&&decide (0≤v.sg)
def upL (S:List Sc):Nat→Int→List Nat
 |0,_=> []
 |f+1,i=>if i<0 then []else match S[i.toNat]? with
  |none=> []
  |some s=>i.toNat::upL S f s.2.2
def zlj (v:Vr):Bool:=if v.rg=true then decide (zq9 v.mb v.lb=0)else decide (v.mb≠0)||decide (v.lb≠0)
abbrev ScK:=Int×Bs
abbrev VrK:=Int×Bs×Bool×Int×Int
def zl5 (s:Sc):ScK:=(s.2.2,s.1)
def zqE (v:Vr):VrK:=(v.sc,v.nm,v.rg,v.mb,v.lb)
def uniq {α K:Type} [DecidableEq K] (key:α→K):List α→Bool
 | []=>true
 |x::l=>uniq key l&&!(l.map key).contains (key x)
def zcw (S:List Sc) (V:List Vr):Int:=
 if 32<S.length∨128<V.length then 9
 else if zdD S V=false then 1
 else if(List.range S.length).any (fun i=>decide (8<(upL S (i+1) i).length))=true then 9
 else if(S.any (fun s=>!ziu s.1)||V.any fun v=>!ziu v.nm)=true then 4
 else if(S.any (fun s=>decide (s.2.1<0)||decide (4<s.2.1))||V.any fun v=>decide (v.ty<0)||decide (18<v.ty))=true then 7
 else if V.any zlj=true then 2
 else if(!uniq zl5 S||!uniq zqE V)=true then 5
 else 0
def parS (S:List Sc) (i:Nat):Int:=(S.getD i ([],0,0)).2.2
def preS (S:List Sc):List Nat:=pre (parS S) S.length (S.length+1) (-1)
def scF (S:List Sc):List Sc:=
 (preS S).map fun i=>((S.getD i ([],0,0)).1,(S.getD i ([],0,0)).2.1,pos (preS S) (parS S i))
def numF:List Int→List Vr→List Vr×List Int
 |fm,[]=>([],fm)
 |fm,v::l=>
  if fm.contains v.sg=true then({v with sg:=(fm.idxOf v.sg:Int)}::(numF fm l).1,(numF fm l).2)
  else({v with sg:=(fm.length:Int)}::(numF (fm++ [v.sg]) l).1,(numF (fm++ [v.sg]) l).2)
def vr1 (S:List Sc) (V:List Vr):List Vr:=V.map fun v=>{v with sc:=pos (preS S) v.sc}
def vr2 (S:List Sc) (V:List Vr):List Vr:=zgK (fun v:Vr=>v.sc) (vr1 S V)
def vrF (S:List Sc) (V:List Vr):List Vr×List Int:=numF [] (vr2 S V)
def zj2 (S:List Sc) (V:List Vr):List Sc×List Vr×List Int×Int:=
 if zcw S V≠0 then([],[],[],zcw S V)else(scF S,(vrF S V).1,(vrF S V).2,0)
theorem zdG {S:List Sc} {V:List Vr} (h:zdD S V=true):Fst (parS S) S.length:=by
 unfold zdD at h;rw[Bool.and_eq_true,List.all_eq_true]at h;intro i hi;have:=h.1 (S[i],i) (by rw[List.mem_zipIdx_iff_getElem?];simp[hi]);rw[Bool.and_eq_true,decide_eq_true_iff,decide_eq_true_iff]at this;unfold parS;rw[List.getD,List.getElem?_eq_getElem hi];exact this
theorem zdI {S:List Sc} {V:List Vr} (h:zdD S V=true):∀v∈V,-1≤v.sc∧v.sc<(S.length:Int)∧0≤v.sg:=by
 unfold zdD at h;rw[Bool.and_eq_true,List.all_eq_true,List.all_eq_true]at h;intro v hv;have:=h.2 v hv;rw[Bool.and_eq_true,Bool.and_eq_true,decide_eq_true_iff,decide_eq_true_iff,decide_eq_true_iff]at this;exact⟨this.1.1,this.1.2,this.2⟩
theorem zdH {S:List Sc} {V:List Vr} (h:Fst (parS S) S.length) (hv:∀v∈V,-1≤v.sc∧v.sc<(S.length:Int)∧0≤v.sg):zdD S V=true:=by
 unfold zdD;rw[Bool.and_eq_true,List.all_eq_true,List.all_eq_true];refine⟨fun x hx=>?_,fun v hv'=>?_⟩
 ·obtain⟨s,i⟩:=x;have hx':=List.mem_zipIdx_iff_getElem?.1 hx;dsimp only at hx'⊢;obtain⟨hi,rfl⟩:=List.getElem?_eq_some_iff.1 hx';have:=h i hi;unfold parS at this;rw[List.getD,List.getElem?_eq_getElem hi]at this;rw[Bool.and_eq_true,decide_eq_true_iff,decide_eq_true_iff];exact this
 ·rw[Bool.and_eq_true,Bool.and_eq_true,decide_eq_true_iff,decide_eq_true_iff,decide_eq_true_iff];have:=hv v hv';exact⟨⟨this.1,this.2.1⟩,this.2.2⟩
theorem zpJ {α K:Type} [DecidableEq K] {key:α→K}:∀{l:List α},uniq key l=true↔(l.map key).Nodup
 | []=>by simp[uniq]
 |x::l=>by
  unfold uniq;rw[Bool.and_eq_true,zpJ,List.map_cons,List.nodup_cons,Bool.not_eq_true',and_comm];refine and_congr ?_ Iff.rfl;rw[←Bool.not_eq_true,List.contains_iff_mem]
theorem zkH {n:Nat} {i:Int} (h1:i<(n:Int)):pos (List.range n) i=i:=by
 unfold pos;split
 ·rfl
 ·rename_i h0
  obtain⟨m,rfl⟩:∃m:Nat,i=(m:Int):=⟨i.toNat,by omega⟩;have hm:m<n:=by omega
  rw[Int.toNat_natCast,show List.range n=List.range m++m::(List.range' (m+1) (n-m-1))by
   rw[List.range_eq_range',List.range_eq_range',←List.range'_succ,show n-m-1+1=n-m by omega];have:=List.range'_append_1 (s:=0) (m:=m) (n:=n-m);rw[Nat.zero_add,show m+(n-m)=n by omega]at this;exact this.symm]
  rw[zgd (fun h=>by rw[List.mem_range]at h;omega),List.length_range]
def rgI (k:Nat):List Int:=(List.range k).map fun i:Nat=>(i:Int)
theorem zlP (k:Nat):rgI (k+1)=rgI k++ [(k:Int)]:=by simp[rgI,List.range_succ]
theorem zlM (k:Nat):(rgI k).length=k:=by simp[rgI]
theorem zlN {k:Nat} {x:Int}:x∈rgI k↔0≤x∧x<(k:Int):=by
 unfold rgI;rw[List.mem_map];constructor
 ·rintro⟨i,hi,rfl⟩;have:=List.mem_range.1 hi;omega
 ·rintro⟨h1,h2⟩;exact⟨x.toNat,List.mem_range.2 (by omega),by omega⟩
theorem zlL:∀{k i:Nat},i<k→(rgI k).idxOf (i:Int)=i
 |k+1,i,h=>by
  rw[zlP,List.idxOf_append];by_cases hi:i<k
  ·rw[if_pos (zlN.2 (by omega)),zlL hi]
  ·obtain rfl:i=k:=by omega
   rw[if_neg (fun hm=>by have:=zlN.1 hm;omega),zlM];simp
theorem zi7 {fm:List Int} {v:Vr} {l:List Vr} (h:fm.contains v.sg=true):numF fm (v::l)=({v with sg:=(fm.idxOf v.sg:Int)}::(numF fm l).1,(numF fm l).2):=by rw[numF,if_pos h]
theorem zi8 {fm:List Int} {v:Vr} {l:List Vr} (h:¬fm.contains v.sg=true):numF fm (v::l)=({v with sg:=(fm.length:Int)}::(numF (fm++ [v.sg]) l).1,(numF (fm++ [v.sg]) l).2):=by rw[numF,if_neg h]
theorem zjd:∀(l:List Vr) (fm:List Int),∃m,fm.length≤m∧(numF fm l).2.length=m∧numF (rgI fm.length) (numF fm l).1=((numF fm l).1,rgI m)
 | [],fm=>⟨fm.length,Nat.le_refl _,rfl,rfl⟩
 |v::l,fm=>by
  by_cases hc:fm.contains v.sg=true
  ·obtain⟨m,h1,h2,h3⟩:=zjd l fm;have hi:=List.idxOf_lt_length_of_mem (List.contains_iff_mem.1 hc);refine⟨m,h1,?_,?_⟩
   ·rw[zi7 hc];exact h2
   ·rw[zi7 hc,zi7 (by rw[List.contains_iff_mem];exact zlN.2 (by dsimp only;omega))];dsimp only;rw[zlL hi,h3]
  ·obtain⟨m,h1,h2,h3⟩:=zjd l (fm++ [v.sg]);rw[List.length_append,List.length_singleton]at h1 h3;refine⟨m,by omega,?_,?_⟩
   ·rw[zi8 hc];exact h2
   ·rw[zi8 hc,zi8 (by rw[List.contains_iff_mem];intro hm;have:=(zlN.1 hm).2;dsimp only at this;omega)];dsimp only;rw[zlM,←zlP,h3]
theorem zjf {β:Type} (g:Vr→β) (hg:∀v x,g {v with sg:=x}=g v):∀(l:List Vr) (fm:List Int),(numF fm l).1.map g=l.map g
 | [],_=>rfl
 |v::l,fm=>by
  unfold numF;split
  ·dsimp only;rw[List.map_cons,List.map_cons,hg,zjf g hg]
  ·dsimp only;rw[List.map_cons,List.map_cons,hg,zjf g hg]
theorem zjj:∀(l:List Vr) (fm:List Int),∀v∈(numF fm l).1,0≤v.sg
 | [],_=>by intro v hv;cases hv
 |v::l,fm=>by
  intro x hx;unfold numF at hx;split at hx
  ·rcases List.mem_cons.1 hx with rfl|hx
   ·dsimp only;omega
   ·exact zjj l _ x hx
  ·rcases List.mem_cons.1 hx with rfl|hx
   ·dsimp only;omega
   ·exact zjj l _ x hx
theorem za8 {α:Type} {p:α→Bool} {l:List α}:l.any p=false↔ ∀x∈l,p x=false:=by
 rw[←Bool.not_eq_true,List.any_eq_true]
 exact⟨fun h x hx=>by cases hp:p x with
  |true=>exact absurd ⟨x,hx,hp⟩ h
  |false=>rfl,fun h ⟨x,hx,hp⟩=>by rw[h x hx]at hp;cases hp⟩
structure ChkOk (S:List Sc) (V:List Vr):Prop where
 n:S.length≤32
 m:V.length≤128
 d:zdD S V=true
 u:∀i,i<S.length→(upL S (i+1) (i:Int)).length≤8
 ns:∀s∈S,ziu s.1=true
 nv:∀v∈V,ziu v.nm=true
 ts:∀s∈S,0≤s.2.1∧s.2.1≤4
 tv:∀v∈V,0≤v.ty∧v.ty≤18
 r:∀v∈V,zlj v=false
 ks:(S.map zl5).Nodup
 kv:(V.map zqE).Nodup
theorem zcF {S:List Sc} {V:List Vr}:zcw S V=0↔ChkOk S V:=by
 unfold zcw;constructor
 ·intro h;split at h
  ·cases h
  rename_i h1
  split at h
  ·cases h
  rename_i h2
  split at h
  ·cases h
  rename_i h3
  split at h
  ·cases h
  rename_i h4
  split at h
  ·cases h
  rename_i h5
  split at h
  ·cases h
  rename_i h6
  split at h
  ·cases h
  rename_i h7
  rw[Bool.not_eq_true,za8]at h3;rw[Bool.not_eq_true,Bool.or_eq_false_iff,za8,za8]at h4 h5;rw[Bool.not_eq_true,za8]at h6;rw[Bool.not_eq_true,Bool.or_eq_false_iff,Bool.not_eq_false',Bool.not_eq_false',zpJ,zpJ]at h7;rw[Bool.not_eq_false]at h2;refine⟨by omega,by omega,h2,fun i hi=>?_,fun s hs=>?_,fun v hv=>?_,fun s hs=>?_,fun v hv=>?_,h6,h7.1,h7.2⟩
  ·have:=of_decide_eq_false (h3 i (List.mem_range.2 hi));omega
  ·have:=h4.1 s hs;rwa [Bool.not_eq_false']at this
  ·have:=h4.2 v hv;rwa [Bool.not_eq_false']at this
  ·have:=h5.1 s hs;rw[Bool.or_eq_false_iff,decide_eq_false_iff_not,decide_eq_false_iff_not]at this;omega
  ·have:=h5.2 v hv;rw[Bool.or_eq_false_iff,decide_eq_false_iff_not,decide_eq_false_iff_not]at this;omega
 ·rintro⟨a,b,c,d,e,f,g,h,i,j,k⟩;rw[if_neg (by omega),if_neg (by rw[c];simp),if_neg,if_neg,if_neg,if_neg,if_neg]
  ·rw[Bool.not_eq_true,Bool.or_eq_false_iff,Bool.not_eq_false',Bool.not_eq_false',zpJ,zpJ];exact⟨j,k⟩
  ·rw[Bool.not_eq_true,za8];exact i
  ·rw[Bool.not_eq_true,Bool.or_eq_false_iff,za8,za8];refine⟨fun s hs=>?_,fun v hv=>?_⟩
   ·rw[Bool.or_eq_false_iff,decide_eq_false_iff_not,decide_eq_false_iff_not];have:=g s hs;omega
   ·rw[Bool.or_eq_false_iff,decide_eq_false_iff_not,decide_eq_false_iff_not];have:=h v hv;omega
  ·rw[Bool.not_eq_true,Bool.or_eq_false_iff,za8,za8];exact⟨fun s hs=>by rw[e s hs];rfl,fun v hv=>by rw[f v hv];rfl⟩
  ·rw[Bool.not_eq_true,za8];intro x hx;rw[decide_eq_false_iff_not];have:=d x (List.mem_range.1 hx);omega
theorem zkR {S:List Sc} (hF:Fst (parS S) S.length):(preS S).length=S.length:=zk1 hF
theorem zkS {S:List Sc} (hF:Fst (parS S) S.length) {x:Nat}:x∈preS S↔x<S.length:=⟨fun h=>(zk2 hF _ _ x h).1,fun h=>zkW hF x h⟩
theorem zkT {S:List Sc} (hF:Fst (parS S) S.length):(preS S).Nodup:=zk4 hF _ _
theorem zl3 {S:List Sc} (hF:Fst (parS S) S.length):(scF S).length=S.length:=by unfold scF;rw[List.length_map,zkR hF]
theorem zl1 {S:List Sc} {j:Nat} (h:j<(scF S).length) (h':j<(preS S).length):(scF S)[j]=((S.getD (preS S)[j] ([],0,0)).1,(S.getD (preS S)[j] ([],0,0)).2.1,pos (preS S) (parS S (preS S)[j])):=by
 simp only[scF,List.getElem_map]
theorem zks {S:List Sc} (hF:Fst (parS S) S.length) (j:Nat) (h:j<(preS S).length):parS (scF S) j=pos (preS S) (parS S (preS S)[j]):=by
 have h2:j<(scF S).length:=by rw[zl3 hF,←zkR hF];exact h
 unfold parS;rw[List.getD,List.getElem?_eq_getElem h2,Option.getD_some,zl1 h2 h];rfl
theorem zkG {S:List Sc} (hF:Fst (parS S) S.length) {q:Int} (h:q<(S.length:Int)):pos (preS S) q<(S.length:Int):=by
 unfold pos;split
 ·exact h
 ·have:=List.idxOf_lt_length_of_mem ((zkS hF (x:=q.toNat)).2 (by omega));rw[zkR hF]at this;omega
theorem zkQ {S:List Sc} (hF:Fst (parS S) S.length):preS (scF S)=List.range S.length:=by
 unfold preS;rw[zl3 hF];exact zkV hF (zks hF)
theorem zkr {S:List Sc} (hF:Fst (parS S) S.length) {j:Nat} (h:j<S.length):parS (scF S) j<(S.length:Int):=by
 have h':j<(preS S).length:=by rw[zkR hF];exact h
 rw[zks hF j h'];have h2:=(zkS hF).1 (List.getElem_mem h');have:=hF _ h2;exact zkG hF (by omega)
theorem zl0 {S:List Sc} (hF:Fst (parS S) S.length):scF (scF S)=scF S:=by
 have hl:=zl3 hF;apply List.ext_getElem
 ·unfold scF;rw[List.length_map,List.length_map,show preS (List.map _ (preS S))=List.range S.length from zkQ hF,List.length_range,zkR hF]
 ·intro i h1 h2;have h3:i<S.length:=by rw[←hl];exact h2
  rw[show(scF (scF S))[i]=(((scF S).getD (preS (scF S))[i]! ([],0,0)).1,((scF S).getD (preS (scF S))[i]! ([],0,0)).2.1,pos (preS (scF S)) (parS (scF S) (preS (scF S))[i]!))by
   have h4:i<(preS (scF S)).length:=by rw[zkQ hF,List.length_range];exact h3
   simp only[scF,List.getElem_map];rw[getElem!_pos _ i h4];rfl]
  rw[zkQ hF];have e:(List.range S.length)[i]! =i:=by rw[getElem!_pos _ i (by rw[List.length_range];exact h3),List.getElem_range]
  rw[e,zkH (zkr hF h3)];unfold parS;rw[List.getD,List.getElem?_eq_getElem h2,Option.getD_some]
theorem zpM {S:List Sc} (hF:Fst (parS S) S.length):∀(f g:Nat) (q:Int),q<(g:Int)→(upL S f q).length≤(upL S g q).length
 |0,_,_,_=>Nat.zero_le _
 |f+1,0,q,h=>by
  unfold upL;rw[if_pos (by omega)];exact Nat.zero_le _
 |f+1,g+1,q,h=>by
  unfold upL;split
  ·exact Nat.zero_le _
  ·rename_i h0
   split
   ·exact Nat.zero_le _
   ·rename_i s hs
    obtain⟨hi,he⟩:=List.getElem?_eq_some_iff.1 hs;have:=hF q.toNat hi;unfold parS at this;rw[List.getD,List.getElem?_eq_getElem hi,Option.getD_some,he]at this;have:=zpM hF f g s.2.2 (by omega);rw[List.length_cons,List.length_cons];omega
theorem zpO {S:List Sc} (hF:Fst (parS S) S.length):∀(f:Nat) (q:Int),q<(S.length:Int)→(upL (scF S) f (pos (preS S) q)).length=(upL S f q).length
 |0,_,_=>rfl
 |f+1,q,h=>by
  by_cases h0:q<0
  ·unfold upL;rw[if_pos h0,if_pos (by unfold pos;rw[if_pos h0];exact h0)]
  ·obtain⟨x,rfl⟩:∃x:Nat,q=(x:Int):=⟨q.toNat,by omega⟩;have hx:x<S.length:=by omega
   have hm:=(zkS hF).2 hx;have hi:=List.idxOf_lt_length_of_mem hm;have hi2:(preS S).idxOf x<(scF S).length:=by rw[zl3 hF,←zkR hF];exact hi
   have e0:pos (preS S) (x:Int)=((preS S).idxOf x:Int):=by unfold pos;rw[if_neg h0,Int.toNat_natCast]
   rw[e0];unfold upL;rw[if_neg (by omega),if_neg h0,Int.toNat_natCast,Int.toNat_natCast,List.getElem?_eq_getElem hi2,List.getElem?_eq_getElem hx];dsimp only;rw[List.length_cons,List.length_cons,zl1 hi2 hi,List.getElem_idxOf];dsimp only;have hp:parS S x=S[x].2.2:=by unfold parS;rw[List.getD,List.getElem?_eq_getElem hx,Option.getD_some]
   rw[hp,zpO hF f _ (by have:=hF x hx;rw[hp]at this;omega)]
theorem zh2 {α β:Type} {f:α→β} {p:β→Prop} {l m:List α} (h:(l.map f).Perm (m.map f)) (hm:∀x∈m,p (f x)):∀x∈l,p (f x):=by
 intro x hx;obtain⟨y,hy,e⟩:=List.mem_map.1 (h.subset (List.mem_map_of_mem hx));rw[←e];exact hm y hy
theorem zfu {β:Type} (S:List Sc) (g:Sc→β):(List.range S.length).map (fun i=>g (S.getD i ([],0,0)))=S.map g:=by
 apply List.ext_getElem
 ·rw[List.length_map,List.length_range,List.length_map]
 ·intro i h1 h2;rw[List.length_map]at h2;rw[List.getElem_map,List.getElem_map,List.getElem_range,List.getD,List.getElem?_eq_getElem h2,Option.getD_some]
theorem zkU {S:List Sc} (hF:Fst (parS S) S.length):(preS S).Perm (List.range S.length):=
 (List.perm_ext_iff_of_nodup (zkT hF) List.nodup_range).2 fun x=>by rw[List.mem_range];exact zkS hF
theorem zl4 {β:Type} {S:List Sc} (hF:Fst (parS S) S.length) (g:Bs×Int→β):((scF S).map fun s=>g (s.1,s.2.1)).Perm (S.map fun s=>g (s.1,s.2.1)):=by
 rw[←zfu S fun s=>g (s.1,s.2.1)];unfold scF;rw[List.map_map];exact(zkU hF).map _
theorem ziP {α β γ:Type} {f:α→β} {g:α→γ}:∀{l:List α},(∀x∈l,∀y∈l,g x=g y→f x=f y)→(l.map f).Nodup→(l.map g).Nodup
 | [],_,_=>List.nodup_nil
 |a::l,h,hn=>by
  rw[List.map_cons,List.nodup_cons]at hn⊢;refine⟨fun hm=>hn.1 ?_,ziP (fun x hx y hy=>h x (by simp[hx]) y (by simp[hy])) hn.2⟩;obtain⟨y,hy,e⟩:=List.mem_map.1 hm;rw[h a (by simp) y (by simp[hy]) e.symm];exact List.mem_map_of_mem hy
theorem zqG {β:Type} {S:List Sc} {V:List Vr} (g:Vr→β) (hg:∀v x,g {v with sg:=x}=g v):(((vrF S V).1).map g).Perm ((vr1 S V).map g):=by
 unfold vrF;rw[zjf g hg];exact(zgQ _).map g
theorem zqH {β:Type} {S:List Sc} {V:List Vr} (g:Vr→β) (hg:∀v x,g {v with sg:=x}=g v) (hg2:∀v x,g {v with sc:=x}=g v):(((vrF S V).1).map g).Perm (V.map g):=by
 have h:=zqG (S:=S) (V:=V) g hg;unfold vr1 at h;rw[List.map_map,show(g∘fun v:Vr=>{v with sc:=pos (preS S) v.sc})=g from funext fun v=>hg2 v _]at h;exact h
theorem zqI {S:List Sc} {V:List Vr} (hF:Fst (parS S) S.length) (hv:∀v∈V,-1≤v.sc∧v.sc<(S.length:Int)):∀v∈(vrF S V).1,-1≤v.sc∧v.sc<(S.length:Int):=
 zh2 (f:=fun v:Vr=>v.sc) (p:=fun x=> -1≤x∧x<(S.length:Int)) (zqG (S:=S) (V:=V) (fun v=>v.sc) (fun _ _=>rfl)) (by
  intro v hm;unfold vr1 at hm;obtain⟨u,hu,rfl⟩:=List.mem_map.1 hm;have:=hv u hu;refine⟨?_,zkG hF this.2⟩;dsimp only;unfold pos;split<;>omega)
theorem zqJ {S:List Sc} {V:List Vr}:Srt (fun v:Vr=>v.sc) (vrF S V).1:=by
 have h:Srt (fun v:Vr=>v.sc) (vr2 S V):=zgS _;unfold Srt at*;have e:(vrF S V).1.map (fun v=>v.sc)=(vr2 S V).map fun v=>v.sc:=zjf (fun v:Vr=>v.sc) (fun _ _=>rfl) _ _;have h1:((vr2 S V).map fun v=>v.sc).Pairwise (· ≤ ·):=List.pairwise_map.2 h;rw[←e]at h1;exact List.pairwise_map.1 h1
theorem zj3 {S:List Sc} {V:List Vr} (h:zcw S V=0):zcw (scF S) (vrF S V).1=0∧scF (scF S)=scF S∧vrF (scF S) (vrF S V).1=((vrF S V).1,rgI (vrF S V).2.length):=by
 obtain⟨hn,hm,hd,hu,hns,hnv,hts,htv,hr,hks,hkv⟩:=zcF.1 h;have hF:=zdG hd;have hV:=zdI hd;have hl:=zl3 hF
 have hF2:Fst (parS (scF S)) (scF S).length:=by
  intro j hj;rw[hl]at hj;have hj':j<(preS S).length:=by rw[zkR hF];exact hj
  rw[zks hF j hj'];have hx:=(zkS hF).1 (List.getElem_mem hj');have hsp:preS S=(preS S).take j++(preS S)[j]::(preS S).drop (j+1):=by rw[←List.drop_eq_getElem_cons hj',List.take_append_drop]
  have hfx:=hF _ hx;rcases zkX _ _ _ _ _ hsp with h1|⟨y,hy,h1⟩
  ·rw[h1];exact⟨by show(-1:Int)≤ -1;omega,by show(-1:Int)<(j:Int);omega⟩
  ·rw[h1];obtain⟨i,hi,he⟩:=List.mem_iff_getElem.1 hy;rw[List.length_take]at hi;rw[List.getElem_take]at he;have e:(preS S).idxOf y=i:=by rw[←he,(zkT hF).idxOf_getElem]
   unfold pos;rw[if_neg (by omega),Int.toNat_natCast,e];omega
 have hsc:=zqI hF (fun v hv=>⟨(hV v hv).1,(hV v hv).2.1⟩);refine⟨zcF.2 ⟨by rw[hl];exact hn,?_,zdH hF2 (fun v hv=>⟨(hsc v hv).1,by rw[hl];exact(hsc v hv).2,zjj _ _ v hv⟩),fun i hi=>?_,?_,?_,?_,?_,?_,?_,?_⟩,zl0 hF,?_⟩
 ·have:=(zqH (S:=S) (V:=V) (fun v=>v.nm) (fun _ _=>rfl) (fun _ _=>rfl)).length_eq;rw[List.length_map,List.length_map]at this;omega
 ·rw[hl]at hi;have hi':i<(preS S).length:=by rw[zkR hF];exact hi
  have hx:=(zkS hF).1 (List.getElem_mem hi')
  have e:pos (preS S) ((preS S)[i]:Int)=(i:Int):=by
   unfold pos;rw[if_neg (by omega),Int.toNat_natCast,(zkT hF).idxOf_getElem]
  have h1:=zpO hF (i+1) ((preS S)[i]:Int) (by omega);rw[e]at h1;rw[h1];exact Nat.le_trans (zpM hF _ _ _ (by omega)) (hu _ hx)
 ·exact zh2 (f:=fun s:Sc=>s.1) (p:=fun x=>ziu x=true) (zl4 hF fun x=>x.1) hns
 ·exact zh2 (f:=fun v:Vr=>v.nm) (p:=fun x=>ziu x=true) (zqH (fun v=>v.nm) (fun _ _=>rfl) fun _ _=>rfl) hnv
 ·exact zh2 (f:=fun s:Sc=>s.2.1) (p:=fun x=>0≤x∧x≤4) (zl4 hF fun x=>x.2) hts
 ·exact zh2 (f:=fun v:Vr=>v.ty) (p:=fun x=>0≤x∧x≤18) (zqH (fun v=>v.ty) (fun _ _=>rfl) fun _ _=>rfl) htv
 ·exact zh2 (f:=fun v:Vr=>zlj v) (p:=fun x=>x=false) (zqH (fun v=>zlj v) (fun _ _=>rfl) fun _ _=>rfl) hr
 ·unfold scF;rw[List.map_map];have h1:((List.range S.length).map fun i=>zl5 (S.getD i ([],0,0))).Nodup:=by rw[zfu S zl5];exact hks
  have h2:((preS S).map fun i=>zl5 (S.getD i ([],0,0))).Nodup:=((zkU hF).map _).nodup_iff.2 h1;refine ziP (fun x hx y hy e=>?_) h2;have hx':=(zkS hF).1 hx;have hy':=(zkS hF).1 hy;injection e with e1 e2;have h3:=zkF (hF x hx').1 (hF y hy').1 (fun _=>(zkS hF).2 (by have:=hF x hx';omega)) (fun _=>(zkS hF).2 (by have:=hF y hy';omega)) e1;exact Prod.ext h3 e2
 ·have h1:=zqG (S:=S) (V:=V) zqE (fun _ _=>rfl);refine h1.nodup_iff.2 ?_;unfold vr1;rw[List.map_map];refine ziP (fun x hx y hy e=>?_) hkv;have hx':=hV x hx;have hy':=hV y hy;injection e with e1 e2;have h3:=zkF hx'.1 hy'.1 (fun _=>(zkS hF).2 (by omega)) (fun _=>(zkS hF).2 (by omega)) e1;exact Prod.ext h3 e2
 ·have h1:vr1 (scF S) (vrF S V).1=(vrF S V).1:=by
   unfold vr1;rw[zkQ hF];conv=>rhs;rw[←List.map_id (vrF S V).1]
   exact List.map_congr_left fun v hv=>by rw[zkH (hsc v hv).2];rfl
  show numF [] (zgK _ (vr1 (scF S) (vrF S V).1))=_;rw[h1,zgM zqJ];obtain⟨m,-,h2,h3⟩:=zjd (vr2 S V) [];rw[show(vrF S V).2.length=m from h2];exact h3
open Go.RowKit
section
variable {P : Program} {ops : Array Oper} {Q : Exit → Act → World → Prop} {md : Region.Mode} {S : World → Prop} {X : Nat → Bool}
def zri (P:Program) (md:Region.Mode) (ops:Array Oper) (Q:Exit→Act→World→Prop) (S:World→Prop) (X:Nat→Bool):Nat→Array Bool→Act→World→Prop
 |0,listed,a,w=>Region.ready md ops listed=[]∧Q .normal a w
 |fuel+1,listed,a,w=>(Region.ready md ops listed=[]→Q .normal a w)∧
  ∀i∈Region.ready md ops listed,wpOp P ops Q i (fun a' w'=>(X i=false→S w')∧zri P md ops Q S X fuel (listed.setIfInBounds i true) a' w') a w
theorem zro:∀(fuel:Nat) (listed:Array Bool) (a:Act) (w:World),zri P md ops Q S X fuel listed a w→wpAny P md ops Q fuel listed a w
 |0,_,_,_,h=>h
 |fuel+1,_,_,_,h=>⟨h.1,fun i hi=>wpOp_mono (fun a' w' h'=>zro fuel _ a' w' h'.2) (h.2 i hi)⟩
def zhC (md:Region.Mode) (ops:Array Oper) (X:Nat→Bool) (i:Nat):Bool:=(List.range ops.size).all fun j=>!X j||match ops[j]? with
 |some oj=>oj.after.any (fun e=>Region.binds md e&&e.on==i)
 |none=>true
theorem zhD {i j:Nat} {oj:Oper} (h:zhC md ops X i=true) (hj:ops[j]? =some oj) (hX:X j=true):∃e∈oj.after,Region.binds md e=true∧e.on=i:=by
 unfold zhC at h;rw[List.all_eq_true]at h;have h1:=h j (List.mem_range.2 (Array.getElem?_eq_some_iff.1 hj).1);rw[hX,hj]at h1;simp only[Bool.not_true,Bool.false_or]at h1;obtain⟨e,he,hb⟩:=Array.any_eq_true'.1 h1;simp only[Bool.and_eq_true,beq_iff_eq]at hb;exact⟨e,he,hb.1,hb.2⟩
theorem zrj {i:Nat} {oi:Oper} {v:Value} (hi:ops[i]? =some oi) (hsel:∀(j:Nat) (o:Oper) cs b,ops[j]? =some o→o.op≠ .select cs b)
 (hQ:∀c a w,Q (.panic c) (a.put oi.dst v) w→Q (.panic c) a w) (hX:zhC md ops X i=true):
 ∀(fuel:Nat) (listed:Array Bool) (a:Act) (w:World),
  (∀j oj,ops[j]? =some oj→j≠i→listed.getD j true=false→(∀e∈oj.after,Region.binds md e=true→e.on≠i)→oi.apart ops oj=true)→
  i∈Region.ready md ops listed→YieldsIf P ops S oi v a→S w→
  zri P md ops Q S X fuel (listed.setIfInBounds i true) (a.put oi.dst v) w→zri P md ops Q S X (fuel+1) listed a w:=by
 intro fuel;induction fuel with
 |zero=>
  intro listed a w _ hr hy hS H;refine⟨fun h=>(by rw[h]at hr;cases hr),fun j hj=>?_⟩;by_cases hji:j=i
  ·subst hji;exact hy.wpOp hi hS ⟨fun _=>hS,H⟩
  ·have:=ready_mono hj hji;rw[H.1]at this;cases this
 |succ fuel ih=>
  intro listed a w hfree hr hy hS H;refine⟨fun h=>(by rw[h]at hr;cases hr),fun j hj=>?_⟩;by_cases hji:j=i
  ·subst hji;exact hy.wpOp hi hS ⟨fun _=>hS,H⟩
  ·have h1:=H.2 j (ready_mono hj hji);obtain⟨hjun,oj,hoj,hall⟩:=mem_ready.1 hj
   have hnot:∀e∈oj.after,Region.binds md e=true→e.on≠i:=fun e he hb heq=>by
    have h1:=hall e he hb;have h0:=(mem_ready.1 hr).1;rw[heq]at h1;rcases Nat.lt_or_ge i listed.size with h'|h'
    ·simp[h']at h0 h1;rw[h0]at h1;cases h1
    ·simp[Array.getElem?_eq_none h']at h1
   have hXj:X j=false:=by
    cases hx:X j with
    |false=>rfl
    |true=>
     obtain⟨e,he,hb,heq⟩:=zhD hX hoj hx;exact absurd heq (hnot e he hb)
   have h2:=wpOp_putIf hoj (hfree j oj hoj hji hjun hnot) (fun cs b=>hsel i oi cs b hi) (fun cs b=>hsel j oj cs b hoj) hQ hy h1
   have hfree':∀k ok,ops[k]? =some ok→k≠i→(listed.setIfInBounds j true).getD k true=false→
    (∀e∈ok.after,Region.binds md e=true→e.on≠i)→oi.apart ops ok=true:=fun k ok hk hki hun hno=>by
    refine hfree k ok hk hki ?_ hno;by_cases hjk:j=k
    ·subst hjk;exact hjun
    ·rw[getD_set_ne true hjk]at hun;exact hun
   refine wpOp_mono (fun a' w' h3=>⟨fun _=>h3.2.1 hXj,ih (listed.setIfInBounds j true) a' w' hfree' (ready_mono hr (Ne.symm hji)) h3.1 (h3.2.1 hXj) ?_⟩) h2;rw[Array.setIfInBounds_comm _ _ hji];exact h3.2.2
theorem zrn {i:Nat} {oi:Oper} {v:Value} {fuel:Nat} {listed:Array Bool} {a:Act} {w:World} (hi:ops[i]? =some oi)
 (hs:Region.noSelect ops=true) (hf:Region.free md ops listed i=true) (hr:(Region.ready md ops listed).contains i=true) (hX:zhC md ops X i=true)
 (hQ:∀c a w,Q (.panic c) (a.put oi.dst v) w→Q (.panic c) a w) (hy:YieldsIf P ops S oi v a) (hS:S w)
 (h:zri P md ops Q S X fuel (listed.setIfInBounds i true) (a.put oi.dst v) w):zri P md ops Q S X (fuel+1) listed a w:=
 zrj hi (Region.noSelect_spec hs) hQ hX fuel listed a w (Region.free_spec hi hf) (by simpa using hr) hy hS h
theorem zrm {i:Nat} {o:Oper} {fuel:Nat} {listed:Array Bool} {a:Act} {w:World} (hr:Region.ready md ops listed=[i]) (ho:ops[i]? =some o)
 (h:∀K':Act→World→Prop,Shut (∀a w,(X i=false→S w)→zri P md ops Q S X fuel (listed.setIfInBounds i true) a w→K' a w)→if Region.wanted o (yielded ops a.tmps)=true then Oper.wp P o a w K' Q else K' (a.put o.dst undef) w):
 zri P md ops Q S X (fuel+1) listed a w:=by
 refine⟨fun h0=>(by rw[hr]at h0;cases h0),fun j hj=>?_⟩;rw[hr,List.mem_singleton]at hj;subst hj;exact wpOp_step ho (fun K' hK=>h K' (fun a w hS hW=>hK a w ⟨hS,hW⟩))
theorem zrt {id:Nat} {a:Act} {w:World} (hm:P.follows .mixedOrders=true)
 (h:zri P .any ops Q S X ops.size (Array.replicate ops.size false) a w.drew):(Code.region id ops true).wp P Q a w:=
 wp_region_any hm (zro _ _ _ _ h)
end
section
variable {α : Type}
def swpd (X A Y B Z:List α) (i:Nat):List α:=X++(B.take i++(A.drop i++(Y++(A.take i++(B.drop i++Z)))))
theorem zoU (X A Y B Z:List α):swpd X A Y B Z 0=X++(A++(Y++(B++Z))):=by simp[swpd]
theorem zoS {X A Y B Z:List α} (h:A.length=B.length):swpd X A Y B Z A.length=X++(B++(Y++(A++Z))):=by
 simp[swpd,h,List.take_of_length_le,List.drop_of_length_le]
theorem zoT {X A Y B Z:List α} {i:Nat} (h:A.length=B.length) (hi:i<A.length):
 ∃X1 Y1 Z1,X1.length=X.length+i∧X1.length+1+Y1.length=X.length+A.length+Y.length+i∧
  swpd X A Y B Z i=X1++A[i]::(Y1++B[i]::Z1)∧swpd X A Y B Z (i+1)=X1++B[i]::(Y1++A[i]::Z1):=by
 have hi2:i<B.length:=by omega
 refine⟨X++B.take i,A.drop (i+1)++(Y++A.take i),B.drop (i+1)++Z,?_,?_,?_,?_⟩
 ·rw[List.length_append,List.length_take];omega
 ·simp only[List.length_append,List.length_take,List.length_drop];omega
 ·unfold swpd;rw[List.drop_eq_getElem_cons hi,List.drop_eq_getElem_cons hi2];simp only[List.append_assoc,List.cons_append]
 ·unfold swpd;rw[List.take_succ_eq_append_getElem hi,List.take_succ_eq_append_getElem hi2];simp only[List.append_assoc,List.cons_append,List.nil_append]
structure Rot (m i j:Nat) (l t:List α):Prop where
 ex:∃P A B S,l=P++(A++(B++S))∧t=P++(B++(A++S))∧P.length+i=m∧A.length=i∧B.length=j
theorem Rot.more {m i j:Nat} {l t:List α} (h:Rot m i j l t) (hij:j<i):
 ∃X A Y B Z,l=X++(A++(Y++(B++Z)))∧X.length+i=m∧A.length=j∧B.length=j∧X.length+A.length+Y.length=m∧Rot m (i-j) j (X++(B++(Y++(A++Z)))) t:=by
 obtain⟨P,A,B,S,h1,h2,h3,h4,h5⟩:=h.ex;refine⟨P,A.take j,A.drop j,B,S,?_,h3,by rw[List.length_take];omega,h5,by rw[List.length_take,List.length_drop];omega,⟨P++B,A.drop j,A.take j,S,?_,?_,?_,?_,?_⟩⟩
 ·rw[h1,←List.append_assoc (A.take j),List.take_append_drop]
 ·simp
 ·rw[h2,←List.append_assoc (A.take j),List.take_append_drop];simp
 ·rw[List.length_append];omega
 ·rw[List.length_drop];omega
 ·rw[List.length_take];omega
theorem Rot.less {m i j:Nat} {l t:List α} (h:Rot m i j l t) (hij:i<j):
 ∃X A Y B Z,l=X++(A++(Y++(B++Z)))∧X.length+i=m∧A.length=i∧B.length=i∧X.length+A.length+Y.length=m+j-i∧Rot m i (j-i) (X++(B++(Y++(A++Z)))) t:=by
 obtain⟨P,A,B,S,h1,h2,h3,h4,h5⟩:=h.ex;refine⟨P,A,B.take (j-i),B.drop (j-i),S,?_,h3,h4,by rw[List.length_drop];omega,by rw[List.length_take];omega,⟨P,B.drop (j-i),B.take (j-i),A++S,?_,?_,?_,?_,?_⟩⟩
 ·rw[h1,←List.append_assoc (B.take (j-i)),List.take_append_drop]
 ·simp
 ·rw[h2,←List.append_assoc (B.take (j-i)),List.take_append_drop]
 ·omega
 ·rw[List.length_drop];omega
 ·rw[List.length_take];omega
theorem Rot.last {m i:Nat} {l t:List α} (h:Rot m i i l t):
 ∃X A B Z,l=X++(A++([]++(B++Z)))∧X.length+i=m∧A.length=i∧B.length=i∧t=X++(B++([]++(A++Z))):=by
 obtain⟨P,A,B,S,h1,h2,h3,h4,h5⟩:=h.ex;exact⟨P,A,B,S,h1,h3,h4,h5,h2⟩
theorem znS {k:α→Int} {l:List α} (h:Srt k l) {i j:Nat} (hij:i≤j) (hj:j<l.length):k (l[i]'(by omega))≤k l[j]:=by
 rcases Nat.lt_or_ge i j with h1|h1
 ·exact List.pairwise_iff_getElem.1 h i j (by omega) hj h1
 ·obtain rfl:i=j:=by omega
  exact Int.le_refl _
theorem zoW {k:α→Int} {A B:List α} (hA:Srt k A) (hB:Srt k B) {s e:Nat} (hs:s≤A.length) (he:e≤B.length) (c1:∀(h1:0<s) (h2:e<B.length),k (A[s-1]'(by omega))≤k B[e])
 (c2:∀(h1:s<A.length) (h2:0<e),k (B[e-1]'(by omega))<k A[s]):mrg k A B=mrg k (A.take s) (B.take e)++mrg k (A.drop s) (B.drop e):=by
 have h:=zio (k:=k) (A1:=A.take s) (A2:=A.drop s) (B1:=B.take e) (B2:=B.drop e) (by rw[List.take_append_drop];exact hA) (fun x hx y hy=>?_) (fun y hy x hx=>?_)
 ·rwa [List.take_append_drop,List.take_append_drop]at h
 ·obtain⟨i,hi,rfl⟩:=List.mem_iff_getElem.1 hx;obtain⟨j,hj,rfl⟩:=List.mem_iff_getElem.1 hy;rw[List.length_take]at hi;rw[List.length_drop]at hj;rw[List.getElem_take,List.getElem_drop];have h1:=znS hA (show i≤s-1 by omega) (by omega);have h2:=znS hB (show e≤e+j by omega) (by omega);have h3:=c1 (by omega) (by omega);omega
 ·obtain⟨i,hi,rfl⟩:=List.mem_iff_getElem.1 hx;obtain⟨j,hj,rfl⟩:=List.mem_iff_getElem.1 hy;rw[List.length_take]at hj;rw[List.length_drop]at hi;rw[List.getElem_take,List.getElem_drop];have h1:=znS hA (show s≤s+i by omega) (by omega);have h2:=znS hB (show j≤e-1 by omega) (by omega);have h3:=c2 (by omega) (by omega);omega
end
open Go.RowKit Go.WideMaps
abbrev BsM:=List UInt8
def vR (v:Value):Option (DataW Value×List MemPlace):=some (.held v,[])
def SMap (P:Program) (K:TypeId) (w:World) (b n:Nat) (f:BsM→Option Value):Prop:=
 ∃D:DataW Value,w.ownsMap P K vR b n D∧∀s:BsM,Maps.has D (.string s)=(f s).isSome∧∀v,f s=some v→∀z,D.atKey (.string s) z=.held v
section
variable {P : Program} {K t e : TypeId} {w : World} {b n : Nat} {f : BsM → Option Value}
theorem SMap.at (h:SMap P K w b n f) (s:BsM):∃D:DataW Value,w.ownsMap P K vR b n D∧Maps.has D (.string s)=(f s).isSome∧∀z,D.atKey (.string s) (.held z)=.held ((f s).getD z):=by
 obtain⟨D,ho,hf⟩:=h;obtain⟨h1,h2⟩:=hf s;refine⟨D,ho,h1,fun z=>?_⟩;cases hs:f s with
 |none=>
  rw[hs]at h1;exact Maps.atKey_of_not_has h1 _
 |some v=>exact h2 v hs _
theorem SMap.look (h:SMap P K w b n f) (hK:P.underlying K=some .string) (ht:P.underlying t=some (.map K e)) {z:Value} (hz:(zeroValue e).run P w=.ok z w) (s:ByteArray) (hs:s.size≤maxLen):
 (Instr.lookup t (.map (some b)) (.string s) true).run P w=.ok (.tuple #[(f s.data.toList).getD z,.bool (f s.data.toList).isSome]) w:=by
 obtain⟨D,ho,h1,h2⟩:=h.at s.data.toList;obtain⟨v,ps,hr,hv⟩:=ho.look_ok (Maps.string_keyed hK) ht hz (zd:=.held z) (zp:=[]) rfl (keyOf_string_mk hK hs);rw[hr,h1];rw[h2 z]at hv;unfold vR at hv;injection hv with hv;injection hv with hv _;injection hv with hv;rw[hv]
theorem SMap.look1 (h:SMap P K w b n f) (hK:P.underlying K=some .string) (ht:P.underlying t=some (.map K e)) {z:Value} (hz:(zeroValue e).run P w=.ok z w) (s:ByteArray) (hs:s.size≤maxLen):
 (Instr.lookup t (.map (some b)) (.string s) false).run P w=.ok ((f s.data.toList).getD z) w:=by
 obtain⟨D,ho,h1,h2⟩:=h.at s.data.toList;obtain⟨v,ps,hr,hv⟩:=ho.lookup (Maps.string_keyed hK) ht hz (zd:=.held z) (zp:=[]) rfl (keyOf_string_mk hK hs);rw[hr];rw[h2 z]at hv;unfold vR at hv;injection hv with hv;injection hv with hv _;injection hv with hv;rw[hv]
theorem zor (s:BsM):WideAt.IsKeyLit (.string s):=trivial
theorem SMap.put (h:SMap P K w b n f) (hK:P.underlying K=some .string) (ht:P.underlying t=some (.map K e)) (hn:n<maxLen) (s:ByteArray) (hs:s.size≤maxLen) (v:Value):
 ∃w',(Instr.mapUpdate t (.map (some b)) (.string s) v).run P w=.ok () w'∧SMap P K w' b (n+1) (fun x=>if x=s.data.toList then some v else f x)∧w.grownBy w' (some b):=by
 obtain⟨D,ho,hf⟩:=h;obtain⟨w',hr,ho',hg⟩:=ho.update (Maps.string_keyed hK) ht hn (keyOf_string_mk hK hs) (val:=v) (d:=.held v) (ps:=[]) rfl;refine⟨w',hr,⟨_,ho',fun x=>?_⟩,hg⟩;by_cases hx:x=s.data.toList
 ·subst hx;simp only[if_true];refine⟨Maps.has_put_same ho.isMap (zor _) _,fun u hu z=>?_⟩;injection hu with hu;subst hu;exact Maps.atKey_put_same ho.isMap (zor _) _ _
 ·have hne:(Lit.string x)≠Lit.string s.data.toList:=fun h=>hx (by injection h);simp only[if_neg hx];exact⟨(Maps.has_put_other hne _).trans (hf x).1,fun u hu z=>(Maps.atKey_put_other hne _ _).trans ((hf x).2 u hu z)⟩
theorem SMap.made (w:World) (P:Program) (K:TypeId):SMap P K (w.alloc (.map #[] 0)) w.heap.size 0 (fun _=>none):=
 ⟨_,World.ownsMap_made w P K vR,fun _=>⟨rfl,fun _ h=>by cases h⟩⟩
theorem SMap.ext (h:SMap P K w b n f) {g:BsM→Option Value} (he:∀s,f s=g s):SMap P K w b n g:=by
 rw[show g=f from funext fun s=>(he s).symm];exact h
theorem SMap.lt (h:SMap P K w b n f):b<w.heap.size:=by
 obtain⟨D,ho,-⟩:=h;exact ho.lt
theorem SMap.kept {w':World} {row:Option Nat} (h:SMap P K w b n f) (hg:w.grownBy w' row) (hne:some b≠row):SMap P K w' b n f:=by
 obtain⟨D,ho,hf⟩:=h;exact⟨D,ho.kept hg hne,hf⟩
theorem SMap.same {w':World} (h:SMap P K w b n f) (hb:w'.heap[b]? =w.heap[b]?):SMap P K w' b n f:=by
 obtain⟨D,⟨es,clock,h1,h2⟩,hf⟩:=h;exact⟨D,⟨es,clock,hb.trans h1,h2⟩,hf⟩
theorem SMap.below {w':World} {B:Nat} (h:SMap P K w b n f) (hb:Below B w w') (hB:b<B):SMap P K w' b n f:=h.same (hb.block b hB)
theorem SMap.setCell {a:Addr} (h:SMap P K w b n f) (ha:b≠a.block) (u:Value):SMap P K (w.setCell a u) b n f:=by
 obtain⟨D,ho,hf⟩:=h;exact⟨D,ho.setCell ha u,hf⟩
theorem SMap.alloc (h:SMap P K w b n f) (o:Obj):SMap P K (w.alloc o) b n f:=h.kept (World.grownBy_alloc w o none) (by simp)
theorem SMap.drew (h:SMap P K w b n f):SMap P K w.drew b n f:=h
theorem SMap.no_cells (h:SMap P K w b n f) {C:Array Value} {T:TypeId} {fr:Nat×Nat}:w.heap[b]? ≠some (.cells C T fr):=by
 obtain⟨D,⟨es,clock,h1,-⟩,-⟩:=h;rw[h1];intro h;cases h
theorem SMap.ne_row (h:SMap P K w b n f) {B T size m:Nat} {v:Value} {xs:List Value} (ho:w.ownsRow B T size v m xs):some b≠v.ownBlock:=by
 rcases ho with⟨-,⟨rfl,-⟩|⟨g,cap,cur,rfl,-,hg,-⟩⟩
 ·intro h;cases h
 ·intro e;injection e with e;subst e;exact h.no_cells hg
end
open Go.RowKit Go.WideMaps
structure KeyEnc (P:Program) (K:TypeId) (κ:Type) where
 vK:κ→Value
 lK:κ→Lit
 dom:κ→Prop
 key:∀x,dom x→WideAt.IsKeyLit (lK x)
 of:∀x,dom x→keyOf P K (vK x)=some (lK x)
 inj:∀x y,dom x→dom y→lK x=lK y→x=y
 law:Maps.Keyed P K
def KMap {P:Program} {K:TypeId} {κ:Type} (E:KeyEnc P K κ) (w:World) (b n:Nat) (f:κ→Option Value):Prop:=
 ∃D:DataW Value,w.ownsMap P K vR b n D∧∀x,E.dom x→Maps.has D (E.lK x)=(f x).isSome∧∀v,f x=some v→∀z,D.atKey (E.lK x) z=.held v
section
variable {P : Program} {K t e : TypeId} {κ : Type} {E : KeyEnc P K κ} {w : World} {b n : Nat} {f : κ → Option Value}
theorem KMap.at (h:KMap E w b n f) (x:κ) (hx:E.dom x):∃D:DataW Value,w.ownsMap P K vR b n D∧Maps.has D (E.lK x)=(f x).isSome∧∀z,D.atKey (E.lK x) (.held z)=.held ((f x).getD z):=by
 obtain⟨D,ho,hf⟩:=h;obtain⟨h1,h2⟩:=hf x hx;refine⟨D,ho,h1,fun z=>?_⟩;cases hs:f x with
 |none=>
  rw[hs]at h1;exact Maps.atKey_of_not_has h1 _
 |some v=>exact h2 v hs _
theorem KMap.look (h:KMap E w b n f) (ht:P.underlying t=some (.map K e)) {z:Value} (hz:(zeroValue e).run P w=.ok z w) (x:κ) (hx:E.dom x):
 (Instr.lookup t (.map (some b)) (E.vK x) true).run P w=.ok (.tuple #[(f x).getD z,.bool (f x).isSome]) w:=by
 obtain⟨D,ho,h1,h2⟩:=h.at x hx;obtain⟨v,ps,hr,hv⟩:=ho.look_ok E.law ht hz (zd:=.held z) (zp:=[]) rfl (E.of x hx);rw[hr,h1];rw[h2 z]at hv;unfold vR at hv;injection hv with hv;injection hv with hv _;injection hv with hv;rw[hv]
theorem KMap.look1 (h:KMap E w b n f) (ht:P.underlying t=some (.map K e)) {z:Value} (hz:(zeroValue e).run P w=.ok z w) (x:κ) (hx:E.dom x):
 (Instr.lookup t (.map (some b)) (E.vK x) false).run P w=.ok ((f x).getD z) w:=by
 obtain⟨D,ho,h1,h2⟩:=h.at x hx;obtain⟨v,ps,hr,hv⟩:=ho.lookup E.law ht hz (zd:=.held z) (zp:=[]) rfl (E.of x hx);rw[hr];rw[h2 z]at hv;unfold vR at hv;injection hv with hv;injection hv with hv _;injection hv with hv;rw[hv]
theorem KMap.put [DecidableEq κ] (h:KMap E w b n f) (ht:P.underlying t=some (.map K e)) (hn:n<maxLen) (x:κ) (hx:E.dom x) (v:Value):
 ∃w',(Instr.mapUpdate t (.map (some b)) (E.vK x) v).run P w=.ok () w'∧KMap E w' b (n+1) (fun y=>if y=x then some v else f y)∧w.grownBy w' (some b):=by
 obtain⟨D,ho,hf⟩:=h;obtain⟨w',hr,ho',hg⟩:=ho.update E.law ht hn (E.of x hx) (val:=v) (d:=.held v) (ps:=[]) rfl;refine⟨w',hr,⟨_,ho',fun y hy=>?_⟩,hg⟩;by_cases hxy:y=x
 ·subst hxy;simp only[if_true];refine⟨Maps.has_put_same ho.isMap (E.key _ hx) _,fun u hu z=>?_⟩;injection hu with hu;subst hu;exact Maps.atKey_put_same ho.isMap (E.key _ hx) _ _
 ·have hne:E.lK y≠E.lK x:=fun h=>hxy (E.inj _ _ hy hx h);simp only[if_neg hxy];exact⟨(Maps.has_put_other hne _).trans (hf y hy).1,fun u hu z=>(Maps.atKey_put_other hne _ _).trans ((hf y hy).2 u hu z)⟩
theorem KMap.made (E:KeyEnc P K κ) (w:World):KMap E (w.alloc (.map #[] 0)) w.heap.size 0 (fun _=>none):=
 ⟨_,World.ownsMap_made w P K vR,fun _ _=>⟨rfl,fun _ h=>by cases h⟩⟩
theorem KMap.ext (h:KMap E w b n f) {g:κ→Option Value} (he:∀s,f s=g s):KMap E w b n g:=by
 rw[show g=f from funext fun s=>(he s).symm];exact h
theorem KMap.lt (h:KMap E w b n f):b<w.heap.size:=by
 obtain⟨D,ho,-⟩:=h;exact ho.lt
theorem KMap.kept {w':World} {row:Option Nat} (h:KMap E w b n f) (hg:w.grownBy w' row) (hne:some b≠row):KMap E w' b n f:=by
 obtain⟨D,ho,hf⟩:=h;exact⟨D,ho.kept hg hne,hf⟩
theorem KMap.same {w':World} (h:KMap E w b n f) (hb:w'.heap[b]? =w.heap[b]?):KMap E w' b n f:=by
 obtain⟨D,⟨es,clock,h1,h2⟩,hf⟩:=h;exact⟨D,⟨es,clock,hb.trans h1,h2⟩,hf⟩
theorem KMap.below {w':World} {B:Nat} (h:KMap E w b n f) (hb:RowKit.Below B w w') (hB:b<B):KMap E w' b n f:=h.same (hb.block b hB)
theorem KMap.setCell {a:Addr} (h:KMap E w b n f) (ha:b≠a.block) (u:Value):KMap E (w.setCell a u) b n f:=by
 obtain⟨D,ho,hf⟩:=h;exact⟨D,ho.setCell ha u,hf⟩
theorem KMap.more {n':Nat} (h:KMap E w b n f) (hn:n≤n'):KMap E w b n' f:=by
 obtain⟨D,ho,hf⟩:=h;exact⟨D,ho.mono hn,hf⟩
theorem KMap.no_cells (h:KMap E w b n f) {C:Array Value} {T:TypeId} {fr:Nat×Nat}:w.heap[b]? ≠some (.cells C T fr):=by
 obtain⟨D,⟨es,clock,h1,-⟩,-⟩:=h;rw[h1];intro h;cases h
theorem KMap.ne_row (h:KMap E w b n f) {B T size m:Nat} {v:Value} {xs:List Value} (ho:w.ownsRow B T size v m xs):some b≠v.ownBlock:=by
 rcases ho with⟨-,⟨rfl,-⟩|⟨g,cap,cur,rfl,-,hg,-⟩⟩
 ·intro h;cases h
 ·intro e;injection e with e;subst e;exact h.no_cells hg
end
theorem zrr {P:Program} {K:TypeId} {κ:Type} [DecidableEq κ] {E:KeyEnc P K κ} (w:World) {ops:Array Oper} {rest:List Oper} {o:Oper} {a:Act} {Q:Exit→Act→World→Prop}
 (hg:o.guard=none) (m x v:Operand) (t:TypeId) (hop:o.op=Op.mapUpdate t m x v) (e:TypeId) (ht:P.underlying t=some (.map K e)) (b n:Nat) (f:κ→Option Value)
 (hm:a.eval m=.map (some b)) (hown:KMap E w b n f) (hn:n<maxLen) (k:κ) (val:Value) (hx:a.eval x=E.vK k) (hv:a.eval v=val) (hk:E.dom k)
 (hC:∀w',KMap E w' b (n+1) (fun y=>if y=k then some val else f y)→w.grownBy w' (some b)→wpList P ops Q rest (a.put o.dst undef) w'):
 wpList P ops Q (o::rest) a w:=by
 refine wpList_plain hg fun K' hK'=>?_;obtain⟨w',hrun,r1,r2⟩:=hown.put ht hn k hk val;unfold Oper.wp;simp[execOp,hop,hm,hx,hv,hrun,Result.andThen];exact hK' _ _ (hC w' r1 r2)
def zgz {P:Program} {K:TypeId} (hK:P.underlying K=some (.int .i64)):KeyEnc P K Int where
 vK x:=.int .i64 x
 lK x:=.int .i64 x
 dom x:=(Lit.int .i64 x).wf=true
 key _ _:=trivial
 of x hx:=Maps.keyOf_int_mk hK hx
 inj x y _ _ h:=by injection h
 law:=Maps.int_keyed hK
open Go.RowKit
theorem zjL {l n:Nat} {P:Program} {o:Oper} {a:Act} {w:World} {K K':Act→World→Prop} {Q:Exit→Act→World→Prop} (hd:∀c,o.op≠ .defer c) (h:o.wp P a w K Q) (hK:∀a w,K a w→K' a w):o.wpIn (Fence.wide.inRound l) n P a w K' Q:=by
 unfold Oper.wp at h;unfold Oper.wpIn;refine⟨fun _ _=>trivial,?_⟩;rw[show(Fence.wide.inRound l).round=some l from rfl,Oper.semAt_eq _ _ o hd];generalize (execOp a.eval o).run P w=r at h;cases r with
 |ok x w'=>
  cases x with
  |value v=>exact hK _ _ h
  |skip=>exact hK _ _ h
  |defer d=>exact hK _ _ h
  |enter f args=>
   refine⟨(fun h0=>by cases h0),(CallsIn.inRound l (callsIn_wide.2 h)).mono fun e w'' he=>?_⟩;cases e with
   |returned v=>exact hK _ _ he
   |panicked c=>exact he
   |outgrown=>exact he
  |row r args=>
   refine⟨(fun h0=>by cases h0),fun c cs _=>?_⟩;obtain⟨v,w2,hv,hs⟩:=h c cs;exact⟨v,w2,hK _ _ hv,stepsIn_wide.2 hs⟩
  |_=>exact h.elim
 |halt x w'=>
  cases x<;>exact h
theorem ziN {ops:Array Oper} (h:ops.all (fun o=>match o.op with| .defer _=>false|_=>true)=true):∀(i:Nat) (o:Oper),ops[i]? =some o→∀c,o.op≠ .defer c:=by
 intro i o ho c hc;rw[Array.all_eq_true]at h;obtain⟨hi,e⟩:=Array.getElem?_eq_some_iff.1 ho;have:=h i hi;rw[e]at this;simp[hc]at this
theorem za4 {l n:Nat} {P:Program} {md:Region.Mode} {ops:Array Oper} {Q:Exit→Act→World→Prop} (hd:∀(i:Nat) (o:Oper),ops[i]? =some o→∀c,o.op≠ .defer c) (hl:¬LetsOut Q):
 ∀(fuel:Nat) (listed:Array Bool) (a:Act) (w:World),wpAny P md ops Q fuel listed a w→wpAnyIn (Fence.wide.inRound l) n P md ops Q fuel listed a w
 |0,_,_,_,h=>h
 |fuel+1,listed,a,w,h=>by
  refine⟨h.1,fun i hi=>?_⟩;have h2:=h.2 i hi;unfold wpOp at h2;unfold wpOpIn;cases ho:ops[i]? with
  |none=>
   rw[ho]at h2;exact za4 hd hl fuel _ _ _ h2
  |some o=>
   rw[ho]at h2;simp only at h2⊢;split
   ·rename_i hw
    rw[if_pos hw]at h2;rcases h2 with h2|⟨-,h2⟩
    ·exact zjL (hd i o ho) h2 fun a w h=>za4 hd hl fuel _ _ _ h
    ·exact absurd h2 hl
   ·rename_i hw
    rw[if_neg hw]at h2;exact⟨fun _ _=>trivial,za4 hd hl fuel _ _ _ h2⟩
open Go.RowKit Go.Shelf
attribute [local go_sem] Oper.semAt_some
set_option linter.unusedSimpArgs false
structure TurnI (B:Nat) (T:TypeId) (W V:World):Prop where
 os:V.os=W.os
 tape:V.tape=W.tape
 output:V.output=W.output
 size:W.heap.size≤V.heap.size
 low:∀b,b<B→V.heap[b]? =W.heap[b]?
 cells:∀(b:Nat) (C:Array Value) (T':TypeId) (fr:Nat×Nat),T'≠T→W.heap[b]? =some (.cells C T' fr)→V.heap[b]? =some (.cells C T' fr)
structure TurnJ (B:Nat) (T:TypeId) (W V:World):Prop where
 i:TurnI B T W V
 others:∀(b:Nat) (o:Obj),o.isCells=false→W.heap[b]? =some o→V.heap[b]? =some o
structure Same0 (W V:World):Prop where
 size:W.heap.size≤V.heap.size
 cells:∀(b:Nat) (C:Array Value) (T:TypeId) (fr:Nat×Nat),W.heap[b]? =some (.cells C T fr)→V.heap[b]? =some (.cells C T fr)
theorem TurnJ.drew (B:Nat) (T:TypeId) (W:World) (n:Nat):TurnJ B T W (W.drewN n):=⟨⟨rfl,rfl,rfl,Nat.le_refl _,fun _ _=>rfl,fun _ _ _ _ _ h=>h⟩,fun _ _ _ h=>h⟩
theorem TurnJ.below {B:Nat} {T:TypeId} {W V:World} (hB:B≤W.heap.size) (h:Below W.heap.size W V):TurnJ B T W V:=
 ⟨⟨h.os,h.tape,h.output,h.size,fun b hb=>h.block b (by omega),fun b C T' fr _ hb=>by rw[h.block b (Array.getElem?_eq_some_iff.1 hb).1];exact hb⟩,fun b o _ hb=>by rw[h.block b (Array.getElem?_eq_some_iff.1 hb).1];exact hb⟩
theorem TurnJ.trans {B:Nat} {T:TypeId} {X Y Z:World} (h:TurnJ B T X Y) (k:TurnJ B T Y Z):TurnJ B T X Z:=
 ⟨⟨k.i.os.trans h.i.os,k.i.tape.trans h.i.tape,k.i.output.trans h.i.output,Nat.le_trans h.i.size k.i.size,fun b hb=>(k.i.low b hb).trans (h.i.low b hb),fun b C T' fr hT hb=>k.i.cells b C T' fr hT (h.i.cells b C T' fr hT hb)⟩,fun b o ho hb=>k.others b o ho (h.others b o ho hb)⟩
theorem TurnJ.setCell {B:Nat} {T:TypeId} {W:World} {b:Nat} {C:Array Value} {fr:Nat×Nat} (hb:W.heap[b]? =some (.cells C T fr)) (hB:B≤b) (j:Nat) (u:Value):TurnJ B T W (W.setCell ⟨b,j,none⟩ u):=by
 refine⟨⟨rfl,rfl,rfl,by simp,fun i hi=>Below.heap_setCell _ _ _ _ (by show i≠b;omega),fun i C' T' fr' hT hi=>?_⟩,fun i o ho hi=>?_⟩
 ·have hne:i≠b:=by
   rintro rfl;rw[hb]at hi;injection hi with hi;injection hi with _ hi _;exact hT hi.symm
  rw[Below.heap_setCell _ _ _ _ hne];exact hi
 ·have hne:i≠b:=by
   rintro rfl;rw[hb]at hi;injection hi with hi;subst hi;cases ho
  rw[Below.heap_setCell _ _ _ _ hne];exact hi
theorem TurnI.putObj {B:Nat} {T:TypeId} {W:World} {l:Nat} {o:Obj} (hl:W.heap[l]? =some o) (ho:o.isCells=false) (hB:B≤l) (o':Obj):TurnI B T W (W.putObj l o'):=by
 have hlt:=(Array.getElem?_eq_some_iff.1 hl).1;have hg:=grownBy_putObj' W l o';refine⟨hg.os,hg.tape,hg.output,hg.size,fun b hb=>World.putObj_heap_other (by omega),fun b C T' fr _ hb=>?_⟩
 have hne:b≠l:=by
  rintro rfl;rw[hl]at hb;injection hb with hb;subst hb;cases ho
 rw[World.putObj_heap_other hne];exact hb
theorem Same0.putObj {W:World} {l:Nat} {o:Obj} (hl:W.heap[l]? =some o) (ho:o.isCells=false) (o':Obj):Same0 W (W.putObj l o'):=by
 refine⟨(grownBy_putObj' W l o').size,fun b C T' fr hb=>?_⟩
 have hne:b≠l:=by
  rintro rfl;rw[hl]at hb;injection hb with hb;subst hb;cases ho
 rw[World.putObj_heap_other hne];exact hb
theorem zli {F:Fence} {n:Nat} {P:Program} {g:Operand} {ps:Array Tmp} {assign body:Code} {Q:Exit→Act→World→Prop} {a:Act} {w:World}
 (hro:F.round=none) (h1:1≤n) {gf:Nat} {lb:Array Value} (hg:a.eval g=.func (.func gf) #[] lb) (hFg:F.fn gf) (eg:∀args w,(callFunc gf args).run P w=.ok (.enter gf args) w)
 {encs:Nat→Array Value} {Kp:World→World→Prop} {N:Nat} {T:TypeId} {B0:Nat} (hB0:B0≤w.heap.size)
 (hiter:∀(l:Nat) (J:Nat→World→Prop) (W:World),Below w.heap.size w W→(∀k X Y,J k X→TurnJ B0 T X Y→J k Y)→
   (∀k W1,J k W1→k<N→YieldAt F (n-1-1) P l (encs k) W1 fun e W'=>e=.returned (.bool true)∧J (k+1) W'∧Kp W1 W')→J 0 W→
   CallsIn F (n-1) P gf (#[.func (.yield l) #[] #[]]++lb) W fun e W'=>(∃v,e=.returned v)∧J N W')
 (hKt:∀{A B C:World},Kp A B→Kp B C→Kp A C) (hK0:∀W V,Same0 W V→Kp W V) (hps:∀k,(encs k).size=ps.size)
 (I:Nat→World→Prop) (hI:∀k W V,I k W→TurnI B0 T W V→I k V) (h0:I 0 w)
 (hround:∀(l k:Nat) (W:World),w.heap.size≤l→I k W→k<N→
   assign.wpIn (F.inRound l) (n-1-1) P (Exit.then (fun a1 W1=>KeepsFrom w.heap.size W W1∧Kp W W1∧∀W2,Same0 W1 W2→TurnI B0 T W1 W2→body.wpIn (F.inRound l) (n-1-1) P (fun e _ W3=>e=.normal∧KeepsFrom w.heap.size W2 W3∧Kp W2 W3∧I (k+1) W3) a1 W2) (fun _ _ _=>False))
    {tmps:=(ps.zip (encs k)).foldl (fun t (p,v)=>t.setIfInBounds p v) a.tmps,defers:=[]} W)
 (hdone:∀(D:Nat) (W:World),w.heap.size≤D→I N W→W.heap[D]? =some (.deferred (some []))→Q .normal {a with defers:={target:=.collected D,args:=#[]}::a.defers} W):
 (Code.rangeFunc g ps assign body).wpIn F n P Q a w:=by
 refine wpIn_rangeFunc fun fn hfn=>?_;rw[hro];let rec':LoopState→Option Code→Loop:=fun st pe=>{state:=st,pending:=pe,fn,tmps:=a.tmps,params:=ps,assign,body,defers:=w.heap.size}
 let D:=w.heap.size
 let l:=w.heap.size+1
 let X1:World:=(w.alloc (.deferred (some []))).alloc (.loop (rec' .ready none))
 have hz1:(w.alloc (.deferred (some []))).heap.size=w.heap.size+1:=World.size_alloc _ _
 have hL1:((w.alloc (.deferred (some []))).alloc (.loop (rec' .ready none))).heap[l]? =some (.loop (rec' .ready none)):=by
  have:=World.alloc_heap_new (w.alloc (.deferred (some []))) (.loop (rec' .ready none));rwa [hz1]at this
 have hD1:((w.alloc (.deferred (some []))).alloc (.loop (rec' .ready none))).heap[D]? =some (.deferred (some [])):=(Below.heap_alloc _ _ _ (by rw[hz1];exact Nat.lt_succ_self _)).trans (World.alloc_heap_new w _);have hB1:Below w.heap.size w ((w.alloc (.deferred (some []))).alloc (.loop (rec' .ready none))):=(((Below.refl _ w).alloc (Nat.le_refl _) _).alloc (by simp) _);have hI1:I 0 ((w.alloc (.deferred (some []))).alloc (.loop (rec' .ready none))):=hI 0 _ _ h0 (TurnJ.below hB0 hB1).i;refine⟨l,[{target:=.collected D,args:=#[]}],X1,{target:=.fn (.func gf) lb,args:=#[.func (.yield l) #[] #[]]},X1,gf,#[.func (.yield l) #[] #[]]++lb,X1,run_enterLoop_outer _ _ _ _ _,?_,?_,?_,fun _=>h1,?_⟩
 ·simp only[resolve,hg];simp[go_sem]
 ·intro f' hf';simp[Target.leads]at hf';subst hf';exact hFg
 ·simp[invoke,go_sem,eg]
 refine(hiter l (fun k W=>I k W∧W.heap[l]? =some (.loop (rec' .ready none))∧W.heap[D]? =some (.deferred (some []))) _ hB1
  (fun k X Y h t=>⟨hI k X Y h.1 t.i,t.others _ _ rfl h.2.1,t.others _ _ rfl h.2.2⟩) ?_ ⟨hI1,hL1,hD1⟩).mono ?_
 ·rintro k W ⟨hi,hl,hd⟩ hk;refine⟨fn,_,assign,body,run_yield (P:=P) (args:=encs k) hl (hps k),roundIn_of_wpIn hfn (wpIn_mono (hround l k W (Nat.le_succ _) hi hk) ?_)⟩;rintro e a1 W1 hp;cases e with
  |normal=>
   obtain⟨k1,p1,hbody⟩:=hp;have hl1:=k1.same _ _ (Nat.le_succ _) hl rfl;have hd1:=k1.same _ _ (Nat.le_refl _) hd rfl;have s12:=Same0.putObj hl1 rfl (.loop {rec' .ready none with state:=.busy});have hl2:(W1.putObj l (.loop {rec' .ready none with state:=.busy})).heap[l]? =some (.loop {rec' .ready none with state:=.busy}):=World.putObj_heap_same (Array.getElem?_eq_some_iff.1 hl1).1;have hd2:(W1.putObj l (.loop {rec' .ready none with state:=.busy})).heap[D]? =some (.deferred (some [])):=(World.putObj_heap_other (Nat.ne_of_lt (Nat.lt_succ_self _))).trans hd1;refine⟨_,run_beginRound hl1 rfl,wpIn_mono (hbody _ s12 (TurnI.putObj hl1 rfl (Nat.le_trans hB0 (Nat.le_succ _)) _)) ?_⟩;rintro e3 a3 W3 ⟨rfl,k3,p3,i3⟩;have hl3:=k3.same _ _ (Nat.le_succ _) hl2 rfl;have hd3:=k3.same _ _ (Nat.le_refl _) hd2 rfl
   exact⟨_,_,run_endRound (P:=P) none hl3,rfl,⟨hI _ _ _ i3 (TurnI.putObj hl3 rfl (Nat.le_trans hB0 (Nat.le_succ _)) _),World.putObj_heap_same (Array.getElem?_eq_some_iff.1 hl3).1,(World.putObj_heap_other (Nat.ne_of_lt (Nat.lt_succ_self _))).trans hd3⟩,
    hKt p1 (hKt (hK0 _ _ s12) (hKt p3 (hK0 _ _ (Same0.putObj hl3 rfl _))))⟩
  |ret=>exact hp.elim
  |exit id=>exact hp.elim
  |goto t=>exact hp.elim
  |panic ch=>exact hp.elim
  |outgrown=>exact hp.elim
 ·rintro e W2 ⟨⟨v,rfl⟩,hi,hl,hd⟩;exact⟨none,_,run_endLoop (P:=P) hl (by simp[rec']),hdone D _ (Nat.le_refl _) (hI _ _ _ hi (TurnI.putObj hl rfl (Nat.le_trans hB0 (Nat.le_succ _)) _)) ((World.putObj_heap_other (Nat.ne_of_lt (Nat.lt_succ_self _))).trans hd)⟩
theorem zlk {F:Fence} {n:Nat} {P:Program} {g:Operand} {ps:Array Tmp} {assign body:Code} {Q:Exit→Act→World→Prop} {a:Act} {w:World}
 (hro:F.round=none) (h1:1≤n) {gf:Nat} {lb:Array Value} (hg:a.eval g=.func (.func gf) #[] lb) (hFg:F.fn gf) (eg:∀args w,(callFunc gf args).run P w=.ok (.enter gf args) w)
 {encs:Nat→Array Value} {Kp:World→World→Prop} {N:Nat} {T:TypeId}
 (hiter:∀(l:Nat) (J:Nat→World→Prop) (W:World),Below w.heap.size w W→(∀k X Y,J k X→TurnJ w.heap.size T X Y→J k Y)→
   (∀k W1,J k W1→k<N→YieldAt F (n-1-1) P l (encs k) W1 fun e W'=>e=.returned (.bool true)∧J (k+1) W'∧Kp W1 W')→J 0 W→
   CallsIn F (n-1) P gf (#[.func (.yield l) #[] #[]]++lb) W fun e W'=>(∃v,e=.returned v)∧J N W')
 (hKt:∀{A B C:World},Kp A B→Kp B C→Kp A C) (hK0:∀W V,Same0 W V→Kp W V) (hps:∀k,(encs k).size=ps.size)
 (I:Nat→World→Prop) (hI:∀k W V,I k W→TurnI w.heap.size T W V→I k V) (h0:I 0 w)
 (hround:∀(l k:Nat) (W:World),w.heap.size≤l→I k W→k<N→
   assign.wpIn (F.inRound l) (n-1-1) P (Exit.then (fun a1 W1=>KeepsFrom w.heap.size W W1∧Kp W W1∧∀W2,Same0 W1 W2→TurnI w.heap.size T W1 W2→body.wpIn (F.inRound l) (n-1-1) P (fun e _ W3=>e=.normal∧KeepsFrom w.heap.size W2 W3∧Kp W2 W3∧I (k+1) W3) a1 W2) (fun _ _ _=>False))
    {tmps:=(ps.zip (encs k)).foldl (fun t (p,v)=>t.setIfInBounds p v) a.tmps,defers:=[]} W)
 (hdone:∀(D:Nat) (W:World),w.heap.size≤D→I N W→W.heap[D]? =some (.deferred (some []))→Q .normal {a with defers:={target:=.collected D,args:=#[]}::a.defers} W):
 (Code.rangeFunc g ps assign body).wpIn F n P Q a w:=
 zli (hB0:=Nat.le_refl _) hro h1 hg hFg eg hiter hKt hK0 hps I hI h0 hround hdone
set_option linter.unusedVariables false
section
variable {α : Type} (k : α → Int)
def cs (n:Nat) (l:List α):List α:=if h:l.length≤n∨n=0 then zgK k l else zgK k (l.take n)++cs n (l.drop n)
termination_by l.length
decreasing_by rw[List.length_drop];omega
variable {k}
theorem zdj {n:Nat} {l:List α} (h:l.length≤n):cs k n l=zgK k l:=by
 rw[cs,dif_pos (Or.inl h)]
theorem zdk (n:Nat):cs k n ([]:List α)=[]:=by rw[zdj (Nat.zero_le _)];rfl
theorem zdl {n:Nat} {l:List α} (h0:0<n) (h:n≤l.length):cs k n l=zgK k (l.take n)++cs k n (l.drop n):=by
 by_cases h1:l.length≤n
 ·rw[zdj h1,List.take_of_length_le h1,List.drop_eq_nil_of_le h1,zdk,List.append_nil]
 ·rw[cs,dif_neg (by omega)]
theorem zdn {n:Nat} {l:List α} (h0:0<n) (h:2*n≤l.length):
 cs k n l=zgK k (l.take n)++(zgK k ((l.drop n).take n)++cs k n (l.drop (2*n)))∧
  mrg k (zgK k (l.take n)) (zgK k ((l.drop n).take n))=zgK k (l.take (2*n))∧cs k (2*n) l=zgK k (l.take (2*n))++cs k (2*n) (l.drop (2*n)):=by
 refine⟨?_,?_,zdl (by omega) h⟩
 ·rw[zdl h0 (by omega),zdl h0 (l:=l.drop n) (by rw[List.length_drop];omega),List.drop_drop,Nat.two_mul]
 ·rw[←zgL,Nat.two_mul,List.take_add]
theorem zdm {n:Nat} {l:List α} (h0:0<n) (h:n<l.length) (h2:l.length≤2*n):
 cs k n l=zgK k (l.take n)++zgK k (l.drop n)∧mrg k (zgK k (l.take n)) (zgK k (l.drop n))=cs k (2*n) l:=by
 refine⟨?_,?_⟩
 ·rw[zdl h0 (by omega),zdj (l:=l.drop n) (by rw[List.length_drop];omega)]
 ·rw[←zgL,List.take_append_drop,zdj h2]
end
open Go.RowKit Go.WideMaps
set_option linter.unusedSimpArgs false
theorem zhc:laidOutB Tryz.prog=true:=by kernel_rfl
theorem zcD:KeyLaw Tryz.prog 241:=deep_law_laid zhc (m:=3) (by omega) (of_decide_eq_true (by kernel_rfl)) (by kernel_rfl) (by kernel_rfl)
theorem zej:KeyLaw Tryz.prog 245:=deep_law_laid zhc (m:=3) (by omega) (of_decide_eq_true (by kernel_rfl)) (by kernel_rfl) (by kernel_rfl)
theorem zhb:∃m,Tryz.prog.types.size+1=m+2:=⟨_,(by kernel_rfl:Tryz.prog.types.size+1=(Tryz.prog.types.size-1)+2)⟩
theorem zcB:Tryz.prog.cellsOf 241=2:=by kernel_rfl
theorem zeh:Tryz.prog.cellsOf 245=5:=by kernel_rfl
theorem zcC:Tryz.prog.keyType 241=true:=by kernel_rfl
theorem zei:Tryz.prog.keyType 245=true:=by kernel_rfl
def zcA (x:ScK):Value:=.agg #[.int .i64 x.1,.string (bsB x.2)]
def zeg (x:VrK):Value:=.agg #[.int .i64 x.1,.string (bsB x.2.1),.bool x.2.2.1,.int .i64 x.2.2.2.1,.int .i64 x.2.2.2.2]
theorem zgA:Tryz.prog.cellsOf 3=1:=by kernel_rfl
theorem zos:Tryz.prog.cellsOf 9=1:=by kernel_rfl
theorem zbU:Tryz.prog.cellsOf 4=1:=by kernel_rfl
theorem zcE (x:ScK) (h1:(Lit.int .i64 x.1).wf=true) (h2:x.2.length≤maxLen):keyOf Tryz.prog 241 (zcA x)=some (.string (keyBytes [.int .i64 x.1,.string x.2])):=by
 obtain⟨m,hm⟩:=zhb;unfold keyOf;rw[Tryz.underlying241];simp only;rw[if_pos (by rw[zcC,Bool.true_and];simp[Value.formed,zcA,Tryz.underlying241,zcB]),hm];have hs:(bsB x.2).size≤maxLen:=by rw[zb1];exact h2
 simp[Program.keyLits,Tryz.underlying241,Tryz.underlying3,Tryz.underlying9,zcB,zgA,zos,zcA,Value.cells,h1,hs,zbZ]
theorem zek (x:VrK) (h1:(Lit.int .i64 x.1).wf=true) (h2:x.2.1.length≤maxLen) (h3:(Lit.int .i64 x.2.2.2.1).wf=true) (h4:(Lit.int .i64 x.2.2.2.2).wf=true):
 keyOf Tryz.prog 245 (zeg x)=some (.string (keyBytes [.int .i64 x.1,.string x.2.1,.bool x.2.2.1,.int .i64 x.2.2.2.1,.int .i64 x.2.2.2.2])):=by
 obtain⟨m,hm⟩:=zhb;unfold keyOf;rw[Tryz.underlying245];simp only;rw[if_pos (by rw[zei,Bool.true_and];simp[Value.formed,zeg,Tryz.underlying245,zeh]),hm];have hs:(bsB x.2.1).size≤maxLen:=by rw[zb1];exact h2
 simp[Program.keyLits,Tryz.underlying245,Tryz.underlying3,Tryz.underlying9,Tryz.underlying4,zeh,zgA,zos,zbU,zeg,Value.cells,h1,h3,h4,hs,zbZ]
def zcz:KeyEnc Tryz.prog 241 ScK where
 vK:=zcA
 lK x:=.string (keyBytes [.int .i64 x.1,.string x.2])
 dom x:=(Lit.int .i64 x.1).wf=true∧x.2.length≤maxLen
 key _ _:=trivial
 of x hx:=zcE x hx.1 hx.2
 inj x y hx hy h:=by
  have:=zcD.inj (zcE x hx.1 hx.2) (by rw[h];exact zcE y hy.1 hy.2);unfold zcA at this;injection this with this;simp at this;obtain⟨h1,h2⟩:=this;refine Prod.ext h1 ?_;have:=congrArg (fun b=>b.data.toList) h2;simpa[bsB] using this
 law:=Maps.Keyed.of_law zcD
def zef:KeyEnc Tryz.prog 245 VrK where
 vK:=zeg
 lK x:=.string (keyBytes [.int .i64 x.1,.string x.2.1,.bool x.2.2.1,.int .i64 x.2.2.2.1,.int .i64 x.2.2.2.2])
 dom x:=((Lit.int .i64 x.1).wf=true∧x.2.1.length≤maxLen)∧(Lit.int .i64 x.2.2.2.1).wf=true∧(Lit.int .i64 x.2.2.2.2).wf=true
 key _ _:=trivial
 of x hx:=zek x hx.1.1 hx.1.2 hx.2.1 hx.2.2
 inj x y hx hy h:=by
  have:=zej.inj (zek x hx.1.1 hx.1.2 hx.2.1 hx.2.2) (by rw[h];exact zek y hy.1.1 hy.1.2 hy.2.1 hy.2.2);obtain⟨x1,x2,x3,x4,x5⟩:=x;obtain⟨y1,y2,y3,y4,y5⟩:=y;unfold zeg at this;injection this with this;simp at this;obtain⟨h1,h2,h3,h4,h5⟩:=this;have h2':=congrArg (fun b=>b.data.toList) h2;have h2':x2=y2:=by simpa[bsB] using h2'
  subst h1 h2' h3 h4 h5;rfl
 law:=Maps.Keyed.of_law zej
section
variable {par : Nat → Int} {n : Nat}
def Dn (par:Nat→Int) (n:Nat) (p:Int) (x:Nat):Prop:=x∈pre par n (n+1) p
theorem zdV {p:Int} {x:Nat} (hx:x<n) (hp:par x=p):Dn par n p x:=zk3.2 ⟨x,hx,hp,.inl rfl⟩
theorem zdU (hF:Fst par n) {f:Nat} {p:Int} (hp: -1≤p):∀x,x∈pre par n f p→Dn par n p x:=fun x=>by
 induction x using Nat.strongRecOn with
 |ind x ih=>
  intro h;obtain⟨h1,h2,h3,h4⟩:=zk2 hF _ _ _ h;rcases h4 with h4|⟨y,hy,h4⟩
  ·exact zdV h1 h4
  ·have:=hF x h1;exact zkZ hF _ _ x y (by omega) (ih y (by omega) hy) h1 h4
theorem zdW (hF:Fst par n) {p:Int} (hp: -1≤p) {q:Nat} (hq:Dn par n p q):∀x,Dn par n q x→Dn par n p x:=fun x=>by
 induction x using Nat.strongRecOn with
 |ind x ih=>
  intro h;obtain⟨h1,h2,h3,h4⟩:=zk2 hF _ _ _ h;rcases h4 with h4|⟨y,hy,h4⟩
  ·exact zkZ hF _ _ x q (by omega) hq h1 h4
  ·have:=hF x h1;exact zkZ hF _ _ x y (by omega) (ih y (by omega) hy) h1 h4
def insF (par:Nat→Int):Nat→Int→Int→Bool
 |0,o,i=>decide (i=o)
 |f+1,o,i=>if i≤o then decide (i=o)else insF par f o (par i.toNat)
theorem zgo {f:Nat} {o i:Int} (h:i≤o):insF par f o i=decide (i=o):=by
 cases f with
 |zero=>rfl
 |succ f=>unfold insF;rw[if_pos h]
theorem zgr (hF:Fst par n) {o:Nat}:∀(x f:Nat),x<n→x≤f→(insF par f o x=true↔x=o∨Dn par n o x):=fun x=>by
 induction x using Nat.strongRecOn with
 |ind x ih=>
  intro f hx hf;by_cases hlt:x≤o
  ·rw[zgo (by omega),decide_eq_true_iff];constructor
   ·intro h;exact .inl (by omega)
   ·rintro(h|h)
    ·omega
    ·have:=(zk2 hF _ _ _ h).2.2.1;omega
  ·obtain⟨g,rfl⟩:∃g,f=g+1:=⟨f-1,by omega⟩;unfold insF;rw[if_neg (by omega),Int.toNat_natCast];have h1:=hF x hx;by_cases h0:0≤par x
   ·obtain⟨y,hy⟩:∃y:Nat,par x=(y:Int):=⟨(par x).toNat,by omega⟩;rw[hy,ih y (by omega) g (by omega) (by omega)];constructor
    ·rintro(h|h)
     ·subst h;exact .inr (zdV hx hy)
     ·exact .inr (zkZ hF _ _ x y (by omega) h hx hy)
    ·rintro(h|h)
     ·omega
     ·obtain⟨-,-,-,h4⟩:=zk2 hF _ _ _ h;rcases h4 with h4|⟨z,hz,h4⟩
      ·exact .inl (by omega)
      ·obtain rfl:y=z:=by omega
       exact .inr hz
   ·rw[zgo (by omega),decide_eq_true_iff];constructor
    ·intro h;omega
    ·rintro(h|h)
     ·omega
     ·have:=(zk2 hF _ _ _ h).2.1;omega
def Nxt (par:Nat→Int) (n:Nat):Prop:=∀i,i+1<n→0≤par (i+1)→(i:Int)=par (i+1)∨Dn par n (par (i+1)) i
theorem zjm (hF:Fst par n) (H:Nxt par n) {p:Int} (hp:0≤p) {x:Nat} (h:Dn par n p (x+1)):(x:Int)=p∨Dn par n p x:=by
 obtain⟨h1,h2,h3,h4⟩:=zk2 hF _ _ _ h;have hx:=H x h1 (by omega);rcases h4 with h4|⟨y,hy,h4⟩
 ·rw[h4]at hx;exact hx
 ·rw[h4]at hx;rcases hx with hx|hx
  ·obtain rfl:x=y:=by omega
   exact .inr hy
  ·exact .inr (zdW hF (by omega) hy x hx)
theorem zjl (hF:Fst par n) (H:Nxt par n) {p:Int} (hp:0≤p) {z:Nat} (hz:p<(z:Int)):∀d,Dn par n p (z+d)→Dn par n p z
 |0,h=>h
 |d+1,h=>by
  rcases zjm hF H hp (x:=z+d) h with h|h
  ·omega
  ·exact zjl hF H hp hz d h
theorem zk0 (hF:Fst par n) (H:Nxt par n):∀(f:Nat) (p:Int),(pre par n f p).Pairwise (· < ·)
 |0,_=>List.Pairwise.nil
 |f+1,p=>by
  rw[zk8,List.pairwise_flatMap];refine⟨fun i _=>?_,?_⟩
  ·split
   ·rw[List.pairwise_cons];refine⟨fun y hy=>?_,zk0 hF H f i⟩;have:=(zk2 hF _ _ _ hy).2.2.1;omega
   ·exact List.Pairwise.nil
  ·refine List.Pairwise.imp_of_mem ?_ List.pairwise_lt_range;intro i j hi hj hij x hx y hy;split at hx
   ·rename_i pi
    split at hy
    ·rename_i pj
     have hi:=List.mem_range.1 hi
     have hyj:j≤y:=by
      rcases List.mem_cons.1 hy with rfl|hy
      ·exact Nat.le_refl _
      ·have:=(zk2 hF _ _ _ hy).2.2.1;omega
     have hxj:x<j:=by
      rcases List.mem_cons.1 hx with rfl|hx
      ·exact hij
      ·refine Nat.lt_of_not_le fun hle=>?_;obtain⟨d,rfl⟩:∃d,x=j+d:=⟨x-j,by omega⟩;have h1:=zjl hF H (p:=i) (by omega) (z:=j) (by omega) d (zdU hF (by omega) _ hx);have h2:=(zk2 hF _ _ _ h1).2.1;have:=hF i hi;omega
     omega
    ·cases hy
   ·cases hx
theorem zk7:∀(f:Nat) (p:Int),(hF:Fst par n)→(n:Int)<(f:Int)+p+1→∀x,x∈pre par n f p→∃A B f',pre par n f p=A++x::(pre par n f' x++B)∧(n:Int)<(f':Int)+x+1
 |0,_,_,_,_,h=>by cases h
 |f+1,p,hF,hf,x,h=>by
  obtain⟨i,hi,hp,hx⟩:=zk3.1 h;obtain⟨L1,L2,hL⟩:=List.append_of_mem (List.mem_range.2 hi);have hpi:=hF i hi
  have e:pre par n (f+1) p=(L1.flatMap fun i=>if par i=p then i::pre par n f i else [])++(i::pre par n f i)++(L2.flatMap fun i=>if par i=p then i::pre par n f i else []):=by
   rw[zk8,hL,List.flatMap_append,List.flatMap_cons,if_pos hp,List.append_assoc]
  rcases hx with rfl|hx
  ·exact⟨L1.flatMap fun i=>if par i=p then i::pre par n f i else [],L2.flatMap fun i=>if par i=p then i::pre par n f i else [],f,by rw[e];simp only[List.append_assoc,List.cons_append],by omega⟩
  ·obtain⟨A,B,f',e2,hf'⟩:=zk7 f i hF (by omega) x hx;exact⟨(L1.flatMap fun i=>if par i=p then i::pre par n f i else [])++i::A,B++(L2.flatMap fun i=>if par i=p then i::pre par n f i else []),f',by rw[e,e2];simp only[List.append_assoc,List.cons_append],hf'⟩
theorem zk6 (hF:Fst par n):Nxt par n↔pre par n (n+1) (-1)=List.range n:=by
 constructor
 ·intro H
  have h1:(pre par n (n+1) (-1)).Perm (List.range n):=by
   refine(List.perm_ext_iff_of_nodup (zk4 hF _ _) List.nodup_range).2 fun x=>?_;rw[List.mem_range];exact⟨fun h=>(zk2 hF _ _ x h).1,fun h=>zkW hF x h⟩
  exact h1.eq_of_pairwise (fun a b _ _ h1 h2=>by omega) (zk0 hF H _ _) List.pairwise_lt_range
 ·intro h i hi h0;obtain⟨q,hq⟩:∃q:Nat,par (i+1)=(q:Int):=⟨(par (i+1)).toNat,by omega⟩;have hb:=hF _ hi;obtain⟨A,B,f',e,hf'⟩:=zk7 (n+1) (-1) hF (by omega) q (by rw[h,List.mem_range];omega);rw[h]at e
  have hat:∀k v,(A++q::(pre par n f' q++B))[k]? =some v→v=k:=fun k v hk=>by
   rw[←e]at hk;obtain⟨h1,h2⟩:=List.getElem?_eq_some_iff.1 hk;rw[List.getElem_range]at h2;exact h2.symm
  have hq0:q=A.length:=hat A.length q (by rw[List.getElem?_append_right (Nat.le_refl _)];simp)
  have hmem:i+1∈pre par n f' q:=by
   cases f' with
   |zero=>omega
   |succ f'=>exact zk3.2 ⟨i+1,hi,hq,.inl rfl⟩
  obtain⟨k,hk,hki⟩:=List.mem_iff_getElem.1 hmem;have hki2:(pre par n f' q)[k]? =some (i+1):=by rw[List.getElem?_eq_getElem hk,hki]
  have h1:i+1=A.length+1+k:=hat (A.length+1+k) (i+1) (by
   rw[List.getElem?_append_right (by omega),show A.length+1+k-A.length=k+1 by omega,List.getElem?_cons_succ,List.getElem?_append_left hk];exact hki2)
  rw[hq];cases k with
  |zero=>exact .inl (by omega)
  |succ k=>
   have hk':k<(pre par n f' q).length:=by omega
   have h2:(pre par n f' q)[k]=A.length+1+k:=hat (A.length+1+k) _ (by
    rw[List.getElem?_append_right (by omega),show A.length+1+k-A.length=k+1 by omega,List.getElem?_cons_succ,List.getElem?_append_left hk',List.getElem?_eq_getElem hk'])
   refine .inr (zdU hF (by omega) i (f:=f') ?_);rw[show i=(pre par n f' q)[k]by omega];exact List.getElem_mem hk'
end
def seqN:Nat→List Vr→Option Nat
 |n,[]=>some n
 |n,v::l=>if(n:Int)<v.sg then none else if v.sg=(n:Int)then seqN (n+1) l else seqN n l
theorem zmu:∀(l:List Vr) (n m:Nat),(∀v∈l,0≤v.sg)→seqN n l=some m→numF (rgI n) l=(l,rgI m)
 | [],n,m,_,h=>by
   unfold seqN at h;obtain rfl:=Option.some.inj h;rfl
 |v::l,n,m,h0,h=>by
  have hv:=h0 v (by simp);have hl:∀x∈l,0≤x.sg:=fun x hx=>h0 x (by simp[hx]);unfold seqN at h;split at h
  ·cases h
  split at h
  ·rename_i h1 h2
   have e:=zmu l (n+1) m hl h;rw[zi8 (by rw[List.contains_eq_mem,decide_eq_true_iff,zlN];omega),h2,←zlP,e,zlM];exact Prod.ext (by rw[←h2]) rfl
  ·rename_i h1 h2
   have e:=zmu l n m hl h;obtain⟨k,hk⟩:∃k:Nat,v.sg=(k:Int):=⟨v.sg.toNat,by omega⟩;rw[zi7 (by rw[List.contains_eq_mem,decide_eq_true_iff,zlN];omega),e];refine Prod.ext ?_ rfl;show({v with sg:=((rgI n).idxOf v.sg:Int)}:Vr)::l=v::l;rw[hk,zlL (by omega),←hk]
theorem zji:∀(l:List Vr) (n:Nat) (r:List Int),(∀v∈l,0≤v.sg)→numF (rgI n) l=(l,r)→∃m,seqN n l=some m
 | [],n,r,_,_=>⟨n,rfl⟩
 |v::l,n,r,h0,h=>by
  have hv:=h0 v (by simp);have hl:∀x∈l,0≤x.sg:=fun x hx=>h0 x (by simp[hx]);unfold seqN;by_cases hc:(rgI n).contains v.sg=true
  ·rw[zi7 hc]at h;injection h with h1 h2;injection h1 with h1 h3;obtain⟨m,hm⟩:=zji l n r hl (Prod.ext h3 h2);rw[List.contains_eq_mem,decide_eq_true_iff,zlN]at hc;exact⟨m,by rw[if_neg (by omega),if_neg (by omega)];exact hm⟩
  ·rw[zi8 hc]at h;injection h with h1 h2;injection h1 with h1 h3;have e:v.sg=(n:Int):=by have:=congrArg Vr.sg h1;dsimp only at this;rw[zlM]at this;exact this.symm
   rw[e,←zlP]at h3 h2;obtain⟨m,hm⟩:=zji l (n+1) r hl (Prod.ext h3 h2);exact⟨m,by rw[if_neg (by omega),if_pos e];exact hm⟩
theorem zmt:∀(l:List Vr) (n m:Nat),(∀v∈l,0≤v.sg)→seqN n l=some m→l.foldl (fun a v=>max a (v.sg+1)) (n:Int)=(m:Int)
 | [],n,m,_,h=>by unfold seqN at h;rw[Option.some.inj h];rfl
 |v::l,n,m,h0,h=>by
  have hv:=h0 v (by simp);have hl:∀x∈l,0≤x.sg:=fun x hx=>h0 x (by simp[hx]);unfold seqN at h;rw[List.foldl_cons];split at h
  ·cases h
  split at h
  ·rw[show max (n:Int) (v.sg+1)=((n+1:Nat):Int)by omega];exact zmt l (n+1) m hl h
  ·rw[show max (n:Int) (v.sg+1)=(n:Int)by omega];exact zmt l n m hl h
structure HierR (S:List Sc) (V:List Vr) (m:Nat):Prop where
 c:zcw S V=0
 n:∀i,i+1<S.length→0≤parS S (i+1)→insF (parS S) S.length (parS S (i+1)) (i:Nat)=true
 s:Srt (fun v:Vr=>v.sc) V
 q:seqN 0 V=some m
theorem zl2 {S:List Sc} (hF:Fst (parS S) S.length) (h:preS S=List.range S.length):scF S=S:=by
 unfold scF;rw[h];refine(List.map_congr_left (g:=fun i=>S.getD i ([],0,0)) fun i hi=>?_).trans ((zfu S id).trans (List.map_id _));rw[zkH (by have:=hF i (List.mem_range.1 hi);have:=List.mem_range.1 hi;omega)];rfl
theorem zqD {S:List Sc} {V:List Vr} (hV:∀v∈V,v.sc<(S.length:Int)) (h:preS S=List.range S.length):vr1 S V=V:=by
 unfold vr1;rw[h];refine(List.map_congr_left (g:=id) fun v hv=>?_).trans (List.map_id _);rw[zkH (hV v hv)];rfl
theorem zf7 {S:List Sc} {V:List Vr} {m:Nat}:HierR S V m↔zj2 S V=(S,V,rgI m,0):=by
 constructor
 ·intro h;have hc:=zcF.1 h.c;have hF:=zdG hc.d;have hV:=zdI hc.d
  have hN:Nxt (parS S) S.length:=fun i hi h0=>by
   obtain⟨q,hq⟩:∃q:Nat,parS S (i+1)=(q:Int):=⟨(parS S (i+1)).toNat,by omega⟩;have:=h.n i hi h0;rw[hq,zgr hF i S.length (by omega) (by omega)]at this;rw[hq];rcases this with h|h
   ·exact .inl (by omega)
   ·exact .inr h
  have hp:preS S=List.range S.length:=(zk6 hF).1 hN;have e1:=zl2 hF hp;have e2:=zqD (fun v hv=>(hV v hv).2.1) hp;have e3:=zmu V 0 m (fun v hv=>(hV v hv).2.2) h.q;unfold zj2 vrF vr2;rw[if_neg (by rw[h.c];simp),e1,e2,zgM h.s];rw[show rgI 0=[]from rfl]at e3;rw[e3]
 ·intro h;unfold zj2 at h;by_cases h0:zcw S V≠0
  ·rw[if_pos h0]at h;injection h with _ h;injection h with _ h;injection h with _ h;exact absurd h h0
  ·rw[if_neg h0]at h;injection h with h1 h;injection h with h2 h;injection h with h3 _;have h0:zcw S V=0:=by omega
   have hc:=zcF.1 h0;have hF:=zdG hc.d;have hV:=zdI hc.d;have hp:preS S=List.range S.length:=by have:=zkQ hF;rwa [h1]at this
   have e2:=zqD (fun v hv=>(hV v hv).2.1) hp;have hs:Srt (fun v:Vr=>v.sc) V:=by have:=zqJ (S:=S) (V:=V);rwa [h2]at this
   have h4:vrF S V=(V,rgI m):=Prod.ext h2 h3;have h5:=h4;unfold vrF vr2 at h5;rw[e2,zgM hs]at h5;obtain⟨m',hm⟩:=zji V 0 (rgI m) (fun v hv=>(hV v hv).2.2) h5;have h6:=zmu V 0 m' (fun v hv=>(hV v hv).2.2) hm;rw[show rgI 0=[]from rfl,h5]at h6;have h7:=congrArg (fun x=>x.2.length) h6;dsimp only at h7;rw[zlM,zlM]at h7;subst h7;refine⟨h0,fun i hi hq0=>?_,hs,hm⟩;obtain⟨q,hq⟩:∃q:Nat,parS S (i+1)=(q:Int):=⟨(parS S (i+1)).toNat,by omega⟩;have:=(zk6 hF).2 hp i hi hq0;rw[hq]at this⊢;rw[zgr hF i S.length (by omega) (by omega)];rcases this with h|h
   ·exact .inl (by omega)
   ·exact .inr h
end Go.Proofs.YtbiadennhnokhaaGreatDoor
