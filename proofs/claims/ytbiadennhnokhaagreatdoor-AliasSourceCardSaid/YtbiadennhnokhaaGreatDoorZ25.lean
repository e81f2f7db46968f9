import Derived.Test.YtbiadennhnokhaaGreatDoorZ00
import Derived.Test.YtbiadennhnokhaaGreatDoorZ19
import Derived.Test.YtbiadennhnokhaaGreatDoorZ23
set_option maxRecDepth 100000
set_option maxHeartbeats 16000000
namespace Go.Proofs.YtbiadennhnokhaaGreatDoor
open Go.RowKit
abbrev Dv:=Int×Int×Bool
def svS (s:Sg):Bool:=sv s.1 s.2.1 s.2.2
def zkw (st:Sg) (fr:Int) (inv:Bool) (width:Int):Sg×Bool:=
 if st.1≠0 then(st,true)else
 if(znh st.1 st.2.1 st.2.2 fr width).2=0∧inv=true then
  ((invR (znh st.1 st.2.1 st.2.2 fr width).1.1 (znh st.1 st.2.1 st.2.2 fr width).1.2.1 (znh st.1 st.2.1 st.2.2 fr width).1.2.2).1,
    decide ((invR (znh st.1 st.2.1 st.2.2 fr width).1.1 (znh st.1 st.2.1 st.2.2 fr width).1.2.1 (znh st.1 st.2.1 st.2.2 fr width).1.2.2).2=0))
 else((znh st.1 st.2.1 st.2.2 fr width).1,decide ((znh st.1 st.2.1 st.2.2 fr width).2=0))
def bvX (inv:Bool) (s:ByteArray):ByteArray:=if inv=true then zb9 s else s
theorem zkz {n:Int} {l:List Ch} {fr width:Int} (inv:Bool) (h:sv 0 n l=true) (hc:SlOk n fr width):
 ∃p,zkw (0,n,l) fr inv width=((0,width,p),true)∧sv 0 width p=true∧p.length≤l.length∧∀t,val (vi 0 width) p t=bvX inv (slB fr width (val (vi 0 n) l t)):=by
 obtain⟨p,e1,e2,e3,e4⟩:=znk h hc;unfold zkw;rw[if_neg (by simp)];simp only;rw[e1];simp only;cases inv
 ·rw[if_neg (by simp)];exact⟨p,by simp,e2,e3,fun t=>by rw[e4];rfl⟩
 ·rw[if_pos (by simp)];obtain⟨q,f1,f2,f3,f4⟩:=zgH e2;rw[f1];exact⟨q,by simp,f2,Nat.le_trans f3 e3,fun t=>by rw[f4,e4];rfl⟩
theorem zky {n:Int} {l:List Ch} {fr width:Int} (inv:Bool) (h:sv 0 n l=true) (hc:¬SlOk n fr width):(zkw (0,n,l) fr inv width).2=false:=by
 have e:znh 0 n l fr width=((0,0,[]),2):=(zni h).resolve_right hc;unfold zkw;rw[if_neg (by simp)];simp only;rw[e,if_neg (by rintro⟨h,-⟩;cases h)];rfl
theorem zkA {st:Sg} (h:st.1≠0) (fr:Int) (inv:Bool) (width:Int):zkw st fr inv width=(st,true):=by
 unfold zkw;rw[if_pos h]
def hitF (st s:Sg) (inv:Bool) (fr:Nat):Bool:=(zkw st fr inv s.2.1).2&&decide ((zkw st fr inv s.2.1).1.2.2=s.2.2)
theorem zf9 {st s:Sg} {inv:Bool} {fr:Nat} (h:hitF st s inv fr=true):(zkw st fr inv s.2.1).2=true∧(zkw st fr inv s.2.1).1.2.2=s.2.2:=by
 unfold hitF at h;rw[Bool.and_eq_true,decide_eq_true_iff]at h;exact h
theorem zf8 {n m:Int} {l q:List Ch} (h:sv 0 n l=true) (hq:sv 0 m q=true) (inv:Bool) (fr:Nat):
 hitF (0,n,l) (0,m,q) inv fr=true↔SlOk n fr m∧∀t,val (vi 0 m) q t=bvX inv (slB fr m (val (vi 0 n) l t)):=by
 by_cases hc:SlOk n fr m
 ·obtain⟨p,e1,e2,-,e4⟩:=zkz inv h hc;unfold hitF;simp only;rw[e1];simp only[Bool.true_and,decide_eq_true_iff];constructor
  ·rintro rfl;exact⟨hc,e4⟩
  ·rintro⟨-,hv⟩;exact zoO (by decide) e2 hq fun t _ _=>by rw[e4,hv]
 ·constructor
  ·intro hh;have:=(zf9 hh).1;rw[show(zkw ((0,n,l):Sg) fr inv ((0,m,q):Sg).2.1).2=false from zky inv h hc]at this;cases this
  ·rintro⟨hc',-⟩;exact absurd hc' hc
theorem zne {n:Int} {s:ByteArray} (h:vv 0 n s=true) (hn:1≤n):slB 0 n s=s:=by
 apply zbn;have h2:=(vv0 h).2;rw[znc h ⟨by omega,hn,by omega,by omega⟩,show n.toNat-(0:Int).toNat-n.toNat=0 by omega,List.drop_zero,List.take_of_length_le (by rw[←zbp];omega)]
theorem vt0 {n:Int} (h:vt 0 n=true):1≤n∧n≤128:=by
 unfold vt at h;simp at h;exact h
theorem zga {n:Int} {l:List Ch} (h:sv 0 n l=true):hitF (0,n,l) (0,n,l) false 0=true:=by
 have hn:=(vt0 (zoI.1 h).1).1
 exact(zf8 h h false 0).2 ⟨⟨by simp,hn,by omega,by simp⟩,fun t=>by
  rw[show((0:Nat):Int)=0 from rfl,zne (zqr h t) hn];rfl⟩
def tryF (st s:Sg) (inv:Bool):Option Nat:=(List.range (st.2.1-s.2.1+1).toNat).find? (hitF st s inv)
def tryD (st s:Sg):Option (Nat×Bool):=
 if st.1≠s.1 then none
 else if s.1≠0 then(if 0≤st.2.1-s.2.1∧hitF st s false 0=true then some (0,false)else none)
 else match tryF st s false with
  |some f=>some (f,false)
  |none=>(tryF st s true).map fun f=>(f,true)
theorem zpB {st s:Sg} {inv:Bool} {f:Nat} (h:tryF st s inv=some f):hitF st s inv f=true:=by
 unfold tryF at h;exact List.find?_some h
theorem zpv {st s:Sg} {f:Nat} {i:Bool} (h:tryD st s=some (f,i)):st.1=s.1∧hitF st s i f=true∧(s.1≠0→f=0∧i=false):=by
 unfold tryD at h;split at h
 ·cases h
 ·rename_i hk
  have hk':st.1=s.1:=Classical.not_not.1 hk;split at h
  ·split at h
   ·rename_i h0 h1
    injection h with h;injection h with e1 e2;subst e1 e2;exact⟨hk',h1.2,fun _=>⟨rfl,rfl⟩⟩
   ·cases h
  ·rename_i h0
   refine⟨hk',?_,fun h'=>absurd h' h0⟩;split at h
   ·rename_i g hg
    injection h with h;injection h with e1 e2;subst e1 e2;exact zpB hg
   ·cases hg:tryF st s true with
    |none=>rw[hg]at h;cases h
    |some g=>
     rw[hg]at h;injection h with h;injection h with e1 e2;subst e1 e2;exact zpB hg
def Der (st s:Sg):Prop:=(tryD st s).isSome=true
theorem zqV {k n:Int} (h:vt k n=true) (hk:k≠0):n=0:=by
 unfold vt at h;simp[hk]at h;exact h.2
theorem zoE {s:Sg} (h:svS s=true):sv s.1 s.2.1 s.2.2=true:=h
def sgAt (L:List Sg) (i:Nat):Sg:=L.getD i (0,0,[])
theorem zmB {L:List Sg} {i:Nat} (h:i<L.length):sgAt L i=L[i]:=by simp[sgAt,List.getD,List.getElem?_eq_getElem h]
def mkD (k:Nat) (p:Nat×Bool):Dv:=((k:Int),(p.1:Int),p.2)
def zdL (L:List Sg) (st:List Nat) (s:Sg):Option Dv:=
 if s.2.2=[]then some (-1,0,false)else st.findSome? fun k=>(tryD (sgAt L k) s).map (mkD k)
def zms (i:Nat):Dv:=((i:Int),0,false)
def zoh (L:List Sg) (σ:List Nat×List Dv) (i:Nat):List Nat×List Dv:=
 match zdL L σ.1 (sgAt L i)with
 |some d=>(σ.1,σ.2.set i d)
 |none=>(σ.1++ [i],σ.2.set i (zms i))
def runF (L:List Sg) (P:List Nat):List Nat×List Dv:=P.foldl (zoh L) ([],List.replicate L.length (0,0,false))
theorem zlU (L:List Sg) (P:List Nat) (i:Nat):runF L (P++ [i])=zoh L (runF L P) i:=by simp[runF,List.foldl_append]
theorem zoi (L:List Sg) (σ:List Nat×List Dv) (i:Nat):(zoh L σ i).2.length=σ.2.length:=by
 unfold zoh;split<;>simp
theorem zol (L:List Sg) (σ:List Nat×List Dv) (i:Nat):(zoh L σ i).1=σ.1∨(zoh L σ i).1=σ.1++ [i]:=by
 unfold zoh;split
 ·exact .inl rfl
 ·exact .inr rfl
theorem zfd (L:List Sg):∀(P:List Nat) (σ:List Nat×List Dv),(P.foldl (zoh L) σ).2.length=σ.2.length
 | [],_=>rfl
 |i::P,σ=>by rw[List.foldl_cons,zfd L P,zoi]
theorem zlT (L:List Sg) (P:List Nat):(runF L P).2.length=L.length:=by
 unfold runF;rw[zfd];simp
theorem zff (L:List Sg):∀(P:List Nat) (σ:List Nat×List Dv),∃Q,(P.foldl (zoh L) σ).1=σ.1++Q∧List.Sublist Q P
 | [],σ=>⟨[],by simp,List.Sublist.refl _⟩
 |i::P,σ=>by
  obtain⟨Q,h1,h2⟩:=zff L P (zoh L σ i);rw[List.foldl_cons,h1];rcases zol L σ i with h|h
  ·exact⟨Q,by rw[h],h2.cons _⟩
  ·exact⟨i::Q,by rw[h,List.append_assoc];rfl,h2.cons_cons _⟩
theorem zlV (L:List Sg) (P:List Nat):List.Sublist (runF L P).1 P:=by
 obtain⟨Q,h1,h2⟩:=zff L P ([],List.replicate L.length (0,0,false));unfold runF;rw[h1,List.nil_append];exact h2
theorem zlR (L:List Sg) (P Q:List Nat):runF L (P++Q)=Q.foldl (zoh L) (runF L P):=by simp[runF,List.foldl_append]
theorem zoj (L:List Sg) (σ:List Nat×List Dv) {i j:Nat} (h:i≠j):(zoh L σ i).2[j]? =σ.2[j]? :=by
 unfold zoh;split<;>simp[h]
theorem zfe (L:List Sg) {j:Nat}:∀(P:List Nat) (σ:List Nat×List Dv),j∉P→(P.foldl (zoh L) σ).2[j]? =σ.2[j]?
 | [],_,_=>rfl
 |i::P,σ,h=>by
  rw[List.foldl_cons,zfe L P _ (fun h'=>h (List.mem_cons_of_mem _ h')),zoj L σ (fun e=>h (by rw[e];exact List.mem_cons_self))]
theorem zlS (L:List Sg) (P Q:List Nat) (i:Nat) (hi:i<L.length) (hP:i∉P) (hQ:i∉Q):
 (runF L (P++i::Q)).2[i]? =some ((zdL L (runF L P).1 (sgAt L i)).getD (zms i))∧
 (i∈(runF L (P++i::Q)).1↔zdL L (runF L P).1 (sgAt L i)=none)∧∃R,(runF L (P++i::Q)).1=(runF L P).1++R:=by
 have hlen:=zlT L P;rw[zlR,List.foldl_cons,zfe L Q _ hQ];obtain⟨R,h1,h2⟩:=zff L Q (zoh L (runF L P) i);have hPn:i∉(runF L P).1:=fun h=>hP ((zlV L P).mem h);rw[h1];cases hd:zdL L (runF L P).1 (sgAt L i)with
 |some d=>
  have hs:zoh L (runF L P) i=((runF L P).1,(runF L P).2.set i d):=by unfold zoh;rw[hd]
  rw[hs];refine⟨?_,?_,R,rfl⟩
  ·rw[List.getElem?_set];simp[hlen,hi]
  ·constructor
   ·intro h;rcases List.mem_append.1 h with h|h
    ·exact absurd h hPn
    ·exact absurd (h2.mem h) hQ
   ·intro h;cases h
 |none=>
  have hs:zoh L (runF L P) i=((runF L P).1++ [i],(runF L P).2.set i (zms i)):=by unfold zoh;rw[hd]
  rw[hs];refine⟨?_,?_,[i]++R,by simp⟩
  ·rw[List.getElem?_set];simp[hlen,hi]
  ·exact⟨fun _=>rfl,fun _=>by simp⟩
theorem zdM {L:List Sg} {st:List Nat} {s:Sg}:zdL L st s=none↔s.2.2≠ []∧∀k∈st,¬Der (sgAt L k) s:=by
 unfold zdL;by_cases h:s.2.2=[]
 ·rw[if_pos h];simp[h]
 ·rw[if_neg h,List.findSome?_eq_none_iff];constructor
  ·intro h1;refine⟨h,fun k hk hd=>?_⟩;have:=h1 k hk;rw[Option.map_eq_none_iff]at this;unfold Der at hd;rw[this]at hd;cases hd
  ·rintro⟨-,h1⟩ k hk;rw[Option.map_eq_none_iff];have:=h1 k hk;unfold Der at this;cases ht:tryD (sgAt L k) s with
   |none=>rfl
   |some p=>rw[ht]at this;exact absurd rfl this
theorem zdN {L:List Sg} {st:List Nat} {s:Sg} {d:Dv} (h:zdL L st s=some d):(s.2.2=[]∧d=(-1,0,false))∨(s.2.2≠ []∧∃k∈st,∃p,tryD (sgAt L k) s=some p∧d=mkD k p):=by
 unfold zdL at h;by_cases hs:s.2.2=[]
 ·rw[if_pos hs]at h;exact .inl ⟨hs,(Option.some.inj h).symm⟩
 ·rw[if_neg hs]at h;obtain⟨k,hk,he⟩:=List.exists_of_findSome?_eq_some h;obtain⟨p,hp,hd⟩:=Option.map_eq_some_iff.1 he;exact .inr ⟨hs,k,hk,p,hp,hd.symm⟩
def wlt (L:List Sg) (x y:Nat):Bool:=decide ((sgAt L y).2.1<(sgAt L x).2.1)||(decide ((sgAt L x).2.1=(sgAt L y).2.1)&&decide (x<y))
def ordF (L:List Sg):List Nat:=(List.range L.length).mergeSort fun x y=>!wlt L y x
theorem zrd {L:List Sg} {x y:Nat}:wlt L x y=true↔(sgAt L y).2.1<(sgAt L x).2.1∨((sgAt L x).2.1=(sgAt L y).2.1∧x<y):=by
 unfold wlt;simp
theorem zjW (L:List Sg):(ordF L).Perm (List.range L.length):=List.mergeSort_perm _ _
theorem zjX (L:List Sg):(ordF L).Pairwise fun x y=>(!wlt L y x)=true:=by
 unfold ordF;apply List.pairwise_mergeSort
 ·intro a b c h1 h2;rw[Bool.not_eq_true',←Bool.not_eq_true,zrd]at h1 h2⊢;omega
 ·intro a b;rw[Bool.or_eq_true,Bool.not_eq_true',Bool.not_eq_true',←Bool.not_eq_true,←Bool.not_eq_true,zrd,zrd];omega
theorem zjV (L:List Sg):(ordF L).Nodup:=(zjW L).nodup_iff.2 List.nodup_range
theorem zjU {L:List Sg} {i:Nat}:i∈ordF L↔i<L.length:=by rw[(zjW L).mem_iff,List.mem_range]
theorem zjT {L:List Sg} {P Q:List Nat} {i:Nat} (h:ordF L=P++i::Q):(∀j∈P,wlt L j i=true)∧(∀j∈Q,wlt L i j=true)∧i∉P∧i∉Q∧i<L.length:=by
 have hs:=zjX L;have hn:=zjV L;have hi:i<L.length:=zjU.1 (by rw[h];simp);rw[h]at hs hn;rw[List.pairwise_append]at hs;rw[List.nodup_append]at hn;obtain⟨-,hs2,hs3⟩:=hs;obtain⟨-,hn2,hn3⟩:=hn;have hP:i∉P:=fun hp=>hn3 i hp i List.mem_cons_self rfl;have hQ:i∉Q:=(List.nodup_cons.1 hn2).1;refine⟨fun j hj=>?_,fun j hj=>?_,hP,hQ,hi⟩
 ·have:=hs3 j hj i List.mem_cons_self;have hne:j≠i:=fun e=>hP (e▸hj);rw[Bool.not_eq_true',←Bool.not_eq_true,zrd]at this;rw[zrd];omega
 ·have:=(List.pairwise_cons.1 hs2).1 j hj;have hne:j≠i:=fun e=>hQ (e▸hj);rw[Bool.not_eq_true',←Bool.not_eq_true,zrd]at this;rw[zrd];omega
def AllV (L:List Sg):Prop:=∀i,i<L.length→svS (sgAt L i)=true
def zg6 (L:List Sg):List Nat:=(runF L (ordF L)).1
theorem zg7 {L:List Sg} {i:Nat} (h:i∈zg6 L):i<L.length:=zjU.1 ((zlV L _).mem h)
theorem zg8 (L:List Sg):(zg6 L).Nodup:=(zlV L _).nodup (zjV L)
theorem zjY {L:List Sg} {i:Nat} (h:i<L.length):∃P Q,ordF L=P++i::Q:=List.append_of_mem (zjU.2 h)
theorem zg9 {L:List Sg} {P Q:List Nat} {i:Nat} (h:ordF L=P++i::Q):
 (runF L (ordF L)).2[i]? =some ((zdL L (runF L P).1 (sgAt L i)).getD (zms i))∧(i∈zg6 L↔zdL L (runF L P).1 (sgAt L i)=none)∧(∀k∈(runF L P).1,k∈zg6 L)∧∀k∈zg6 L,k∈P→k∈(runF L P).1:=by
 obtain⟨-,-,h3,h4,h5⟩:=zjT h;obtain⟨e1,e2,R,e3⟩:=zlS L P Q i h5 h3 h4;have hn:=zg8 L;unfold zg6 at hn⊢;rw[h];refine⟨e1,e2,fun k hk=>by rw[e3];exact List.mem_append_left _ hk,fun k hk hp=>?_⟩;obtain⟨S,f1,f2⟩:=zff L (i::Q) (runF L P);rw[zlR,f1]at hk;rcases List.mem_append.1 hk with hk|hk
 ·exact hk
 ·have hno:=zjV L;rw[h,List.nodup_append]at hno;exact absurd rfl (hno.2.2 k hp k (f2.mem hk))
def zon (L:List Sg):List Nat:=(zg6 L).mergeSort fun x y=>decide (x≤y)
def zlz (st:List Nat) (d:Dv):Dv:=if d.1= -1 then d else(((st.idxOf d.1.toNat:Nat):Int),d.2.1,d.2.2)
def zdO (L:List Sg):List Dv:=(runF L (ordF L)).2.map (zlz (zon L))
def zeN (L:List Sg):List Nat×List Dv:=if L.all svS=true then(zon L,zdO L)else([],[])
theorem zoP {s:Sg} (h:svS s=true):0≤s.2.1∧s.2.1≤128:=by
 have hv:=(zoI.1 h).1;by_cases h0:s.1=0
 ·rw[h0]at hv;have:=vt0 hv;omega
 ·have:=zqV hv h0;omega
theorem zoq (L:List Sg):(zon L).Perm (zg6 L):=List.mergeSort_perm _ _
theorem zop {L:List Sg} {i:Nat}:i∈zon L↔i∈zg6 L:=(zoq L).mem_iff
theorem zoo {L:List Sg} {i:Nat} (h:i∈zon L):i<L.length:=zg7 (zop.1 h)
theorem za1 {L:List Sg} (h:L.all svS=true):AllV L:=fun i hi=>by
 rw[zmB hi];exact List.all_eq_true.1 h _ (List.getElem_mem hi)
theorem zdP (L:List Sg):(zdO L).length=L.length:=by simp[zdO,zlT]
theorem zpz {s:Sg} (h:svS s=true):tryD s s=some (0,false):=by
 obtain⟨k,n,l⟩:=s;unfold tryD;rw[if_neg (by simp)];by_cases hk:k=0
 ·subst hk;rw[if_neg (by simp)]
  have hf:tryF ((0,n,l):Sg) (0,n,l) false=some 0:=by
   unfold tryF;show(List.range (n-n+1).toNat).find? _=some 0;rw[show(n-n+1).toNat=1 by omega];have:=zga (n:=n) (l:=l) h;simp[List.range_succ,this]
  rw[hf]
 ·rw[if_pos hk,if_pos];refine⟨by show 0≤n-n;omega,?_⟩;unfold hitF;rw[zkA hk];simp
theorem zgc {l:List Nat} {k:Nat} (h:k∈l):l[l.idxOf k]? =some k:=by
 have:=List.idxOf_lt_length_of_mem h;rw[List.getElem?_eq_getElem this,List.getElem_idxOf this]
theorem zlA (st:List Nat) (k:Nat) (p:Nat×Bool):zlz st (mkD k p)=mkD (st.idxOf k) p:=by
 unfold zlz mkD;rw[if_neg (by simp only;omega)];simp
theorem zeO {L:List Sg} (hv:AllV L) {i:Nat} (hi:i<L.length):
 ((sgAt L i).2.2=[]∧i∉zon L∧(zdO L)[i]? =some (-1,0,false))∨
 ((sgAt L i).2.2≠ []∧∃j k p,(zon L)[j]? =some k∧(zdO L)[i]? =some (mkD j p)∧tryD (sgAt L k) (sgAt L i)=some p∧(i∈zon L→k=i∧p=(0,false))):=by
 obtain⟨P,Q,h⟩:=zjY hi;obtain⟨e1,e2,e3,e4⟩:=zg9 h
 have e5:(zdO L)[i]? =some (zlz (zon L) ((zdL L (runF L P).1 (sgAt L i)).getD (zms i))):=by
  unfold zdO;rw[List.getElem?_map,e1];rfl
 rw[e5];cases hd:zdL L (runF L P).1 (sgAt L i)with
 |none=>
  have hs:i∈zon L:=zop.2 (e2.2 hd);refine .inr ⟨(zdM.1 hd).1,(zon L).idxOf i,i,(0,false),zgc hs,?_,zpz (hv i hi),fun _=>⟨rfl,rfl⟩⟩;show some (zlz (zon L) (mkD i (0,false)))=_;rw[zlA]
 |some d=>
  have hn:i∉zon L:=fun hs=>by
   have:=e2.1 (zop.1 hs);rw[hd]at this;cases this
  rcases zdN hd with⟨h1,rfl⟩|⟨h1,k,hk,p,hp,rfl⟩
  ·exact .inl ⟨h1,hn,rfl⟩
  ·refine .inr ⟨h1,(zon L).idxOf k,k,p,zgc (zop.2 (e3 k hk)),?_,hp,fun hs=>absurd hs hn⟩;show some (zlz (zon L) (mkD k p))=_;rw[zlA]
theorem zlW {L:List Sg} {i:Nat} (hi:i<L.length):∃d,(runF L (ordF L)).2[i]? =some d∧
 ((d=(-1,0,false)∧(sgAt L i).2.2=[]∧i∉zg6 L)∨(∃k p,d=mkD k p∧k∈zg6 L∧(sgAt L i).2.2≠ []∧(i∈zg6 L↔d=zms i))):=by
 obtain⟨P,Q,h⟩:=zjY hi;obtain⟨e1,e2,e3,e4⟩:=zg9 h;obtain⟨-,-,hP,-,-⟩:=zjT h;refine⟨_,e1,?_⟩;cases hd:zdL L (runF L P).1 (sgAt L i)with
 |none=>
  have hs:=e2.2 hd;exact .inr ⟨i,(0,false),rfl,hs,(zdM.1 hd).1,fun _=>rfl,fun _=>hs⟩
 |some d=>
  have hn:i∉zg6 L:=fun hs=>by
   have:=e2.1 hs;rw[hd]at this;cases this
  rcases zdN hd with⟨h1,rfl⟩|⟨h1,k,hk,p,hp,rfl⟩
  ·exact .inl ⟨rfl,h1,hn⟩
  ·refine .inr ⟨k,p,rfl,e3 k hk,h1,fun h=>absurd h hn,fun h=>?_⟩;exfalso
   have h2:((k:Int),(p.1:Int),p.2)=((i:Int),0,false):=h;have h3:=congrArg Prod.fst h2;dsimp only at h3;obtain rfl:k=i:=by omega
   exact hP ((zlV L P).mem hk)
theorem zeS (L:List Sg):∀d∈(runF L (ordF L)).2,d.1= -1∨∃k:Nat,d.1=(k:Int)∧k∈zon L:=by
 intro d hd;obtain⟨i,hi,rfl⟩:=List.getElem_of_mem hd;rw[zlT]at hi;obtain⟨d,e1,e2⟩:=zlW (L:=L) hi;rw[List.getElem?_eq_getElem (by rw[zlT];exact hi)]at e1;rw[Option.some.inj e1];rcases e2 with⟨rfl,-,-⟩|⟨k,p,rfl,h,-,-⟩
 ·exact .inl rfl
 ·exact .inr ⟨k,rfl,zop.2 h⟩
theorem zeR (L:List Sg):(zg6 L).length≤L.length:=by
 have:=(zlV L (ordF L)).length_le;rw[(zjW L).length_eq,List.length_range]at this;exact this
def ze6 (s:Sg) (st:List Sg) (d:Dv):Bool:=
 if d.1< -1∨(st.length:Int)≤d.1 then false
 else if d.1≠ -1∧(sgAt st d.1.toNat).1≠s.1 then false
 else if d.1= -1∨s.1≠0 then decide (d.2.1=0)&&!d.2.2
 else decide (0≤d.2.1)&&decide (d.2.1≤(sgAt st d.1.toNat).2.1-s.2.1)
def tyS (s:Sg):Bool:=vt s.1 s.2.1
def zqw (l st:List Sg) (d:List Dv):Bool:=
 decide (l.length≤64)&&decide (st.length≤64)&&decide (d.length=l.length)&&l.all tyS&&st.all tyS&&(l.zip d).all fun p=>ze6 p.1 st p.2
theorem zqz {l st:List Sg} {d:List Dv} (h:zqw l st d=true):l.length≤64∧st.length≤64∧d.length=l.length∧∀(i:Nat) s e,l[i]? =some s→d[i]? =some e→ze6 s st e=true:=by
 unfold zqw at h;rw[Bool.and_eq_true,Bool.and_eq_true,Bool.and_eq_true,Bool.and_eq_true,Bool.and_eq_true,decide_eq_true_iff,decide_eq_true_iff,decide_eq_true_iff,List.all_eq_true,List.all_eq_true,List.all_eq_true]at h;obtain⟨⟨⟨⟨⟨h1,h2⟩,h3⟩,-⟩,-⟩,h6⟩:=h;refine⟨h1,h2,h3,fun i s e hs he=>?_⟩;exact h6 (s,e) (List.mem_iff_getElem?.2 ⟨i,by rw[List.getElem?_zip_eq_some];exact⟨hs,he⟩⟩)
def zlC (st:List Sg) (s:Sg) (d:Dv):Sg:=(s.1,s.2.1,if d.1= -1 then []else(zkw (sgAt st d.1.toNat) d.2.1 d.2.2 s.2.1).1.2.2)
def zlD (l st:List Sg) (d:List Dv):List Sg×Int:=if st.all svS=true∧zqw l st d=true then((l.zip d).map (fun p=>zlC st p.1 p.2),0)else([],1)
theorem zpD {s:Sg} (h:tyS s=true):0≤s.2.1∧s.2.1≤128:=by
 have hv:vt s.1 s.2.1=true:=h;by_cases h0:s.1=0
 ·rw[h0]at hv;have:=vt0 hv;omega
 ·have:=zqV hv h0;omega
theorem zoN {s:Sg} (h:svS s=true):tyS s=true:=(zoI.1 h).1
def zbr (L:List Sg):List Sg:=(zon L).map (sgAt L)
theorem zbs {L:List Sg} {j k:Nat} (h:(zon L)[j]? =some k):sgAt (zbr L) j=sgAt L k:=by
 unfold sgAt zbr;rw[List.getD,List.getElem?_map,h];rfl
theorem zbu {L:List Sg} (hv:AllV L):(zbr L).all svS=true:=by
 rw[List.all_eq_true];intro x hx;obtain⟨k,hk,rfl⟩:=List.mem_map.1 hx;exact hv k (zoo hk)
theorem zbt (L:List Sg):(zbr L).length≤L.length:=by
 unfold zbr;rw[List.length_map,(zoq L).length_eq];have:=(zlV L (ordF L)).length_le;rw[(zjW L).length_eq,List.length_range]at this;exact this
theorem zrw {α β:Type} {l:List α} {d:List β} {p:α×β} (h:p∈l.zip d):∃i:Nat,l[i]? =some p.1∧d[i]? =some p.2:=by
 obtain⟨i,hi⟩:=List.mem_iff_getElem?.1 h;rw[List.getElem?_zip_eq_some]at hi;exact⟨i,hi⟩
theorem zmC {L:List Sg} {i:Nat} {s:Sg} (h:L[i]? =some s):sgAt L i=s∧i<L.length:=by
 obtain⟨h1,h2⟩:=List.getElem?_eq_some_iff.1 h;exact⟨by rw[zmB h1,h2],h1⟩
theorem zeP {L:List Sg} (hv:AllV L) {i:Nat} {s:Sg} {d:Dv} (hs:L[i]? =some s) (hd:(zdO L)[i]? =some d):ze6 s (zbr L) d=true∧zlC (zbr L) s d=s:=by
 obtain⟨rfl,hi⟩:=zmC hs;have hsv:=hv i hi;rcases zeO hv hi with⟨h1,h2,h3⟩|⟨h1,j,k,p,h2,h3,h4,h5⟩
 ·rw[hd]at h3;obtain rfl:=Option.some.inj h3;refine⟨?_,?_⟩
  ·unfold ze6;dsimp only;rw[if_neg (by omega),if_neg (by simp),if_pos (.inl rfl)];rfl
  ·unfold zlC;rw[if_pos rfl,←h1]
 ·rw[hd]at h3;obtain rfl:=Option.some.inj h3
  have hjl:j<(zbr L).length:=by
   unfold zbr;rw[List.length_map];exact(List.getElem?_eq_some_iff.1 h2).1
  have hkl:=zoo (List.mem_of_getElem? h2);have hkv:=hv k hkl;obtain⟨f,inv⟩:=p;obtain⟨t1,t2,t3⟩:=zpv h4;have e1:sgAt (zbr L) (((j:Nat):Int)).toNat=sgAt L k:=by rw[Int.toNat_natCast,zbs h2]
  generalize sgAt L k=a at t1 t2 hkv h4 e1;generalize sgAt L i=b at t1 t2 t3 hsv h1 h4;obtain⟨k1,n1,l1⟩:=a;obtain⟨k2,n2,l2⟩:=b;obtain rfl:k1=k2:=t1;have hh:=(zf9 t2).2;refine⟨?_,?_⟩
  ·unfold ze6 mkD;dsimp only;rw[e1,if_neg (by omega),if_neg (by rintro⟨-,h⟩;exact h rfl)];by_cases hk:k1=0
   ·subst hk
    rw[if_neg (fun h=>h.elim (fun h=>by omega) fun h=>h rfl)]
    obtain⟨c,-⟩:=(zf8 hkv hsv inv f).1 t2;have c':0≤(f:Int)∧1≤n2∧n2≤n1∧(f:Int)≤n1-n2:=c;rw[Bool.and_eq_true,decide_eq_true_iff,decide_eq_true_iff];show(0:Int)≤f∧(f:Int)≤n1-n2;omega
   ·obtain⟨rfl,rfl⟩:=t3 hk;rw[if_pos (.inr hk)];rfl
  ·unfold zlC mkD;dsimp only;rw[e1,if_neg (by omega)];show((k1,n2,(zkw (k1,n1,l1) (f:Int) inv n2).1.2.2):Sg)=(k1,n2,l2);rw[show(zkw (k1,n1,l1) (f:Int) inv n2).1.2.2=l2 from hh]
theorem zeZ {L:List Sg} (hv:AllV L) (hl:L.length≤64):zqw L (zbr L) (zdO L)=true:=by
 have hb:=zbt L;unfold zqw;rw[Bool.and_eq_true,Bool.and_eq_true,Bool.and_eq_true,Bool.and_eq_true,Bool.and_eq_true,decide_eq_true_iff,decide_eq_true_iff,decide_eq_true_iff,List.all_eq_true,List.all_eq_true,List.all_eq_true];refine⟨⟨⟨⟨⟨hl,by omega⟩,zdP L⟩,fun x hx=>?_⟩,fun x hx=>zoN (List.all_eq_true.1 (zbu hv) x hx)⟩,fun p hp=>?_⟩
 ·obtain⟨i,hi,rfl⟩:=List.getElem_of_mem hx;have:=hv i hi;rw[zmB hi]at this;exact zoN this
 ·obtain⟨i,h1,h2⟩:=zrw hp;exact(zeP hv h1 h2).1
theorem zeT {L:List Sg} (hv:AllV L) {i:Nat} {s:Sg} {d:Dv} (hs:L[i]? =some s) (hd:(zdO L)[i]? =some d):d.1= -1↔s.2.2=[]:=by
 obtain⟨rfl,hi⟩:=zmC hs;rcases zeO hv hi with⟨h1,-,h3⟩|⟨h1,j,k,p,h2,h3,-,-⟩
 ·rw[hd]at h3;obtain rfl:=Option.some.inj h3;exact⟨fun _=>h1,fun _=>rfl⟩
 ·rw[hd]at h3;obtain rfl:=Option.some.inj h3;exact⟨fun h=>by unfold mkD at h;simp only at h;omega,fun h=>absurd h h1⟩
def zll (d:Dv) (k n:Int) (v:ByteArray):ByteArray:=
 if vt k n=false then⟨#[]⟩else if d.1= -1 then vi k n else if k≠0 then(if vv k n v=true then v else⟨#[]⟩)
 else if(slR v d.2.1 n).2≠0 then⟨#[]⟩else bvX d.2.2 (slR v d.2.1 n).1
def zkI (d:Dv) (x st:Sg):Bool:=decide (x.1=st.1)&&(if x.1≠0 then decide (d.2.1=0)&&!d.2.2 else decide (0≤d.2.1)&&decide (d.2.1≤st.2.1-x.2.1))
def derG (d:Dv) (x st:Sg):Sg:=(x.1,x.2.1,zi2 x.1 x.2.1 (st.2.2.map (mvC (zll d x.1 x.2.1))))
theorem zir {f:ByteArray→ByteArray}:∀{l:List Ch},(∀c∈l,f c.2=c.2)→l.map (mvC f)=l
 | [],_=>rfl
 |c::l,h=>by
  rw[List.map_cons,zir fun d hd=>h d (List.mem_cons_of_mem _ hd)];unfold mvC;rw[h c List.mem_cons_self]
theorem zlm {d:Dv} {n m:Int} {v:ByteArray} (hd:d.1≠ -1) (hv:vv 0 n v=true) (hm:vt 0 m=true) (hc:SlOk n d.2.1 m):zll d 0 m v=bvX d.2.2 (slB d.2.1 m v):=by
 unfold zll;rw[if_neg (by rw[hm];simp),if_neg hd,if_neg (by simp),if_neg (by rw[(zng hv).2 hc];simp)];rfl
theorem zqX {n:Int} {v:ByteArray} (i:Bool) (h:vv 0 n v=true):vv 0 n (bvX i v)=true:=by
 cases i
 ·exact h
 ·exact zqY h
theorem zcd {n:Int} (i:Bool) (h:vt 0 n=true):bvX i (vi 0 n)=vi 0 n:=by
 cases i
 ·rfl
 ·exact zgI h
theorem zkJ {d:Dv} {n m:Int} {l q:List Ch} (hm:vt 0 m=true):zkI d (0,m,q) (0,n,l)=true↔SlOk n d.2.1 m:=by
 have:=vt0 hm;unfold zkI SlOk;simp;omega
theorem zdJ {d:Dv} {x st:Sg} (hs:svS st=true) (hx:vt x.1 x.2.1=true) (hd:d.1≠ -1) (hp:zkI d x st=true):(derG d x st).2.2=(zkw st d.2.1 d.2.2 x.2.1).1.2.2∧(zkw st d.2.1 d.2.2 x.2.1).2=true:=by
 obtain⟨k,n,l⟩:=st;obtain⟨k2,m,q⟩:=x
 have hk:k2=k:=by
  unfold zkI at hp;rw[Bool.and_eq_true,decide_eq_true_iff]at hp;exact hp.1
 subst hk;by_cases h0:k2=0
 ·subst h0;have hc:=(zkJ hx).1 hp;obtain⟨p,e1,e2,-,e4⟩:=zkz d.2.2 hs hc;rw[show zkw ((0,n,l):Sg) d.2.1 d.2.2 m=((0,m,p),true)from e1];refine⟨?_,rfl⟩;have hvt:=(zoI.1 hs).1;have hf:∀s,vv 0 n s=true→zll d 0 m s=bvX d.2.2 (slB d.2.1 m s):=fun s h=>zlm hd h hx hc
  have hN:Nrm 0 m (l.map (mvC (zll d 0 m))):=zh1 hs hx fun s h=>by
   rw[hf s h];exact zqX _ (zq0 h hc)
  show zi2 0 m (l.map (mvC (zll d 0 m)))=p;refine zoO (by decide) hN.sv e2 fun t _ _=>?_;rw[hN.val,e4];have hv:=zp7 (zll d 0 m) t l (vi 0 n);have hvi:zll d 0 m (vi 0 n)=vi 0 m:=by rw[hf _ (zq1 hvt),(znd hvt hc).2,zcd _ hx]
  rw[hvi]at hv;rw[hv,hf _ (zqr hs t)]
 ·rw[zkA h0];refine⟨?_,rfl⟩;have hm0:m=0:=zqV hx h0;have hn0:n=0:=zqV (zoI.1 hs).1 h0;subst hm0 hn0;show zi2 k2 0 (l.map (mvC (zll d k2 0)))=l;have hx':vt k2 0=true:=hx;rw[zir fun c hc=>?_]
  ·exact zoL hs
  ·have hcv:=((zoF hs).2.2.2 c hc).2;unfold zll;rw[if_neg (by rw[hx'];simp),if_neg hd,if_pos h0,if_pos hcv]
def nats (st:List Nat):List Value:=st.map fun(k:Nat)=>Value.int .i64 (k:Int)
def zaj (b:Bool) (w:World) (e:Ending) (w':World):Prop:=(∃i:Int,e=.returned (.int .i64 i)∧decide (0≤i)=b∧ -1≤i)∧Below w.heap.size w w'
theorem za5 {p:Sg→Bool} {L:List (Sg×Value)} {j:Nat} (h:j<L.length):(L.drop j).any (fun x=>p x.1)=(p L[j].1||(L.drop (j+1)).any (fun x=>p x.1)):=by
 rw[List.drop_eq_getElem_cons h,List.any_cons]
theorem zgT (pt:Nat) (p:Sg→Bool) (v:Value) (L:List (Sg×Value)) (w:World) (hs:Sigs w v L)
 (hF:∀x∈L,∀W,Below w.heap.size w W→Calls Tryz.prog 154 #[.agg #[.int .i64 x.1.1,.int .i64 x.1.2.1,x.2],.pointer (some ⟨pt,0,none⟩)] W fun e w'=>e=.returned (.bool (p x.1))∧Below W.heap.size W w'):
 Calls Tryz.prog 108 #[v,.func (.func 154) #[] #[.pointer (some ⟨pt,0,none⟩)]] w (zaj (L.any fun x=>p x.1) w):=by
 obtain⟨a,cap,rfl,hc,hm⟩:=hs.s.shape;unfold maxLen at hm;have HS:=lhd hs;have HF:=lhd hF;clear hs hF;go_enter Tryz.func108,Tryz.ntmps108;go_wp2_with fail;go_loopw [8] (fun i wr=>∃j:Nat,j≤L.length∧i=.int .i64 j∧(L.drop j).any (fun x=>p x.1)=L.any (fun x=>p x.1)∧Below w.heap.size w wr) (fun i _=>L.length-(intOf i).toNat)
 case atStart=>exact⟨0,Nat.zero_le _,rfl,rfl,Below.refl _ _⟩
 case round=>
  obtain⟨j,hj,rfl,hgo,hb⟩:=hrel;have HGO:=lhd hgo;have HB:=lhd hb;clear hgo hb;by_cases hlt:j<L.length
  ·obtain⟨b,o,rfl,d0,d1,d2,hd⟩:=(HS.out.below HB.out).at hlt;have HC:=lhd (fun W hW=>HF.out L[j] (List.getElem_mem hlt) W hW);have HGO2:=lhd ((za5 (p:=p) hlt).symm.trans HGO.out);generalize L[j]=x at d0 d1 d2 hd HC HGO2;obtain⟨⟨xk,xn,xl⟩,xv⟩:=x;dsimp only at d0 d1 d2 hd HC HGO2;obtain⟨xa,xc,rfl,-,-⟩:=hd.shape;clear hd;go_wp2_with fail;refine(HC.out _ HB.out).mono ?_;rintro e w1 ⟨rfl,hb1⟩;have HB1:=lhd (zeG HB.out hb1);clear hb1 d0 d1 d2;cases hp:p (xk,xn,xl)
   ·have HGO3:=lhd (show(L.drop (j+1)).any (fun x=>p x.1)=L.any (fun x=>p x.1)by rw[←HGO2.out,hp,Bool.false_or]);clear hp;go_wp2_with fail;go_roundw;case rel=>exact⟨j+1,by omega,by go_num,HGO3.out,HB1.out⟩
    case measure=>simp[intOf];omega
   ·have HR:=lhd (show true=L.any (fun x=>p x.1)by rw[←HGO2.out,hp];rfl);clear hp;go_wp2_with fail;go_ret;exact⟨⟨j,rfl,by rw[←HR.out];simp,by omega⟩,HB1.out⟩
  ·obtain rfl:j=L.length:=by omega
   have HR:=lhd (show false=L.any (fun x=>p x.1)by rw[←HGO.out,List.drop_length];rfl);go_wp2_with fail;go_ret;exact⟨⟨-1,rfl,by rw[←HR.out];rfl,by omega⟩,HB.out⟩
theorem zc2 (pt:Nat) (p:Sg→Bool) (v:Value) (L:List (Sg×Value)) (w:World) (hs:Sigs w v L)
 (hF:∀x∈L,∀W,Below w.heap.size w W→Calls Tryz.prog 154 #[.agg #[.int .i64 x.1.1,.int .i64 x.1.2.1,x.2],.pointer (some ⟨pt,0,none⟩)] W fun e w'=>e=.returned (.bool (p x.1))∧Below W.heap.size W w'):
 Calls Tryz.prog 41 #[v,.func (.func 154) #[] #[.pointer (some ⟨pt,0,none⟩)]] w fun e w'=>e=.returned (.bool (L.any fun x=>p x.1))∧Below w.heap.size w w':=by
 have HI:=lhd (zgT pt p v L w hs hF);generalize (L.any fun x=>p x.1)=r at HI⊢;obtain⟨a,cap,rfl,hc,hm⟩:=hs.s.shape;clear hs hF;go_enter Tryz.func41,Tryz.ntmps41;go_wp2_with fail;refine HI.out.mono ?_;rintro e w1 ⟨⟨i,rfl,hi,hi1⟩,hb⟩;have HH:=lhd hi;clear hi;go_wp2_with fail;go_ret;exact⟨zlE HH.out,hb⟩
open Go.Joins Go.ChangeShapes Go.WideShapes Go.RowKit Go.Deep
def dvC (d:Dv):List Value:=[.int .i64 d.1,.int .i64 d.2.1,.bool d.2.2]
def dvs (l:List Dv):List Value:=l.flatMap dvC
theorem zd2 (d:Dv) (l:List Dv):dvs (d::l)=.int .i64 d.1::.int .i64 d.2.1::.bool d.2.2::dvs l:=rfl
theorem zd3 (l:List Dv):(dvs l).length=3*l.length:=by
 induction l with
 |nil=>rfl
 |cons x l ih=>rw[zd2,List.length_cons,List.length_cons,List.length_cons,List.length_cons,ih];omega
theorem zd1:∀(l:List Dv) (k:Nat) (h:k<l.length),(dvs l)[3*k]? =some (.int .i64 l[k].1)∧(dvs l)[3*k+1]? =some (.int .i64 l[k].2.1)∧(dvs l)[3*k+2]? =some (.bool l[k].2.2)
 |x::l,0,_=>⟨rfl,rfl,rfl⟩
 |x::l,k+1,h=>by
  have:=zd1 l k (by simpa using h);rw[zd2,show 3*(k+1)=3*k+1+1+1 by omega];simpa using this
theorem za0 (s:Sg) (v:Value) (w:World) (hv:∃a n c,v=.slice a n c):Calls Tryz.prog 106 #[.agg #[.int .i64 s.1,.int .i64 s.2.1,v]] w fun e w'=>e=.returned (.bool (tyS s))∧Below w.heap.size w w':=by
 obtain⟨a,n,c,rfl⟩:=hv;go_enter Tryz.func106,Tryz.ntmps106;go_wp2_with fail;refine(zpV s.1 s.2.1 _).mono ?_;rintro e w1 ⟨rfl,hb⟩;go_wp2_with fail;go_ret;exact⟨rfl,zeF hb⟩
theorem zaQ (pt:Nat) (s:Sg) (v:Value) (w:World) (hp:w.cell? ⟨pt,0,none⟩=some (.func (.func 43) #[] #[])) (hv:∃a n c,v=.slice a n c)
 (hF:∀W,Below w.heap.size w W→Calls Tryz.prog 43 #[.agg #[.int .i64 s.1,.int .i64 s.2.1,v]] W fun e w'=>e=.returned (.bool (svS s))∧Below W.heap.size W w'):
 Calls Tryz.prog 154 #[.agg #[.int .i64 s.1,.int .i64 s.2.1,v],.pointer (some ⟨pt,0,none⟩)] w fun e w'=>e=.returned (.bool (!svS s))∧Below w.heap.size w w':=by
 obtain⟨a,n,c,rfl⟩:=hv;have HF:=lhd hF;have hp':=zcm hp (.cells #[.int .i64 s.1,.int .i64 s.2.1,.slice a n c] 45);clear hF hp;go_enter Tryz.func154,Tryz.ntmps154;go_wp2_with fail;refine(HF.out _ ((Below.refl _ _).alloc (Nat.le_refl _) _)).mono ?_;rintro e w1 ⟨rfl,hb⟩;go_wp2_with fail;go_ret;exact⟨rfl,zeF hb⟩
theorem zaS (v:Value) (L:List (Sg×Value)) (w:World) (hs:Sigs w v L)
 (hF:∀x∈L,∀W,Below w.heap.size w W→Calls Tryz.prog 43 #[.agg #[.int .i64 x.1.1,.int .i64 x.1.2.1,x.2]] W fun e w'=>e=.returned (.bool (svS x.1))∧Below W.heap.size W w'):
 Calls Tryz.prog 104 #[v,(.func (.func 43) #[] #[])] w fun e w'=>e=.returned (.bool (L.all fun x=>svS x.1))∧Below w.heap.size w w':=by
 have hb0:Below w.heap.size w (w.alloc (.cells #[(.func (.func 43) #[] #[])] 82)):=(Below.refl _ _).alloc (Nat.le_refl _) _;have hc0:=(zas.fresh w #[(.func (.func 43) #[] #[])] 82).cell (j:=0) rfl
 have HC:=lhd (zc2 w.heap.size (fun s=>!svS s) v L _ (hs.below hb0) (fun x hx W hW=>by
  have hcell:=(hW.cell (p:=⟨w.heap.size,0,none⟩) (by simp)).trans hc0;obtain⟨a,c,e,-,-⟩:=((hs.m x hx)).shape;exact zaQ w.heap.size x.1 x.2 W hcell ⟨_,_,_,e⟩ (fun W' hW'=>hF x hx W' ((hb0.trans (hW.mono hb0.size)).trans (hW'.mono (Nat.le_trans hb0.size hW.size))))))
 have HR:=lhd (show(!L.any fun x=>!svS x.1)=L.all fun x=>svS x.1 by rw[List.not_any_eq_all_not];simp);obtain⟨a,cap,rfl,hc,hm⟩:=hs.s.shape;clear hs hF hc0 hb0;go_enter Tryz.func104,Tryz.ntmps104;go_wp2_with fail;refine HC.out.mono ?_;rintro e w1 ⟨rfl,hb⟩;go_wp2_with fail;go_ret;exact⟨zlE HR.out,zeF hb⟩
theorem zaP (pt:Nat) (s:Sg) (v:Value) (w:World) (hp:w.cell? ⟨pt,0,none⟩=some (.func (.func 106) #[] #[])) (hv:∃a n c,v=.slice a n c)
 (hF:∀W,Below w.heap.size w W→Calls Tryz.prog 106 #[.agg #[.int .i64 s.1,.int .i64 s.2.1,v]] W fun e w'=>e=.returned (.bool (tyS s))∧Below W.heap.size W w'):
 Calls Tryz.prog 154 #[.agg #[.int .i64 s.1,.int .i64 s.2.1,v],.pointer (some ⟨pt,0,none⟩)] w fun e w'=>e=.returned (.bool (!tyS s))∧Below w.heap.size w w':=by
 obtain⟨a,n,c,rfl⟩:=hv;have HF:=lhd hF;have hp':=zcm hp (.cells #[.int .i64 s.1,.int .i64 s.2.1,.slice a n c] 45);clear hF hp;go_enter Tryz.func154,Tryz.ntmps154;go_wp2_with fail;refine(HF.out _ ((Below.refl _ _).alloc (Nat.le_refl _) _)).mono ?_;rintro e w1 ⟨rfl,hb⟩;go_wp2_with fail;go_ret;exact⟨rfl,zeF hb⟩
theorem zaR (v:Value) (L:List (Sg×Value)) (w:World) (hs:Sigs w v L)
 (hF:∀x∈L,∀W,Below w.heap.size w W→Calls Tryz.prog 106 #[.agg #[.int .i64 x.1.1,.int .i64 x.1.2.1,x.2]] W fun e w'=>e=.returned (.bool (tyS x.1))∧Below W.heap.size W w'):
 Calls Tryz.prog 104 #[v,(.func (.func 106) #[] #[])] w fun e w'=>e=.returned (.bool (L.all fun x=>tyS x.1))∧Below w.heap.size w w':=by
 have hb0:Below w.heap.size w (w.alloc (.cells #[(.func (.func 106) #[] #[])] 82)):=(Below.refl _ _).alloc (Nat.le_refl _) _;have hc0:=(zas.fresh w #[(.func (.func 106) #[] #[])] 82).cell (j:=0) rfl
 have HC:=lhd (zc2 w.heap.size (fun s=>!tyS s) v L _ (hs.below hb0) (fun x hx W hW=>by
  have hcell:=(hW.cell (p:=⟨w.heap.size,0,none⟩) (by simp)).trans hc0;obtain⟨a,c,e,-,-⟩:=((hs.m x hx)).shape;exact zaP w.heap.size x.1 x.2 W hcell ⟨_,_,_,e⟩ (fun W' hW'=>hF x hx W' ((hb0.trans (hW.mono hb0.size)).trans (hW'.mono (Nat.le_trans hb0.size hW.size))))))
 have HR:=lhd (show(!L.any fun x=>!tyS x.1)=L.all fun x=>tyS x.1 by rw[List.not_any_eq_all_not];simp);obtain⟨a,cap,rfl,hc,hm⟩:=hs.s.shape;clear hs hF hc0 hb0;go_enter Tryz.func104,Tryz.ntmps104;go_wp2_with fail;refine HC.out.mono ?_;rintro e w1 ⟨rfl,hb⟩;go_wp2_with fail;go_ret;exact⟨zlE HR.out,zeF hb⟩
def zaq (v:Value) (st:Sg) (r:Sg×Bool) (B:Nat) (w':World) (v':Value):Prop:=(v'=v∧r.1=st)∨w'.ownsRow B 53 2 v' r.1.2.2.length (chs r.1.2.2)
def zat (v:Value) (st:Sg) (r:Sg×Bool) (w:World) (e:Ending) (w':World):Prop:=
 ∃v',e=.returned (.tuple #[.agg #[.int .i64 r.1.1,.int .i64 r.1.2.1,v'],.bool r.2])∧zaq v st r w.heap.size w' v'∧Below w.heap.size w w'
theorem zaq.slr {v v':Value} {st:Sg} {r:Sg×Bool} {B:Nat} {w':World} (h:zaq v st r B w' v') (hs:SlR w' v st.2.2.length (chs st.2.2)):SlR w' v' r.1.2.2.length (chs r.1.2.2):=by
 rcases h with⟨rfl,e⟩|h
 ·rw[e];exact hs
 ·exact SlR.of_own h
theorem zaq.set3 {v v':Value} {st:Sg} {r:Sg×Bool} {B b:Nat} {w':World} (h:zaq v st r B w' v') (hb:b<B) (x y z:Value):zaq v st r B (((w'.setCell ⟨b,0,none⟩ x).setCell ⟨b,1,none⟩ y).setCell ⟨b,2,none⟩ z) v':=
 h.imp id fun h=>zkq h hb x y z
theorem znn {n:Int} {l:List Ch} {fr width:Int} (h:(znh 0 n l fr width).2=0):∃p,znh 0 n l fr width=((0,width,p),0)∧sv 0 width p=true:=by
 have hv:sv 0 n l=true:=by
  cases hv:sv 0 n l
  ·unfold znh at h;rw[if_pos hv]at h;cases h
  ·rfl
 rcases zni (from_:=fr) (width:=width) hv with h'|h'
 ·rw[h']at h;cases h
 ·obtain⟨p,e1,e2,-,-⟩:=znk hv h';exact⟨p,e1,e2⟩
structure PaSt (w W:World) (s:List Value) (d:List Value):Prop where
 s:zas W w.heap.size s
 d:zas W (w.heap.size+1) d
 r:zas W (w.heap.size+1+1) [.int .i64 0,.int .i64 0,.slice none 0 0]
 b:Below w.heap.size w W
 z:w.heap.size+1+1<W.heap.size
theorem PaSt.start (w:World) (S D:Array Value) (T T2:TypeId):PaSt w (((w.alloc (.cells S T)).alloc (.cells D T2)).alloc (.cells #[.int .i64 0,.int .i64 0,.slice none 0 0] T)) S.toList D.toList:=by
 refine⟨?_,?_,?_,(((Below.refl _ _).alloc (Nat.le_refl _) _).alloc (by simp) _).alloc (by simp;omega) _,by simp⟩
 ·exact((zas.fresh w S _).alloc (by simp) _).alloc (by simp;omega) _
 ·have h:=zas.fresh (w.alloc (.cells S T)) D T2;simp only[World.size_alloc]at h;exact h.alloc (by simp) _
 ·have h:=zas.fresh ((w.alloc (.cells S T)).alloc (.cells D T2)) #[.int .i64 0,.int .i64 0,.slice none 0 0] T;simp only[World.size_alloc]at h;exact h
theorem PaSt.later {w W W':World} {s d:List Value} (h:PaSt w W s d) {B:Nat} (hb:Below B W W') (hB:w.heap.size+1+1<B):PaSt w W' s d:=
 ⟨h.s.below hb (by omega),h.d.below hb (by omega),h.r.below hb hB,h.b.trans (hb.mono (by omega)),by have:=hb.size;have:=h.z;omega⟩
theorem PaSt.fin {w W:World} {s d:List Value} (h:PaSt w W s d) (x y z:Value):
 (((((W.setCell ⟨w.heap.size+1+1,0,none⟩ x).setCell ⟨w.heap.size+1+1,1,none⟩ y).setCell ⟨w.heap.size+1+1,2,none⟩ z).cell? ⟨w.heap.size+1+1,0,none⟩=some x∧(((W.setCell ⟨w.heap.size+1+1,0,none⟩ x).setCell ⟨w.heap.size+1+1,1,none⟩ y).setCell ⟨w.heap.size+1+1,2,none⟩ z).cell? ⟨w.heap.size+1+1,1,none⟩=some y∧(((W.setCell ⟨w.heap.size+1+1,0,none⟩ x).setCell ⟨w.heap.size+1+1,1,none⟩ y).setCell ⟨w.heap.size+1+1,2,none⟩ z).cell? ⟨w.heap.size+1+1,2,none⟩=some z))∧
  Below w.heap.size w (((W.setCell ⟨w.heap.size+1+1,0,none⟩ x).setCell ⟨w.heap.size+1+1,1,none⟩ y).setCell ⟨w.heap.size+1+1,2,none⟩ z):=
 ⟨set3 (h.r.cell (j:=0) rfl) (h.r.cell (j:=1) rfl) (h.r.cell (j:=2) rfl) x y z,zbI h.b (by omega) _ _ _⟩
theorem PaSt.setO {w W:World} {s d:List Value} (h:PaSt w W s d) {b:Nat} (hb:w.heap.size+1+1<b) (p q r:Value):PaSt w (((W.setCell ⟨b,0,none⟩ p).setCell ⟨b,1,none⟩ q).setCell ⟨b,2,none⟩ r) s d:=
 ⟨((h.s.setOther (by omega) _ _).setOther (by omega) _ _).setOther (by omega) _ _,((h.d.setOther (by omega) _ _).setOther (by omega) _ _).setOther (by omega) _ _,
  ((h.r.setOther (by omega) _ _).setOther (by omega) _ _).setOther (by omega) _ _,zbI h.b (by omega) _ _ _,by have:=h.z;simpa using this⟩
theorem zaW (st:Sg) (v:Value) (of_ fr width:Int) (inv:Bool) (w:World) (hg:Glob w) (hs:SlR w v st.2.2.length (chs st.2.2)) (hf:Fit st.2.2):
 Calls Tryz.prog 105 #[.agg #[.int .i64 st.1,.int .i64 st.2.1,v],.agg #[.int .i64 of_,.int .i64 fr,.bool inv],.int .i64 width] w (zat v st (zkw st fr inv width) w):=by
 obtain⟨k,n,l⟩:=st;dsimp only at hs hf⊢;obtain⟨a,cap,rfl,hc,hm⟩:=hs.shape;have hst:=PaSt.start w #[.int .i64 k,.int .i64 n,.slice a l.length cap] #[.int .i64 of_,.int .i64 fr,.bool inv] 45 87;have HST:=lhd hst;have HS:=lhd hs;have HG:=lhd hg;by_cases hk:k≠0
 ·have HR:=lhd (zkA (st:=(k,n,l)) hk fr inv width);have hkb:(k !=0)=true:=by rw[bne_iff_ne];exact hk
  clear hk hst hs hg hf;go_enter Tryz.func105,Tryz.ntmps105;go_wp2_with fail;refine bodyPost_ret (v:=.tuple #[.agg #[.int .i64 k,.int .i64 n,.slice a l.length cap],.bool true]) (by simp[results,Tryz.results105,go_sem]) rfl ?_;rw[HR.out];have hbb:Below w.heap.size w (((w.alloc (.cells #[.int .i64 k,.int .i64 n,.slice a l.length cap] 45)).alloc (.cells #[.int .i64 of_,.int .i64 fr,.bool inv] 87)).alloc (.cells #[.int .i64 k,.int .i64 n,.slice a l.length cap] 45)):=(((Below.refl _ _).alloc (Nat.le_refl _) _).alloc (by simp) _).alloc (by simp;omega) _;exact⟨_,rfl,.inl ⟨rfl,rfl⟩,hbb⟩
 obtain rfl:k=0:=Classical.not_not.1 hk;have HSL:=lhd (zmW 0 n _ l fr width _ (hg.below hst.b) (hs.below hst.b) hf)
 have HPR:=lhd (show zkw (0,n,l) fr inv width=if(znh 0 n l fr width).2=0∧inv=true then
  ((invR (znh 0 n l fr width).1.1 (znh 0 n l fr width).1.2.1 (znh 0 n l fr width).1.2.2).1,decide ((invR (znh 0 n l fr width).1.1 (znh 0 n l fr width).1.2.1 (znh 0 n l fr width).1.2.2).2=0))
  else((znh 0 n l fr width).1,decide ((znh 0 n l fr width).2=0))by unfold zkw;rw[if_neg hk])
 have HZ:=lhd (fun h=>znn (n:=n) (l:=l) (fr:=fr) (width:=width) h);generalize znh 0 n l fr width=r at HSL HPR HZ;obtain⟨⟨rk,rn,rl⟩,re⟩:=r;dsimp only at HPR HSL HZ;clear hk hst hs hg hf;go_enter Tryz.func105,Tryz.ntmps105;go_wp2_with fail;refine HSL.out.mono ?_;rintro e w1 ⟨v1,rfl,ho,hb⟩;dsimp only at ho⊢;obtain⟨a1,c1,rfl,-,-⟩:=(SlR.of_own ho).shape;have H1:=lhd (HST.out.later hb (by simp));have HO:=lhd ho;have hz1:=H1.out.z;have hz0:w.heap.size+1<w1.heap.size:=by omega
 have hz00:w.heap.size<w1.heap.size:=by omega
 have d0:=H1.out.d.cell (j:=0) rfl;have d1:=H1.out.d.cell (j:=1) rfl;have d2:=H1.out.d.cell (j:=2) rfl;have r0:=H1.out.r.cell (j:=0) rfl;have r1:=H1.out.r.cell (j:=1) rfl;have r2:=H1.out.r.cell (j:=2) rfl;have q0:=H1.out.r.free (j:=0) (by simp);have q1:=H1.out.r.free (j:=1) (by simp);have q2:=H1.out.r.free (j:=2) (by simp);clear hb ho;by_cases hre:re=0
 ·obtain⟨p,hp,hsp⟩:=HZ.out hre;have e1:=congrArg (fun x:SigR=>x.1.1) hp;have e2:=congrArg (fun x:SigR=>x.1.2.1) hp;have e3:=congrArg (fun x:SigR=>x.1.2.2) hp;dsimp only at e1 e2 e3;subst e1 e2 e3 hre;have HF2:=lhd (zoH hsp);clear hp hsp HZ;cases inv
  ·have HR:=lhd (HPR.out.trans (if_neg (by simp)));clear HPR;go_wp2_with fail;obtain⟨⟨e0,e1,e2⟩,hbb⟩:=H1.out.fin (.int .i64 0) (.int .i64 rn) (.slice a1 rl.length c1);have e0:=zcm e0 (.cells #[.int .i64 0,.int .i64 rn,.slice a1 rl.length c1] 45);have e1:=zcm e1 (.cells #[.int .i64 0,.int .i64 rn,.slice a1 rl.length c1] 45);have e2:=zcm e2 (.cells #[.int .i64 0,.int .i64 rn,.slice a1 rl.length c1] 45);refine bodyPost_ret (v:=.tuple #[.agg #[.int .i64 0,.int .i64 rn,.slice a1 rl.length c1],.bool true]) (by simp[results,Tryz.results105,go_sem,e0,e1,e2]) rfl ?_;rw[HR.out];exact⟨_,rfl,.inr (zko ((zkq HO.out (by simp) _ _ _).alloc _) (by first|omega|(simp;omega))),hbb.alloc hbb.size _⟩
  ·have HR:=lhd (HPR.out.trans (if_pos (by simp)));have HIV:=lhd (fun W hW hS=>zmS 0 rn (.slice a1 rl.length c1) rl W hW hS HF2.out);obtain⟨y,hy⟩:∃y,y=invR 0 rn rl:=⟨_,rfl⟩;rw[←hy]at HR HIV;obtain⟨⟨yk,yn,yl⟩,ye⟩:=y;dsimp only at HR;have hbx:=H1.out.b.alloc H1.out.b.size (.cells #[.int .i64 0,.int .i64 rn,.slice a1 rl.length c1] 45);have HG2:=lhd (HG.out.below hbx);have HS2:=lhd ((SlR.of_own HO.out).below ((Below.refl w1.heap.size w1).alloc (Nat.le_refl _) (.cells #[.int .i64 0,.int .i64 rn,.slice a1 rl.length c1] 45)));have H1X:=lhd (show PaSt w (w1.alloc (.cells #[.int .i64 0,.int .i64 rn,.slice a1 rl.length c1] 45)) _ _ from H1.out.later ((Below.refl w1.heap.size w1).alloc (Nat.le_refl _) _) hz1);have HX:=lhd (zas.fresh w1 #[.int .i64 0,.int .i64 rn,.slice a1 rl.length c1] 45);clear HPR hy hbx;go_wp2_with fail;refine(HIV.out _ HG2.out HS2.out).mono ?_;rintro e w2 ⟨v2,rfl,ho2,hb2⟩;dsimp only at ho2⊢;obtain⟨a2,c2,rfl,-,-⟩:=(SlR.of_own ho2).shape;have H2:=lhd (H1X.out.later hb2 (by simp;omega));have HX2:=lhd (HX.out.below hb2 (by simp));have HO2:=lhd ho2;have H3:=lhd (H2.out.setO hz1 (.int .i64 yk) (.int .i64 yn) (.slice a2 yl.length c2));have x0:=HX2.out.cell (j:=0) rfl;have x1:=HX2.out.cell (j:=1) rfl;have x2:=HX2.out.cell (j:=2) rfl;have y0:=HX2.out.free (j:=0) (by simp);have y1:=HX2.out.free (j:=1) (by simp);have y2:=HX2.out.free (j:=2) (by simp);clear ho2 hb2 d0 d1 d2 r0 r1 r2 q0 q1 q2;go_upto_region 6 with fail;have HX3:=lhd (((HX2.out.set (j:=0) (by simp) (.int .i64 yk)).set (j:=1) (by simp) (.int .i64 yn)).set (j:=2) (by simp) (.slice a2 yl.length c2));have HO3:=lhd (zkq HO2.out (show w1.heap.size<_ by simp) (.int .i64 yk) (.int .i64 yn) (.slice a2 yl.length c2));generalize ((w2.setCell ⟨w1.heap.size,0,none⟩ (.int .i64 yk)).setCell ⟨w1.heap.size,1,none⟩ (.int .i64 yn)).setCell ⟨w1.heap.size,2,none⟩ (.slice a2 yl.length c2)=w3 at H3 HX3 HO3⊢;clear x0 x1 x2 y0 y1 y2;have x0:=HX3.out.cell (j:=0) rfl;have x1:=HX3.out.cell (j:=1) rfl;have x2:=HX3.out.cell (j:=2) rfl;have r0:=H3.out.r.cell (j:=0) rfl;have r1:=H3.out.r.cell (j:=1) rfl;have r2:=H3.out.r.cell (j:=2) rfl;have q0:=H3.out.r.free (j:=0) (by simp);have q1:=H3.out.r.free (j:=1) (by simp);have q2:=H3.out.r.free (j:=2) (by simp);obtain⟨⟨e0,e1,e2⟩,hbb⟩:=H3.out.fin (.int .i64 yk) (.int .i64 yn) (.slice a2 yl.length c2);by_cases hye:ye=0
   ·have HR2:=lhd (HR.out.trans (show _=(((yk,yn,yl):Sg),true)by rw[hye];rfl));have hyb:(ye==0)=true:=by rw[beq_iff_eq];exact hye
    clear hye;go_wp2_with fail;refine bodyPost_ret (v:=.tuple #[.agg #[.int .i64 yk,.int .i64 yn,.slice a2 yl.length c2],.bool true]) (by simp[results,Tryz.results105,go_sem,e0,e1,e2]) rfl ?_;rw[HR2.out];exact⟨_,rfl,.inr (zko (zkq HO3.out (by simp;omega) _ _ _) (by first|omega|(simp;omega))),hbb⟩
   ·have HR2:=lhd (HR.out.trans (show _=(((yk,yn,yl):Sg),false)by simp[hye]));have hyb:(ye==0)=false:=by rw[beq_eq_false_iff_ne];exact hye
    clear hye;go_wp2_with fail;refine bodyPost_ret (v:=.tuple #[.agg #[.int .i64 yk,.int .i64 yn,.slice a2 yl.length c2],.bool false]) (by simp[results,Tryz.results105,go_sem,e0,e1,e2]) rfl ?_;rw[HR2.out];exact⟨_,rfl,.inr (zko (zkq HO3.out (by simp;omega) _ _ _) (by first|omega|(simp;omega))),hbb⟩
 ·have HR:=lhd (HPR.out.trans (if_neg (by simp[hre])));have HR2:=lhd (HR.out.trans (show _=(((rk,rn,rl):Sg),false)by simp[hre]));have hrb:(re==0)=false:=by rw[beq_eq_false_iff_ne];exact hre
  clear hre HPR HR HZ;go_wp2_with fail;obtain⟨⟨e0,e1,e2⟩,hbb⟩:=H1.out.fin (.int .i64 rk) (.int .i64 rn) (.slice a1 rl.length c1);have e0:=zcm e0 (.cells #[.int .i64 rk,.int .i64 rn,.slice a1 rl.length c1] 45);have e1:=zcm e1 (.cells #[.int .i64 rk,.int .i64 rn,.slice a1 rl.length c1] 45);have e2:=zcm e2 (.cells #[.int .i64 rk,.int .i64 rn,.slice a1 rl.length c1] 45);refine bodyPost_ret (v:=.tuple #[.agg #[.int .i64 rk,.int .i64 rn,.slice a1 rl.length c1],.bool false]) (by simp[results,Tryz.results105,go_sem,e0,e1,e2]) rfl ?_;rw[HR2.out];exact⟨_,rfl,.inr (zko ((zkq HO.out (by simp) _ _ _).alloc _) (by first|omega|(simp;omega))),hbb.alloc hbb.size _⟩
theorem znf (s:ByteArray) (f n:Int) (hs:s.size≤maxLen):(slR s f n).1.size≤maxLen:=by
 unfold slR;split
 ·exact Nat.zero_le _
 ·split
  ·exact Nat.zero_le _
  ·simp only[ByteArray.size_extract];omega
theorem zaV (s:Sg) (u v:Value) (S:List (Sg×Value)) (d:Dv) (w:World) (hu:∃a n c,u=.slice a n c) (hs:Sigs w v S) (hw:∀x∈S,0≤x.1.2.1∧x.1.2.1≤128) (hsw:0≤s.2.1∧s.2.1≤128):
 Calls Tryz.prog 107 #[.agg #[.int .i64 s.1,.int .i64 s.2.1,u],v,.agg #[.int .i64 d.1,.int .i64 d.2.1,.bool d.2.2]] w fun e w'=>e=.returned (.bool (ze6 s (S.map Prod.fst) d))∧Below w.heap.size w w':=by
 obtain⟨k,n,l⟩:=s;obtain⟨o,f,i⟩:=d;obtain⟨ua,un,uc,rfl⟩:=hu;obtain⟨a,cap,rfl,hc,hm⟩:=hs.s.shape;dsimp only at hsw⊢;have hb2:Below w.heap.size w ((w.alloc (.cells #[.int .i64 k,.int .i64 n,.slice ua un uc] 45)).alloc (.cells #[.int .i64 o,.int .i64 f,.bool i] 87)):=((Below.refl _ _).alloc (Nat.le_refl _) _).alloc (by simp) _;have HB:=lhd hb2;have HS:=lhd (hs.below hb2);have HW:=lhd hw;have HSW:=lhd hsw;clear hs hw hb2 hsw;by_cases h1:o< -1
 ·have HR:=lhd (show false=ze6 (k,n,l) (S.map Prod.fst) (o,f,i)by unfold ze6;rw[if_pos (.inl h1)]);have hd:decide (o< -1)=true:=by rw[decide_eq_true_iff];exact h1
  clear h1;go_enter Tryz.func107,Tryz.ntmps107;go_wp2_with fail;go_ret;exact⟨zlE HR.out,by first|exact HB.out|exact zbz HB.out _|exact zbz (zbz HB.out _) _⟩
 have hd1:decide (o< -1)=false:=by rw[decide_eq_false_iff_not];exact h1
 by_cases h2:(S.length:Int)≤o
 ·have HR:=lhd (show false=ze6 (k,n,l) (S.map Prod.fst) (o,f,i)by unfold ze6;rw[if_pos (.inr (by rw[List.length_map];exact h2))]);have hd2:decide ((S.length:Int)≤o)=true:=by rw[decide_eq_true_iff];exact h2
  clear h1 h2;go_enter Tryz.func107,Tryz.ntmps107;go_wp2_with fail;go_ret;exact⟨zlE HR.out,by first|exact HB.out|exact zbz HB.out _|exact zbz (zbz HB.out _) _⟩
 have hd2:decide ((S.length:Int)≤o)=false:=by rw[decide_eq_false_iff_not];exact h2
 have hno:¬(o< -1∨((S.map Prod.fst).length:Int)≤o):=by rw[List.length_map];exact fun h=>h.elim h1 h2
 by_cases h3:o= -1
 ·subst h3;have HR:=lhd (show(decide (f=0)&&!i)=ze6 (k,n,l) (S.map Prod.fst) (-1,f,i)by unfold ze6;rw[if_neg hno,if_neg (by simp),if_pos (.inl rfl)]);clear h1 h2 hno;by_cases hf0:f=0
  ·subst hf0;have HR2:=lhd (show(!i)=_ from(show(!i)=(decide ((0:Int)=0)&&!i)by simp).trans HR.out);go_enter Tryz.func107,Tryz.ntmps107;go_wp2_with fail;go_quiet (fail);go_wp2_with fail;go_ret;exact⟨zlE HR2.out,by first|exact HB.out|exact zbz HB.out _|exact zbz (zbz HB.out _) _⟩
  ·have hfb:(f==0)=false:=by rw[beq_eq_false_iff_ne];exact hf0
   have HR2:=lhd (show false=_ from(show false=(decide (f=0)&&!i)by simp[hf0]).trans HR.out);clear hf0;go_enter Tryz.func107,Tryz.ntmps107;go_wp2_with fail;go_quiet (fail);go_wp2_with fail;go_ret;exact⟨zlE HR2.out,by first|exact HB.out|exact zbz HB.out _|exact zbz (zbz HB.out _) _⟩
 obtain⟨j,rfl⟩:∃j:Nat,o=(j:Int):=⟨o.toNat,by omega⟩;have hj:j<S.length:=by omega
 have h3b:((j:Int)== -1)=false:=by rw[beq_eq_false_iff_ne];exact h3
 have h3n:((j:Int) != -1)=true:=by rw[bne_iff_ne];exact h3
 obtain⟨b,oo,rfl,y0,y1,y2,-⟩:=HS.out.at hj;have HX:=lhd (show sgAt (S.map Prod.fst) ((j:Int)).toNat=S[j].1 by rw[Int.toNat_natCast,zmB (by simpa using hj)];simp);have hwx:=HW.out _ (List.getElem_mem hj);generalize S[j]=x at y0 y1 y2 HX hwx;obtain⟨⟨xk,xn,xl⟩,xv⟩:=x;dsimp only at y0 y1 y2 HX hwx;by_cases h4:xk≠k
 ·have HR:=lhd (show false=ze6 (k,n,l) (S.map Prod.fst) ((j:Int),f,i)by unfold ze6;rw[if_neg hno,if_pos ⟨h3,by rw[show sgAt (S.map Prod.fst) (((j:Int),f,i):Dv).1.toNat=_ from HX.out];exact h4⟩]);have h4b:(xk !=k)=true:=by rw[bne_iff_ne];exact h4
  clear h1 h2 h3 h4 hno;go_enter Tryz.func107,Tryz.ntmps107;go_wp2_with fail;go_quiet (fail);go_wp2_with fail;go_ret;exact⟨zlE HR.out,by first|exact HB.out|exact zbz HB.out _|exact zbz (zbz HB.out _) _⟩
 obtain rfl:xk=k:=Classical.not_not.1 h4;have h4b:(xk !=xk)=false:=by simp
 by_cases h5:xk≠0
 ·have HR:=lhd (show(decide (f=0)&&!i)=ze6 (xk,n,l) (S.map Prod.fst) ((j:Int),f,i)by unfold ze6;rw[if_neg hno,if_neg (by rintro⟨-,h⟩;exact h (by rw[show sgAt (S.map Prod.fst) (((j:Int),f,i):Dv).1.toNat=_ from HX.out])),if_pos (.inr h5)]);have h5b:(xk !=0)=true:=by rw[bne_iff_ne];exact h5
  clear h1 h2 h3 h4 h5 hno;by_cases hf0:f=0
  ·subst hf0;have HR2:=lhd (show(!i)=_ from(show(!i)=(decide ((0:Int)=0)&&!i)by simp).trans HR.out);go_enter Tryz.func107,Tryz.ntmps107;go_wp2_with fail;go_quiet (fail);go_wp2_with fail;go_ret;exact⟨zlE HR2.out,by first|exact HB.out|exact zbz HB.out _|exact zbz (zbz HB.out _) _⟩
  ·have hfb:(f==0)=false:=by rw[beq_eq_false_iff_ne];exact hf0
   have HR2:=lhd (show false=_ from(show false=(decide (f=0)&&!i)by simp[hf0]).trans HR.out);clear hf0;go_enter Tryz.func107,Tryz.ntmps107;go_wp2_with fail;go_quiet (fail);go_wp2_with fail;go_ret;exact⟨zlE HR2.out,by first|exact HB.out|exact zbz HB.out _|exact zbz (zbz HB.out _) _⟩
 obtain rfl:xk=0:=Classical.not_not.1 h5
 have HR:=lhd (show(decide (0≤f)&&decide (f≤xn-n))=ze6 (0,n,l) (S.map Prod.fst) ((j:Int),f,i)by
  unfold ze6;rw[if_neg hno,if_neg (by rintro⟨-,h⟩;exact h (by rw[show sgAt (S.map Prod.fst) (((j:Int),f,i):Dv).1.toNat=_ from HX.out])),if_neg (fun h=>h.elim h3 (fun h=>h rfl)),show sgAt (S.map Prod.fst) (((j:Int),f,i):Dv).1.toNat=_ from HX.out])
 have hww:IntKind.i64.wrap (xn-n)=xn-n:=IntWalk.i64_in _ (by have:=HSW.out;omega);clear h1 h2 h3 h4 h5 hno;by_cases hf0:0≤f
 ·have hfb:decide (0≤f)=true:=by rw[decide_eq_true_iff];exact hf0
  have HR2:=lhd ((show decide (f≤xn-n)=(decide (0≤f)&&decide (f≤xn-n))by rw[hfb,Bool.true_and]).trans HR.out);clear hf0;go_enter Tryz.func107,Tryz.ntmps107;go_wp2_with fail;go_quiet (fail);go_wp2_with fail;go_quiet (fail);try go_wp2_with fail
  go_ret;exact⟨zlE HR2.out,by first|exact HB.out|exact zbz HB.out _|exact zbz (zbz HB.out _) _⟩
 ·have hfb:decide (0≤f)=false:=by rw[decide_eq_false_iff_not];exact hf0
  have HR2:=lhd ((show false=(decide (0≤f)&&decide (f≤xn-n))by rw[hfb,Bool.false_and]).trans HR.out);clear hf0;go_enter Tryz.func107,Tryz.ntmps107;go_wp2_with fail;go_quiet (fail);go_wp2_with fail;go_quiet (fail);try go_wp2_with fail
  go_ret;exact⟨zlE HR2.out,by first|exact HB.out|exact zbz HB.out _|exact zbz (zbz HB.out _) _⟩
theorem zaL (d:Dv) (k n:Int) (s:ByteArray) (w:World) (hg:Glob w) (hs:s.size≤maxLen):
 Calls Tryz.prog 103 #[.agg #[.int .i64 d.1,.int .i64 d.2.1,.bool d.2.2],.int .i64 k,.int .i64 n,.string s] w fun e w'=>e=.returned (.string (zll d k n s))∧Below w.heap.size w w':=by
 obtain⟨o,f,i⟩:=d;dsimp only;have hb0:Below w.heap.size w (w.alloc (.cells #[.int .i64 o,.int .i64 f,.bool i] 87)):=(Below.refl _ _).alloc (Nat.le_refl _) _;have HOW:=lhd (zas.fresh w #[.int .i64 o,.int .i64 f,.bool i] 87);have HG:=lhd (hg.below hb0);have HB:=lhd hb0;have HT:=lhd (zpV k n (w.alloc (.cells #[.int .i64 o,.int .i64 f,.bool i] 87)));have hz:w.heap.size<(w.alloc (.cells #[.int .i64 o,.int .i64 f,.bool i] 87)).heap.size:=by simp
 generalize hw0:w.alloc (.cells #[.int .i64 o,.int .i64 f,.bool i] 87)=w0 at HOW HG HB HT hz;clear hb0 hg;cases hv:vt k n
 ·have HR:=lhd (show(⟨#[]⟩:ByteArray)=zll (o,f,i) k n s by unfold zll;rw[if_pos hv]);rw[hv]at HT;clear hv;go_enter Tryz.func103,Tryz.ntmps103;go_wp2_with fail;refine HT.out.mono ?_;rintro e w1 ⟨rfl,hb1⟩;go_wp2_with fail;go_ret;exact⟨zlH HR.out,zeG HB.out hb1⟩
 rw[hv]at HT;by_cases ho:o= -1
 ·have HR:=lhd (show vi k n=zll (o,f,i) k n s by unfold zll;rw[if_neg (by rw[hv];simp),if_pos ho]);subst ho;clear hv;go_enter Tryz.func103,Tryz.ntmps103;go_wp2_with fail;refine HT.out.mono ?_;rintro e w1 ⟨rfl,hb1⟩;have d0:=(HOW.out.below hb1 hz).cell (j:=0) rfl;go_wp2_with fail;refine(zpT k n _).mono ?_;rintro e w2 ⟨rfl,hb2⟩;go_wp2_with fail;go_ret;exact⟨zlH HR.out,zeG (zeG HB.out hb1) hb2⟩
 have hob:(o== -1)=false:=by rw[beq_eq_false_iff_ne];exact ho
 by_cases hk:k≠0
 ·have HR:=lhd (show(if vv k n s=true then s else⟨#[]⟩)=zll (o,f,i) k n s by simp[zll,hv,ho,hk]);have hkb:(k !=0)=true:=by rw[bne_iff_ne];exact hk
  clear hv hk;go_enter Tryz.func103,Tryz.ntmps103;go_wp2_with fail;refine HT.out.mono ?_;rintro e w1 ⟨rfl,hb1⟩;have d0:=(HOW.out.below hb1 hz).cell (j:=0) rfl;go_wp2_with fail;refine(zpU k n s _ (HG.out.below hb1) hs).mono ?_;rintro e w2 ⟨rfl,hb2⟩;cases hvv:vv k n s
  ·rw[if_neg (by rw[hvv];simp)]at HR;clear hvv;go_wp2_with fail;go_ret;exact⟨zlH HR.out,zeG (zeG HB.out hb1) hb2⟩
  ·rw[if_pos hvv]at HR;clear hvv;go_wp2_with fail;go_ret;exact⟨zlH HR.out,zeG (zeG HB.out hb1) hb2⟩
 obtain rfl:k=0:=Classical.not_not.1 hk;have HR:=lhd (show(if(slR s f n).2≠0 then⟨#[]⟩else bvX i (slR s f n).1)=zll (o,f,i) 0 n s by simp[zll,hv,ho]);clear hv hk;go_enter Tryz.func103,Tryz.ntmps103;go_wp2_with fail;refine HT.out.mono ?_;rintro e w1 ⟨rfl,hb1⟩;have d0:=(HOW.out.below hb1 hz).cell (j:=0) rfl;have d1:=(HOW.out.below hb1 hz).cell (j:=1) rfl;have hz1:w.heap.size<w1.heap.size:=by have:=hb1.size;omega
 go_wp2_with fail;refine(zbQ _ s _ hs).mono ?_;rintro e w2 ⟨rfl,hb2⟩;cases hv2:bvIs s
 ·rw[show slR s f n=(⟨#[]⟩,1)by unfold slR;rw[if_pos hv2],if_pos (by simp)]at HR;clear hv2;go_wp2_with fail;go_ret;exact⟨zlH HR.out,zeG (zeG HB.out hb1) hb2⟩
 have d1:=(((HOW.out.below hb1 hz).below hb2 hz1)).cell (j:=1) rfl;have d2:=(((HOW.out.below hb1 hz).below hb2 hz1)).cell (j:=2) rfl;clear d0;clear hv2;have hz2:w.heap.size<w2.heap.size:=by have:=hb2.size;omega
 go_wp2_with fail;have hsl:=znf s f n hs;refine(zbP s f n _ hs).mono ?_;rintro e w3 ⟨rfl,hb3⟩;generalize slR s f n=r at HR hsl⊢;obtain⟨x,q⟩:=r;dsimp only at HR hsl⊢;have d2:=(((HOW.out.below hb1 hz).below hb2 hz1).below hb3 hz2).cell (j:=2) rfl;clear d1;by_cases hq:q≠0
 ·rw[if_pos hq]at HR;have hqb:(q !=0)=true:=by rw[bne_iff_ne];exact hq
  clear hq;go_wp2_with fail;go_ret;exact⟨zlH HR.out,zeG (zeG (zeG HB.out hb1) hb2) hb3⟩
 ·rw[if_neg hq]at HR;have hqb:(q !=0)=false:=by rw[bne_eq_false_iff_eq];omega
  clear hq;cases i
  ·go_wp2_with fail;go_ret;exact⟨zlH HR.out,zeG (zeG (zeG HB.out hb1) hb2) hb3⟩
  ·go_wp2_with fail;refine(zbO x _ hsl).mono ?_;rintro e w4 ⟨rfl,hb4⟩;go_wp2_with fail;go_ret;exact⟨zlH HR.out,zeG (zeG (zeG (zeG HB.out hb1) hb2) hb3) hb4⟩
set_option linter.unusedSimpArgs false
section
variable {P : Program} {ops : Array Oper} {Q : Exit → Act → World → Prop} {md : Region.Mode} {S : World → Prop} {X : Nat → Bool}
theorem zrk {i:Nat} {oi:Oper} {v:Value} (hi:ops[i]? =some oi) (hsel:∀(j:Nat) (o:Oper) cs b,ops[j]? =some o→o.op≠ .select cs b)
 (hQ:∀c a w,Q (.panic c) (a.put oi.dst v) w→Q (.panic c) a w) (hX:X i=true):
 ∀(fuel:Nat) (listed:Array Bool) (a:Act) (w:World),
  (∀j oj,ops[j]? =some oj→j≠i→listed.getD j true=false→(∀e∈oj.after,Region.binds md e=true→e.on≠i)→oi.apart ops oj=true)→
  i∈Region.ready md ops listed→YieldsIf P ops (fun _=>True) oi v a→
  zri P md ops Q S X fuel (listed.setIfInBounds i true) (a.put oi.dst v) w→zri P md ops Q S X (fuel+1) listed a w:=by
 intro fuel;induction fuel with
 |zero=>
  intro listed a w _ hr hy H;refine⟨fun h=>(by rw[h]at hr;cases hr),fun j hj=>?_⟩;by_cases hji:j=i
  ·subst hji;exact hy.wpOp hi trivial ⟨fun h=>(by rw[hX]at h;cases h),H⟩
  ·have:=ready_mono hj hji;rw[H.1]at this;cases this
 |succ fuel ih=>
  intro listed a w hfree hr hy H;refine⟨fun h=>(by rw[h]at hr;cases hr),fun j hj=>?_⟩;by_cases hji:j=i
  ·subst hji;exact hy.wpOp hi trivial ⟨fun h=>(by rw[hX]at h;cases h),H⟩
  ·have h1:=H.2 j (ready_mono hj hji);obtain⟨hjun,oj,hoj,hall⟩:=mem_ready.1 hj
   have hnot:∀e∈oj.after,Region.binds md e=true→e.on≠i:=fun e he hb heq=>by
    have h1:=hall e he hb;have h0:=(mem_ready.1 hr).1;rw[heq]at h1;rcases Nat.lt_or_ge i listed.size with h'|h'
    ·simp[h']at h0 h1;rw[h0]at h1;cases h1
    ·simp[Array.getElem?_eq_none h']at h1
   have h2:=wpOp_putIf hoj (hfree j oj hoj hji hjun hnot) (fun cs b=>hsel i oi cs b hi) (fun cs b=>hsel j oj cs b hoj) hQ hy h1
   have hfree':∀k ok,ops[k]? =some ok→k≠i→(listed.setIfInBounds j true).getD k true=false→
    (∀e∈ok.after,Region.binds md e=true→e.on≠i)→oi.apart ops ok=true:=fun k ok hk hki hun hno=>by
    refine hfree k ok hk hki ?_ hno;by_cases hjk:j=k
    ·subst hjk;exact hjun
    ·rw[getD_set_ne true hjk]at hun;exact hun
   refine wpOp_mono (fun a' w' h3=>⟨h3.2.1,ih (listed.setIfInBounds j true) a' w' hfree' (ready_mono hr (Ne.symm hji)) h3.1 ?_⟩) h2;rw[Array.setIfInBounds_comm _ _ hji];exact h3.2.2
theorem zrl {i:Nat} {oi:Oper} {v:Value} {fuel:Nat} {listed:Array Bool} {a:Act} {w:World} (hi:ops[i]? =some oi)
 (hs:Region.noSelect ops=true) (hf:Region.free md ops listed i=true) (hr:(Region.ready md ops listed).contains i=true) (hX:X i=true)
 (hQ:∀c a w,Q (.panic c) (a.put oi.dst v) w→Q (.panic c) a w) (hy:YieldsIf P ops (fun _=>True) oi v a)
 (h:zri P md ops Q S X fuel (listed.setIfInBounds i true) (a.put oi.dst v) w):zri P md ops Q S X (fuel+1) listed a w:=
 zrk hi (Region.noSelect_spec hs) hQ hX fuel listed a w (Region.free_spec hi hf) (by simpa using hr) hy h
end
theorem zbE {w w':World} {B e size n:Nat} {v:Value} {xs:List Value} (h:w.ownsRow B e size v n xs) (hb:Below w.heap.size w w'):w'.ownsRow B e size v n xs:=zkj h (Same0.of_below hb)
theorem zas.other {w:World} {b:Nat} {xs:List Value} (h:zas w b xs) {a:Addr} (hne:a.block≠b) (u:Value):zas (w.setCell a u) b xs:=by
 intro i v hi;refine⟨?_,by rw[World.frozen?_setCell];exact(h i v hi).2⟩;rw[World.cell?_setCell_other (h:=by rintro rfl;exact hne rfl)];exact(h i v hi).1
theorem zkd {w:World} {B e size n:Nat} {v:Value} {xs:List Value} (h:w.ownsRow B e size v n xs) {g:Nat} (hg:v.ownBlock=some g):B≤g∧g<w.heap.size:=by
 rcases h.2 with⟨rfl,-⟩|⟨g',cap,cur,rfl,hb,hh,-⟩
 ·cases hg
 ·obtain rfl:g'=g:=by simpa[Value.ownBlock] using hg
  exact⟨hb,(Array.getElem?_eq_some_iff.1 hh).1⟩
theorem zkf {w:World} {B B' e e' size size' n n' g:Nat} {v v':Value} {xs xs':List Value} (h:w.ownsRow B e size v n xs) (h':w.ownsRow B' e' size' v' n' xs') (hne:e≠e') (hg:v'.ownBlock=some g):v.ownBlock≠some g:=by
 intro h0;rcases zj7 h h' hne with h1|h1
 ·rw[h1]at h0;cases h0
 ·exact h1 (h0.trans hg.symm)
theorem zmN (A D:List (Sg×Value)) (x:Sg) (v u:Value):(sgs (A++(x,v)::D)).set (A.length*3+2) u=sgs (A++(x,u)::D):=by
 rw[zmG,zmG,zmI,zmI,List.set_append,if_neg (by rw[zmJ];omega),zmJ,show A.length*3+2-3*A.length=2 by omega];rfl
structure TrO (B:Nat) (w:World) (t:Tr) (p:TP):Prop where
 s:w.ownsRow B 55 3 p.vs t.S.length (scs t.S)
 v:w.ownsRow B 42 7 p.vv t.V.length (vrs t.V)
 g:w.ownsRow B 45 3 p.vg p.M.length (sgs p.M)
 c:∀x∈p.M,w.ownsRow B 53 2 x.2 x.1.2.2.length (chs x.1.2.2)
 q:w.ownsRow B 57 2 p.vp t.P.length (gps t.P)
 m:p.M.map Prod.fst=t.G
theorem TrO.m0 {B:Nat} {w:World} {t:Tr} {p:TP} (h:TrO B w t p):TrM w t p:=⟨SlR.of_own h.s,SlR.of_own h.v,⟨SlR.of_own h.g,fun x hx=>SlR.of_own (h.c x hx)⟩,SlR.of_own h.q,h.m⟩
def FitT (t:Tr):Prop:=t.S.length≤1000∧t.V.length≤1000∧t.G.length≤1000∧t.P.length≤1000∧∀s∈t.G,s.2.2.length≤100000
def set9 (W:World) (b:Nat) (u0 u1 u2 u3 u4 u5 u6 u7 u8:Value):World:=((((((((W.setCell ⟨b,0,none⟩ u0).setCell ⟨b,1,none⟩ u1).setCell ⟨b,2,none⟩ u2).setCell ⟨b,3,none⟩ u3).setCell ⟨b,4,none⟩ u4).setCell ⟨b,5,none⟩ u5).setCell ⟨b,6,none⟩ u6).setCell ⟨b,7,none⟩ u7).setCell ⟨b,8,none⟩ u8
theorem zmy {W:World} {b:Nat} {z0 z1 z2 z3 z4 z5 z6 z7 z8:Value} (h:zas W b [z0,z1,z2,z3,z4,z5,z6,z7,z8]) (u0 u1 u2 u3 u4 u5 u6 u7 u8:Value):zas (set9 W b u0 u1 u2 u3 u4 u5 u6 u7 u8) b [u0,u1,u2,u3,u4,u5,u6,u7,u8]:=
 ((((((((h.set (j:=0) (by simp) u0).set (j:=1) (by simp) u1).set (j:=2) (by simp) u2).set (j:=3) (by simp) u3).set (j:=4) (by simp) u4).set (j:=5) (by simp) u5).set (j:=6) (by simp) u6).set (j:=7) (by simp) u7).set (j:=8) (by simp) u8
theorem zmx {W:World} {b B e size n:Nat} {v:Value} {xs:List Value} (h:W.ownsRow B e size v n xs) (hb:b<B) (u0 u1 u2 u3 u4 u5 u6 u7 u8:Value):(set9 W b u0 u1 u2 u3 u4 u5 u6 u7 u8).ownsRow B e size v n xs:=
 ownsRow_setCell_below (ownsRow_setCell_below (ownsRow_setCell_below (ownsRow_setCell_below (ownsRow_setCell_below (ownsRow_setCell_below (ownsRow_setCell_below (ownsRow_setCell_below (ownsRow_setCell_below h hb u0) hb u1) hb u2) hb u3) hb u4) hb u5) hb u6) hb u7) hb u8
theorem zmw {B:Nat} {w W:World} {b:Nat} (h:Below B w W) (hb:B≤b) (u0 u1 u2 u3 u4 u5 u6 u7 u8:Value):Below B w (set9 W b u0 u1 u2 u3 u4 u5 u6 u7 u8):=
 ((((((((h.setCell hb u0).setCell hb u1).setCell hb u2).setCell hb u3).setCell hb u4).setCell hb u5).setCell hb u6).setCell hb u7).setCell hb u8
structure ClI (w:World) (B:Nat) (t:Tr) (v1 v2 v3 v4:Value) (M:List (Sg×Value)) (k:Nat) (W:World):Prop where
 x:zas W w.heap.size [.int .i64 t.sc,.string (bsB t.dt),.string (bsB t.vn),.string (bsB t.cm),v1,v2,v3,v4,.int .i64 t.en]
 y:zas W (w.heap.size+1) [.int .i64 0,.string ⟨#[]⟩,.string ⟨#[]⟩,.string ⟨#[]⟩,.slice none 0 0,.slice none 0 0,.slice none 0 0,.slice none 0 0,.int .i64 0]
 s:W.ownsRow B 55 3 v1 t.S.length (scs t.S)
 v:W.ownsRow B 42 7 v2 t.V.length (vrs t.V)
 q:W.ownsRow B 57 2 v4 t.P.length (gps t.P)
 g:∃A:List (Sg×Value),A.length=k∧(A++M.drop k).map Prod.fst=t.G∧W.ownsRow B 45 3 v3 M.length (sgs (A++M.drop k))∧∀x∈A,W.ownsRow B 53 2 x.2 x.1.2.2.length (chs x.1.2.2)
 b:Below w.heap.size w W
theorem zpj (t:Tr) (p:TP) (w:World) (ht:TrM w t p) (hf:FitT t):Calls Tryz.prog 30 #[p.v t] w fun e w'=>∃p',e=.returned (p'.v t)∧TrO w.heap.size w' t p'∧Below w.heap.size w w':=by
 obtain⟨hs,hv,hg,hq,hm⟩:=ht;obtain⟨f1,f2,f3,f4,f5⟩:=hf;obtain⟨sc,dt,vn,cm,S,V,G,P,en⟩:=t;obtain⟨ps,pv,pg,pp,M⟩:=p;unfold TP.v;dsimp only at*;obtain⟨a1,c1,rfl,-,-⟩:=hs.shape;obtain⟨a2,c2,rfl,-,-⟩:=hv.shape;obtain⟨a3,c3,rfl,-,-⟩:=hg.s.shape;obtain⟨a4,c4,rfl,-,-⟩:=hq.shape;have HML:=lhd (show M.length=G.length by rw[←hm,List.length_map]);have HM:=lhd hm;have hML:M.length≤1000:=by rw[HML.out];exact f3
 clear hm;have hal:Below w.heap.size w ((w.alloc (.cells #[.int .i64 sc,.string (bsB dt),.string (bsB vn),.string (bsB cm),.slice a1 S.length c1,.slice a2 V.length c2,.slice a3 M.length c3,.slice a4 P.length c4,.int .i64 en] 27)).alloc (.cells #[.int .i64 0,.string ⟨#[]⟩,.string ⟨#[]⟩,.string ⟨#[]⟩,.slice none 0 0,.slice none 0 0,.slice none 0 0,.slice none 0 0,.int .i64 0] 27)):=((Below.refl _ _).alloc (Nat.le_refl _) _).alloc (by simp) _;have X1:=lhd ((zas.fresh w #[.int .i64 sc,.string (bsB dt),.string (bsB vn),.string (bsB cm),.slice a1 S.length c1,.slice a2 V.length c2,.slice a3 M.length c3,.slice a4 P.length c4,.int .i64 en] 27).below ((Below.refl _ _).alloc (Nat.le_refl _) (.cells #[.int .i64 0,.string ⟨#[]⟩,.string ⟨#[]⟩,.string ⟨#[]⟩,.slice none 0 0,.slice none 0 0,.slice none 0 0,.slice none 0 0,.int .i64 0] 27)) (by simp));have Y1:=zas.fresh (w.alloc (.cells #[.int .i64 sc,.string (bsB dt),.string (bsB vn),.string (bsB cm),.slice a1 S.length c1,.slice a2 V.length c2,.slice a3 M.length c3,.slice a4 P.length c4,.int .i64 en] 27)) #[.int .i64 0,.string ⟨#[]⟩,.string ⟨#[]⟩,.string ⟨#[]⟩,.slice none 0 0,.slice none 0 0,.slice none 0 0,.slice none 0 0,.int .i64 0] 27;rw[World.size_alloc]at Y1;have Y1:=lhd Y1;go_enter Tryz.func30,Tryz.ntmps30;go_wp2_with fail;have hzb:w.heap.size+1<((w.alloc (.cells #[.int .i64 sc,.string (bsB dt),.string (bsB vn),.string (bsB cm),.slice a1 S.length c1,.slice a2 V.length c2,.slice a3 M.length c3,.slice a4 P.length c4,.int .i64 en] 27)).alloc (.cells #[.int .i64 0,.string ⟨#[]⟩,.string ⟨#[]⟩,.string ⟨#[]⟩,.slice none 0 0,.slice none 0 0,.slice none 0 0,.slice none 0 0,.int .i64 0] 27)).heap.size:=by simp
 generalize (w.alloc (.cells #[.int .i64 sc,.string (bsB dt),.string (bsB vn),.string (bsB cm),.slice a1 S.length c1,.slice a2 V.length c2,.slice a3 M.length c3,.slice a4 P.length c4,.int .i64 en] 27)).alloc (.cells #[.int .i64 0,.string ⟨#[]⟩,.string ⟨#[]⟩,.string ⟨#[]⟩,.slice none 0 0,.slice none 0 0,.slice none 0 0,.slice none 0 0,.int .i64 0] 27)=Wb at*;have d4:=X1.out.cell (j:=4) rfl;have d5:=X1.out.cell (j:=5) rfl;have d6:=X1.out.cell (j:=6) rfl;have d7:=X1.out.cell (j:=7) rfl;refine zrt (S:=fun w'=>w'.cell? ⟨w.heap.size,4,none⟩=some (.slice a1 S.length c1)∧w'.cell? ⟨w.heap.size,5,none⟩=some (.slice a2 V.length c2)∧w'.cell? ⟨w.heap.size,6,none⟩=some (.slice a3 M.length c3)∧w'.cell? ⟨w.heap.size,7,none⟩=some (.slice a4 P.length c4)) (X:=fun j=>decide (12≤j)) (by kernel_rfl) ?_;have HS:=lhd (show Wb.drew.cell? ⟨w.heap.size,4,none⟩=some (.slice a1 S.length c1)∧Wb.drew.cell? ⟨w.heap.size,5,none⟩=some (.slice a2 V.length c2)∧Wb.drew.cell? ⟨w.heap.size,6,none⟩=some (.slice a3 M.length c3)∧Wb.drew.cell? ⟨w.heap.size,7,none⟩=some (.slice a4 P.length c4)from⟨d4,d5,d6,d7⟩);refine zrn (i:=0) (v:=?_) rfl (by kernel_rfl) (by kernel_rfl) (by kernel_rfl) (by kernel_rfl) (fun _ _ _ h=>h) (Or.inl ⟨by rfl,?_⟩) HS.out ?_;rotate_left
 ·intro w hSw;(try dsimp only at hSw)
  go_simp;all_goals with_reducible rfl
 simp only[tkS];refine zrn (i:=1) (v:=?_) rfl (by kernel_rfl) (by kernel_rfl) (by kernel_rfl) (by kernel_rfl) (fun _ _ _ h=>h) (Or.inl ⟨by rfl,?_⟩) HS.out ?_;rotate_left
 ·intro w hSw;(try dsimp only at hSw)
  go_simp;all_goals with_reducible rfl
 simp only[tkS];refine zrn (i:=3) (v:=?_) rfl (by kernel_rfl) (by kernel_rfl) (by kernel_rfl) (by kernel_rfl) (fun _ _ _ h=>h) (Or.inl ⟨by rfl,?_⟩) HS.out ?_;rotate_left
 ·intro w hSw;(try dsimp only at hSw)
  go_simp;all_goals with_reducible rfl
 simp only[tkS];refine zrn (i:=4) (v:=?_) rfl (by kernel_rfl) (by kernel_rfl) (by kernel_rfl) (by kernel_rfl) (fun _ _ _ h=>h) (Or.inl ⟨by rfl,?_⟩) HS.out ?_;rotate_left
 ·intro w hSw;(try dsimp only at hSw)
  go_simp;all_goals with_reducible rfl
 simp only[tkS];refine zrn (i:=6) (v:=?_) rfl (by kernel_rfl) (by kernel_rfl) (by kernel_rfl) (by kernel_rfl) (fun _ _ _ h=>h) (Or.inl ⟨by rfl,?_⟩) HS.out ?_;rotate_left
 ·intro w hSw;(try dsimp only at hSw)
  go_simp;all_goals with_reducible rfl
 simp only[tkS];refine zrn (i:=7) (v:=?_) rfl (by kernel_rfl) (by kernel_rfl) (by kernel_rfl) (by kernel_rfl) (fun _ _ _ h=>h) (Or.inl ⟨by rfl,?_⟩) HS.out ?_;rotate_left
 ·intro w hSw;(try dsimp only at hSw)
  go_simp;all_goals with_reducible rfl
 simp only[tkS];refine zrn (i:=9) (v:=?_) rfl (by kernel_rfl) (by kernel_rfl) (by kernel_rfl) (by kernel_rfl) (fun _ _ _ h=>h) (Or.inl ⟨by rfl,?_⟩) HS.out ?_;rotate_left
 ·intro w hSw;(try dsimp only at hSw)
  go_simp;all_goals with_reducible rfl
 simp only[tkS];refine zrn (i:=10) (v:=?_) rfl (by kernel_rfl) (by kernel_rfl) (by kernel_rfl) (by kernel_rfl) (fun _ _ _ h=>h) (Or.inl ⟨by rfl,?_⟩) HS.out ?_;rotate_left
 ·intro w hSw;(try dsimp only at hSw)
  go_simp;all_goals with_reducible rfl
 simp only[tkS];refine zrm (i:=2) (by kernel_rfl) rfl (fun K hK=>?_);go_simp;refine(zdg _ S Wb.drew (hs.below hal.drew) (by omega) (zmo S)).mono ?_;rintro e w1 ⟨v1,rfl,o1,b1⟩;have X2:=lhd (X1.out.drew.below b1 (Nat.lt_of_succ_lt hzb));have Y2:=lhd (Y1.out.drew.below b1 hzb);have hal1:=hal.drew.trans (b1.mono hal.size);have z1:=b1.size;have HS1:=lhd (show w1.cell? ⟨w.heap.size,4,none⟩=some (.slice a1 S.length c1)∧w1.cell? ⟨w.heap.size,5,none⟩=some (.slice a2 V.length c2)∧w1.cell? ⟨w.heap.size,6,none⟩=some (.slice a3 M.length c3)∧w1.cell? ⟨w.heap.size,7,none⟩=some (.slice a4 P.length c4)from⟨X2.out.cell (j:=4) rfl,X2.out.cell (j:=5) rfl,X2.out.cell (j:=6) rfl,X2.out.cell (j:=7) rfl⟩);dsimp only;refine hK.out _ _ (fun _=>HS1.out) ?_;clear hK;try simp only[tkS]
 refine zrl (i:=12) (v:=?_) rfl (by kernel_rfl) (by kernel_rfl) (by kernel_rfl) rfl (fun _ _ _ h=>h) (Or.inl ⟨by rfl,?_⟩) ?_;rotate_left
 ·intro w hSw;go_simp;all_goals with_reducible rfl
 simp only[tkS];refine zrm (i:=5) (by kernel_rfl) rfl (fun K hK=>?_);go_simp;refine(zdi _ V w1 (hv.below hal1) (by omega) (zqQ V)).mono ?_;rintro e w2 ⟨v2,rfl,o2,b2⟩;have X3:=lhd (X2.out.below b2 (by have:=b1.size;have:Wb.drew.heap.size=Wb.heap.size:=rfl;omega));have Y3:=lhd (Y2.out.below b2 (by have:=b1.size;have:Wb.drew.heap.size=Wb.heap.size:=rfl;omega));have hal2:=hal1.trans (b2.mono hal1.size);have z2:=b2.size;have HS2:=lhd (show w2.cell? ⟨w.heap.size,4,none⟩=some (.slice a1 S.length c1)∧w2.cell? ⟨w.heap.size,5,none⟩=some (.slice a2 V.length c2)∧w2.cell? ⟨w.heap.size,6,none⟩=some (.slice a3 M.length c3)∧w2.cell? ⟨w.heap.size,7,none⟩=some (.slice a4 P.length c4)from⟨X3.out.cell (j:=4) rfl,X3.out.cell (j:=5) rfl,X3.out.cell (j:=6) rfl,X3.out.cell (j:=7) rfl⟩);dsimp only;refine hK.out _ _ (fun _=>HS2.out) ?_;clear hK;try simp only[tkS]
 refine zrm (i:=8) (by kernel_rfl) rfl (fun K hK=>?_);go_simp;refine(zdh _ M w2 (hg.below hal2).s (by rw[HML.out];omega) (zmL M (fun x hx=>znl (hg.m x hx)))).mono ?_;rintro e w3 ⟨v3,rfl,o3,b3⟩;have X4:=lhd (X3.out.below b3 (by have:=b1.size;have:=b2.size;have:Wb.drew.heap.size=Wb.heap.size:=rfl;omega));have Y4:=lhd (Y3.out.below b3 (by have:=b1.size;have:=b2.size;have:Wb.drew.heap.size=Wb.heap.size:=rfl;omega));have hal3:=hal2.trans (b3.mono hal2.size);have z3:=b3.size;have HS3:=lhd (show w3.cell? ⟨w.heap.size,4,none⟩=some (.slice a1 S.length c1)∧w3.cell? ⟨w.heap.size,5,none⟩=some (.slice a2 V.length c2)∧w3.cell? ⟨w.heap.size,6,none⟩=some (.slice a3 M.length c3)∧w3.cell? ⟨w.heap.size,7,none⟩=some (.slice a4 P.length c4)from⟨X4.out.cell (j:=4) rfl,X4.out.cell (j:=5) rfl,X4.out.cell (j:=6) rfl,X4.out.cell (j:=7) rfl⟩);dsimp only;refine hK.out _ _ (fun _=>HS3.out) ?_;clear hK;try simp only[tkS]
 refine zrm (i:=11) (by kernel_rfl) rfl (fun K hK=>?_);go_simp;refine(zdf _ P w3 (hq.below hal3) (by omega) (zfG P)).mono ?_;rintro e w4 ⟨v4,rfl,o4,b4⟩;have hdz:Wb.drew.heap.size=Wb.heap.size:=rfl;have z4:=b4.size;have X5:=lhd (X4.out.below b4 (by omega));have Y5:=lhd (Y4.out.below b4 (by omega));have hal4:=hal3.trans (b4.mono hal3.size);have HS4:=lhd (show w4.cell? ⟨w.heap.size,4,none⟩=some (.slice a1 S.length c1)∧w4.cell? ⟨w.heap.size,5,none⟩=some (.slice a2 V.length c2)∧w4.cell? ⟨w.heap.size,6,none⟩=some (.slice a3 M.length c3)∧w4.cell? ⟨w.heap.size,7,none⟩=some (.slice a4 P.length c4)from⟨X5.out.cell (j:=4) rfl,X5.out.cell (j:=5) rfl,X5.out.cell (j:=6) rfl,X5.out.cell (j:=7) rfl⟩);dsimp only;have P1:=lhd (zko (zbE (zbE (zbE o1 b2) b3) b4) (Nat.le_refl Wb.heap.size));have P2:=lhd (zko (zbE (zbE o2 b3) b4) (show Wb.heap.size≤_ by omega));have P3:=lhd (zko (zbE o3 b4) (show Wb.heap.size≤_ by omega));have P4:=lhd (zko o4 (show Wb.heap.size≤_ by omega));have HB4:=lhd hal4;obtain⟨e1,j1,rfl,-,-⟩:=(SlR.of_own P1.out).shape;obtain⟨e2,j2,rfl,-,-⟩:=(SlR.of_own P2.out).shape;obtain⟨e3,j3,rfl,-,-⟩:=(SlR.of_own P3.out).shape;obtain⟨e4,j4,rfl,-,-⟩:=(SlR.of_own P4.out).shape;clear o1 o2 o3 o4 b1 b2 b3 b4 X1 X2 X3 X4 Y1 Y2 Y3 Y4 HS HS1 HS2 HS3 d4 d5 d6 d7 hal1 hal2 hal3 hal4 z1 z2 z3 z4 hdz;refine hK.out _ _ (fun _=>HS4.out) ?_;clear hK;try simp only[tkS]
 refine zrm (i:=13) (by kernel_rfl) rfl (fun K hK=>?_);have fr:=X5.out.free (j:=4) (by simp);have ce:=X5.out.cell (j:=4) rfl;go_simp;clear fr ce;refine hK.out _ _ (fun h=>absurd h (by decide)) ?_;clear hK;try simp only[tkS]
 have X6:=lhd (X5.out.set (j:=4) (by simp) (.slice e1 S.length j1));refine zrl (i:=14) (v:=?_) rfl (by kernel_rfl) (by kernel_rfl) (by kernel_rfl) rfl (fun _ _ _ h=>h) (Or.inl ⟨by rfl,?_⟩) ?_;rotate_left
 ·intro w hSw;go_simp;all_goals with_reducible rfl
 simp only[tkS];refine zrm (i:=15) (by kernel_rfl) rfl (fun K hK=>?_);have fr:=X6.out.free (j:=5) (by simp);have ce:=X6.out.cell (j:=5) rfl;go_simp;clear fr ce;refine hK.out _ _ (fun h=>absurd h (by decide)) ?_;clear hK;try simp only[tkS]
 have X7:=lhd (X6.out.set (j:=5) (by simp) (.slice e2 V.length j2));refine zrl (i:=16) (v:=?_) rfl (by kernel_rfl) (by kernel_rfl) (by kernel_rfl) rfl (fun _ _ _ h=>h) (Or.inl ⟨by rfl,?_⟩) ?_;rotate_left
 ·intro w hSw;go_simp;all_goals with_reducible rfl
 simp only[tkS];refine zrm (i:=17) (by kernel_rfl) rfl (fun K hK=>?_);have fr:=X7.out.free (j:=6) (by simp);have ce:=X7.out.cell (j:=6) rfl;go_simp;clear fr ce;refine hK.out _ _ (fun h=>absurd h (by decide)) ?_;clear hK;try simp only[tkS]
 have X8:=lhd (X7.out.set (j:=6) (by simp) (.slice e3 M.length j3));refine zrl (i:=18) (v:=?_) rfl (by kernel_rfl) (by kernel_rfl) (by kernel_rfl) rfl (fun _ _ _ h=>h) (Or.inl ⟨by rfl,?_⟩) ?_;rotate_left
 ·intro w hSw;go_simp;all_goals with_reducible rfl
 simp only[tkS];refine zrm (i:=19) (by kernel_rfl) rfl (fun K hK=>?_);have fr:=X8.out.free (j:=7) (by simp);have ce:=X8.out.cell (j:=7) rfl;go_simp;clear fr ce;refine hK.out _ _ (fun h=>absurd h (by decide)) ?_;clear hK;try simp only[tkS]
 have X9:=lhd (X8.out.set (j:=7) (by simp) (.slice e4 P.length j4));refine⟨by kernel_rfl,?_⟩;have hbz:w.heap.size<Wb.heap.size:=by omega
 have HLI:=lhd (show ClI w Wb.heap.size ⟨sc,dt,vn,cm,S,V,G,P,en⟩ (.slice e1 S.length j1) (.slice e2 V.length j2) (.slice e3 M.length j3) (.slice e4 P.length j4) M 0 _ from
  {x:=X9.out
   y:=by
    have hne:∀j u (Wx:World),zas Wx (w.heap.size+1) [.int .i64 0,.string ⟨#[]⟩,.string ⟨#[]⟩,.string ⟨#[]⟩,.slice none 0 0,.slice none 0 0,.slice none 0 0,.slice none 0 0,.int .i64 0]→zas (Wx.setCell ⟨w.heap.size,j,none⟩ u) (w.heap.size+1) [.int .i64 0,.string ⟨#[]⟩,.string ⟨#[]⟩,.string ⟨#[]⟩,.slice none 0 0,.slice none 0 0,.slice none 0 0,.slice none 0 0,.int .i64 0]:=fun j u Wx h=>zas.other h (by simp) u;exact hne _ _ _ (hne _ _ _ (hne _ _ _ (hne _ _ _ Y5.out)))
   s:=ownsRow_setCell_below (ownsRow_setCell_below (ownsRow_setCell_below (ownsRow_setCell_below P1.out hbz _) hbz _) hbz _) hbz _
   v:=ownsRow_setCell_below (ownsRow_setCell_below (ownsRow_setCell_below (ownsRow_setCell_below P2.out hbz _) hbz _) hbz _) hbz _
   q:=ownsRow_setCell_below (ownsRow_setCell_below (ownsRow_setCell_below (ownsRow_setCell_below P4.out hbz _) hbz _) hbz _) hbz _
   g:=⟨[],rfl,HM.out,ownsRow_setCell_below (ownsRow_setCell_below (ownsRow_setCell_below (ownsRow_setCell_below P3.out hbz _) hbz _) hbz _) hbz _,by simp⟩
   b:=(((HB4.out.setCell (by simp) _).setCell (by simp) _).setCell (by simp) _).setCell (by simp) _})
 clear X5 X6 X7 X8 X9 Y5 P1 P2 P3 P4 HB4 HS4;generalize ((((w4.setCell _ _).setCell _ _).setCell _ _).setCell _ _)=W at*;have ce:=HLI.out.x.cell (j:=6) rfl;go_wp2_with fail;go_loopw [23] (fun i wr=>∃k:Nat,k≤M.length∧i=.int .i64 k∧ClI w Wb.heap.size ⟨sc,dt,vn,cm,S,V,G,P,en⟩ (.slice e1 S.length j1) (.slice e2 V.length j2) (.slice e3 M.length j3) (.slice e4 P.length j4) M k wr) (fun i _=>M.length-(intOf i).toNat)
 case atStart=>exact⟨0,Nat.zero_le _,rfl,HLI.out⟩
 case round=>
  obtain⟨k,hk,rfl,hC⟩:=hrel;have HC:=lhd hC;clear hC ce;by_cases hlt:k<M.length
  ·obtain⟨A,hA,hN,hO,hR⟩:=HC.out.g;have hMG:M[k].1∈G:=by rw[←HM.out];exact List.mem_map_of_mem (List.getElem_mem hlt)
   have hfx:=f5 _ hMG;have hmx:=hg.m M[k] (List.getElem_mem hlt);rw[List.drop_eq_getElem_cons hlt]at hO hN;generalize M[k]=x at*;obtain⟨x,vx⟩:=x;dsimp only at hfx hmx;rcases hO.2 with⟨-,h0⟩|⟨g,cap',cur,e0,-⟩
   ·omega
   injection e0 with e0 _ e1;subst e0 e1;have hlo:=zkd hO (g:=g) rfl
   have d2:wr.cell? ⟨g,k*3+2,none⟩=some vx:=by
    obtain⟨a',c',ev,-,-,-,h4⟩:=SlR.of_own hO;obtain⟨b',o',rfl,hat⟩:=h4 (by omega);injection ev with ev _ _;injection ev with ev;injection ev with ev1 ev2 _;subst ev1 ev2;have:=hat (A.length*3+2) vx (by rw[zmG,zmI,List.getElem?_append_right (by rw[zmJ];omega),zmJ,show A.length*3+2-3*A.length=2 by omega];rfl);rw[hA,Nat.zero_add]at this;exact this
   have f2:=zkb hO (k*3+2);have HO:=lhd hO;have HR:=lhd hR;have HN:=lhd hN;have HA:=lhd hA;have HMX:=lhd (hmx.below HC.out.b);have c6:=HC.out.x.cell (j:=6) rfl;have HS:=lhd (show wr.drew.cell? ⟨w.heap.size,6,none⟩=some (.slice (some ⟨g,0,none⟩) M.length j3)from c6);clear hO hR hN hA hmx;go_wp2_with fail;refine zrt (S:=fun w'=>w'.cell? ⟨w.heap.size,6,none⟩=some (.slice (some ⟨g,0,none⟩) M.length j3)) (X:=fun j=>decide (12≤j)) (by kernel_rfl) ?_;refine zrn (i:=0) (v:=?_) rfl (by kernel_rfl) (by kernel_rfl) (by kernel_rfl) (by kernel_rfl) (fun _ _ _ h=>h) (Or.inl ⟨by rfl,?_⟩) HS.out ?_;rotate_left
   ·intro w hSw;(try dsimp only at hSw)
    go_simp;all_goals with_reducible rfl
   simp only[tkS];refine zrn (i:=1) (v:=?_) rfl (by kernel_rfl) (by kernel_rfl) (by kernel_rfl) (by kernel_rfl) (fun _ _ _ h=>h) (Or.inl ⟨by rfl,?_⟩) HS.out ?_;rotate_left
   ·intro w hSw;(try dsimp only at hSw)
    go_simp;all_goals with_reducible rfl
   simp only[tkS];refine zrn (i:=2) (v:=?_) rfl (by kernel_rfl) (by kernel_rfl) (by kernel_rfl) (by kernel_rfl) (fun _ _ _ h=>h) (Or.inl ⟨by rfl,?_⟩) HS.out ?_;rotate_left
   ·intro w hSw;(try dsimp only at hSw)
    go_simp;all_goals with_reducible rfl
   simp only[tkS];refine zrn (i:=3) (v:=?_) rfl (by kernel_rfl) (by kernel_rfl) (by kernel_rfl) (by kernel_rfl) (fun _ _ _ h=>h) (Or.inl ⟨by rfl,?_⟩) HS.out ?_;rotate_left
   ·intro w hSw;(try dsimp only at hSw)
    go_simp;all_goals with_reducible rfl
   simp only[tkS];refine zrn (i:=4) (v:=?_) rfl (by kernel_rfl) (by kernel_rfl) (by kernel_rfl) (by kernel_rfl) (fun _ _ _ h=>h) (Or.inl ⟨by rfl,?_⟩) HS.out ?_;rotate_left
   ·intro w hSw;(try dsimp only at hSw)
    go_simp;all_goals with_reducible rfl
   simp only[tkS];refine zrn (i:=5) (v:=?_) rfl (by kernel_rfl) (by kernel_rfl) (by kernel_rfl) (by kernel_rfl) (fun _ _ _ h=>h) (Or.inl ⟨by rfl,?_⟩) HS.out ?_;rotate_left
   ·intro w hSw;(try dsimp only at hSw)
    go_simp;all_goals with_reducible rfl
   simp only[tkS];refine zrn (i:=6) (v:=?_) rfl (by kernel_rfl) (by kernel_rfl) (by kernel_rfl) (by kernel_rfl) (fun _ _ _ h=>h) (Or.inl ⟨by rfl,?_⟩) HS.out ?_;rotate_left
   ·intro w hSw;(try dsimp only at hSw)
    go_simp;all_goals with_reducible rfl
   simp only[tkS];refine zrn (i:=7) (v:=?_) rfl (by kernel_rfl) (by kernel_rfl) (by kernel_rfl) (by kernel_rfl) (fun _ _ _ h=>h) (Or.inl ⟨by rfl,?_⟩) HS.out ?_;rotate_left
   ·intro w hSw;(try dsimp only at hSw)
    go_simp;all_goals with_reducible rfl
   simp only[tkS];refine zrm (i:=8) (by kernel_rfl) rfl (fun K hK=>?_);go_simp;refine hK.out _ _ (fun _=>HS.out) ?_;clear hK;try simp only[tkS]
   refine zrm (i:=9) (by kernel_rfl) rfl (fun K hK=>?_);go_simp;refine(zde vx x.2.2 wr.drew (HMX.out.below ((Below.refl _ _).drew)) (by omega) (zcM _)).mono ?_;rintro e w5 ⟨v5,rfl,o5,b5⟩;dsimp only;have hdz:wr.drew.heap.size=wr.heap.size:=rfl;have z5:=b5.size;have X5:=lhd (HC.out.x.drew.below b5 (by omega));have f5':w5.frozen? ⟨g,k*3+2,none⟩=false:=by rw[b5.frozen (p:=⟨g,k*3+2,none⟩) (by show g<_;omega)];exact f2
   have c5:w5.cell? ⟨g,k*3+2,none⟩=some vx:=by rw[b5.cell (p:=⟨g,k*3+2,none⟩) (by show g<_;omega)];exact d2
   have HS5:=lhd (X5.out.cell (j:=6) rfl);obtain⟨va,vc,rfl,-,-⟩:=(SlR.of_own o5).shape;refine hK.out _ _ (fun _=>HS5.out) ?_;clear hK;try simp only[tkS]
   refine zrm (i:=10) (by kernel_rfl) rfl (fun K hK=>?_);go_simp;refine hK.out _ _ (fun _=>HS5.out) ?_;clear hK;try simp only[tkS]
   refine zrm (i:=11) (by kernel_rfl) rfl (fun K hK=>?_);go_simp;refine hK.out _ _ (fun _=>HS5.out) ?_;clear hK;try simp only[tkS]
   refine zrm (i:=12) (by kernel_rfl) rfl (fun K hK=>?_);go_simp;refine hK.out _ _ (fun h=>absurd h (by decide)) ?_;clear hK;try simp only[tkS]
   refine⟨by kernel_rfl,?_⟩;clear d2 f2 c6 f5' c5;go_wp2_with fail;go_roundw
   case rel=>
    refine⟨k+1,hlt,by go_num,?_⟩;have hwb:=HC.out.b.size;have sg5:=zbE HO.out.drew b5;have hu:=zkk sg5 (k*3+2) (.slice va x.2.2.length vc);have hlen:(A++(x,.slice va x.2.2.length vc)::M.drop (k+1))=(A++ [(x,.slice va x.2.2.length vc)])++M.drop (k+1):=by simp
    rw[←HA.out,zmN,HA.out,hlen]at hu
    exact
     {x:=X5.out.other (by show g≠_;omega) _
      y:=(HC.out.y.drew.below b5 (by omega)).other (by show g≠_;omega) _
      s:=ownsRow_setCell_other (a:=⟨g,k*3+2,none⟩) (zbE HC.out.s.drew b5) (zkf (zbE HC.out.s.drew b5) sg5 (by decide) rfl) _
      v:=ownsRow_setCell_other (a:=⟨g,k*3+2,none⟩) (zbE HC.out.v.drew b5) (zkf (zbE HC.out.v.drew b5) sg5 (by decide) rfl) _
      q:=ownsRow_setCell_other (a:=⟨g,k*3+2,none⟩) (zbE HC.out.q.drew b5) (zkf (zbE HC.out.q.drew b5) sg5 (by decide) rfl) _
      g:=⟨A++ [(x,.slice va x.2.2.length vc)],by rw[List.length_append,HA.out];rfl,by rw[←hlen];have:=HN.out;simpa using this,hu,fun y hy=>by
       rcases List.mem_append.1 hy with hy|hy
       ·exact ownsRow_setCell_other (a:=⟨g,k*3+2,none⟩) (zbE (HR.out y hy).drew b5) (zkf (zbE (HR.out y hy).drew b5) sg5 (by decide) rfl) _
       ·obtain rfl:=List.mem_singleton.1 hy;exact ownsRow_setCell_other (a:=⟨g,k*3+2,none⟩) (zko (base':=Wb.heap.size) o5 (by omega)) (zkf o5 sg5 (by decide) rfl) _⟩
      b:=(HC.out.b.drew.trans (b5.mono hwb)).setCell (by show w.heap.size≤g;omega) _}
   case measure=>simp[intOf];omega
  ·obtain rfl:k=M.length:=by omega
   have cx0:=HC.out.x.cell (j:=0) rfl;have cy0:=HC.out.y.cell (j:=0) rfl;have fy0:=HC.out.y.free (j:=0) (by simp);have cx1:=HC.out.x.cell (j:=1) rfl;have cy1:=HC.out.y.cell (j:=1) rfl;have fy1:=HC.out.y.free (j:=1) (by simp);have cx2:=HC.out.x.cell (j:=2) rfl;have cy2:=HC.out.y.cell (j:=2) rfl;have fy2:=HC.out.y.free (j:=2) (by simp);have cx3:=HC.out.x.cell (j:=3) rfl;have cy3:=HC.out.y.cell (j:=3) rfl;have fy3:=HC.out.y.free (j:=3) (by simp);have cx4:=HC.out.x.cell (j:=4) rfl;have cy4:=HC.out.y.cell (j:=4) rfl;have fy4:=HC.out.y.free (j:=4) (by simp);have cx5:=HC.out.x.cell (j:=5) rfl;have cy5:=HC.out.y.cell (j:=5) rfl;have fy5:=HC.out.y.free (j:=5) (by simp);have cx6:=HC.out.x.cell (j:=6) rfl;have cy6:=HC.out.y.cell (j:=6) rfl;have fy6:=HC.out.y.free (j:=6) (by simp);have cx7:=HC.out.x.cell (j:=7) rfl;have cy7:=HC.out.y.cell (j:=7) rfl;have fy7:=HC.out.y.free (j:=7) (by simp);have cx8:=HC.out.x.cell (j:=8) rfl;have cy8:=HC.out.y.cell (j:=8) rfl;have fy8:=HC.out.y.free (j:=8) (by simp);go_wp2_with fail;clear cx0 cy0 fy0;clear cx1 cy1 fy1;clear cx2 cy2 fy2;clear cx3 cy3 fy3;clear cx4 cy4 fy4;clear cx5 cy5 fy5;clear cx6 cy6 fy6;clear cx7 cy7 fy7;clear cx8 cy8 fy8;have HR:=lhd (zmy HC.out.y (.int .i64 sc) (.string (bsB dt)) (.string (bsB vn)) (.string (bsB cm)) (.slice e1 S.length j1) (.slice e2 V.length j2) (.slice e3 M.length j3) (.slice e4 P.length j4) (.int .i64 en));have HP:=lhd (fun(B e size n:Nat) (v:Value) (xs:List Value) (h:wr.ownsRow B e size v n xs) (hb:w.heap.size+1<B)=>zmx h hb (.int .i64 sc) (.string (bsB dt)) (.string (bsB vn)) (.string (bsB cm)) (.slice e1 S.length j1) (.slice e2 V.length j2) (.slice e3 M.length j3) (.slice e4 P.length j4) (.int .i64 en));have HBB:=lhd (zmw HC.out.b (Nat.le_succ w.heap.size) (.int .i64 sc) (.string (bsB dt)) (.string (bsB vn)) (.string (bsB cm)) (.slice e1 S.length j1) (.slice e2 V.length j2) (.slice e3 M.length j3) (.slice e4 P.length j4) (.int .i64 en));unfold set9 at HR HP HBB;generalize (((((((((wr.setCell _ _).setCell _ _).setCell _ _).setCell _ _).setCell _ _).setCell _ _).setCell _ _).setCell _ _).setCell _ _)=Wf at*;have cx0:=HR.out.cell (j:=0) rfl;have cx1:=HR.out.cell (j:=1) rfl;have cx2:=HR.out.cell (j:=2) rfl;have cx3:=HR.out.cell (j:=3) rfl;have cx4:=HR.out.cell (j:=4) rfl;have cx5:=HR.out.cell (j:=5) rfl;have cx6:=HR.out.cell (j:=6) rfl;have cx7:=HR.out.cell (j:=7) rfl;have cx8:=HR.out.cell (j:=8) rfl;refine bodyPost_ret (v:=.agg #[.int .i64 sc,.string (bsB dt),.string (bsB vn),.string (bsB cm),.slice e1 S.length j1,.slice e2 V.length j2,.slice e3 M.length j3,.slice e4 P.length j4,.int .i64 en]) (by simp[results,Tryz.results30,go_sem, *]) rfl ?_;obtain⟨A,hA,hN,hO,hR⟩:=HC.out.g;rw[List.drop_length,List.append_nil]at hN hO;have hwl:=Nat.le_of_lt hbz
   exact⟨⟨.slice e1 S.length j1,.slice e2 V.length j2,.slice e3 M.length j3,.slice e4 P.length j4,A⟩,rfl,⟨zko (HP.out _ _ _ _ _ _ HC.out.s hzb) hwl,zko (HP.out _ _ _ _ _ _ HC.out.v hzb) hwl,
    by show World.ownsRow _ _ _ _ _ A.length _;rw[hA];exact zko (HP.out _ _ _ _ _ _ hO hzb) hwl,
    fun x hx=>zko (HP.out _ _ _ _ _ _ (hR x hx) hzb) hwl,zko (HP.out _ _ _ _ _ _ HC.out.q hzb) hwl,hN⟩,HBB.out⟩
def Dsp (G:List Sg) (s:Sg) (d:Dv):Prop:=
 (d.1= -1∧s.2.2=[])∨∃(j:Nat) (y:Sg),d.1=(j:Int)∧G[j]? =some y∧svS y=true∧((s.1≠0∧y=s)∨(s.1=0∧y.1=0∧SlOk y.2.1 d.2.1 s.2.1∧DerS y.2.1 s.2.1 y.2.2 s.2.2 (zll d 0 s.2.1)))
theorem zln {d:Dv} {n m:Int} (hd:d.1≠ -1) (hn:vt 0 n=true) (hm:vt 0 m=true) (hc:SlOk n d.2.1 m):zll d 0 m (vi 0 n)=vi 0 m:=by
 rw[zlm hd (zq1 hn) hm hc,(znd hn hc).2,zcd _ hm]
theorem zdK {L:List Sg} (hv:AllV L) {i:Nat} {s:Sg} {d:Dv} (hs:L[i]? =some s) (hd:(zdO L)[i]? =some d):Dsp (zbr L) s d:=by
 obtain⟨hf,hr⟩:=zeP hv hs hd;by_cases h1:d.1= -1
 ·exact .inl ⟨h1,(zeT hv hs hd).1 h1⟩
 have hsv:svS s=true:=by
  obtain⟨rfl,hi⟩:=zmC hs;exact hv i hi
 unfold ze6 at hf;by_cases h2:d.1< -1∨((zbr L).length:Int)≤d.1
 ·rw[if_pos h2]at hf;cases hf
 rw[if_neg h2]at hf;obtain⟨j,hj⟩:∃j:Nat,d.1=(j:Int):=⟨d.1.toNat,by omega⟩;have hlt:j<(zbr L).length:=by omega
 have hjt:d.1.toNat=j:=by omega
 rw[hjt]at hf;have hy:(zbr L)[j]? =some (sgAt (zbr L) j):=by rw[zmB hlt,List.getElem?_eq_getElem hlt]
 have hysv:svS (sgAt (zbr L) j)=true:=by
  have:=zbu hv;rw[List.all_eq_true]at this;exact this _ (by rw[zmB hlt];exact List.getElem_mem hlt)
 unfold zlC at hr;rw[if_neg h1,hjt]at hr;generalize sgAt (zbr L) j=y at*;by_cases h3:y.1≠s.1
 ·rw[if_pos ⟨h1,h3⟩]at hf;cases hf
 rw[if_neg (fun h=>h3 h.2)]at hf;have h3:y.1=s.1:=by simpa using h3
 refine .inr ⟨j,y,hj,hy,hysv,?_⟩;by_cases h0:s.1=0
 ·refine .inr ⟨h0,by omega,?_⟩;rw[if_neg (by simp[h1,h0])]at hf;simp only[Bool.and_eq_true,decide_eq_true_iff]at hf;have hm:=(zoI.1 (zoE hsv)).1;have hn:=(zoI.1 (zoE hysv)).1;rw[h0]at hm;rw[h3,h0]at hn;have hw:=vt0 hm;have hc:SlOk y.2.1 d.2.1 s.2.1:=⟨hf.1,by omega,by omega,by omega⟩;refine⟨hc,?_⟩
  have hp:zkI d s y=true:=by
   obtain⟨k,n,l⟩:=y;obtain⟨k2,m,q⟩:=s;obtain rfl:k=k2:=h3;obtain rfl:k=0:=h0;exact(zkJ hm).2 hc
  have hg:=(zdJ hysv (zoN hsv) h1 hp).1;have hr2:=congrArg (fun x:Sg=>x.2.2) hr;rw[show(zkw y d.2.1 d.2.2 s.2.1).1.2.2=s.2.2 from hr2]at hg;have hys:=zoE hysv;have hss:=zoE hsv;rw[h3,h0]at hys;rw[h0]at hss;refine DerS.mk' hys hss (zln h1 hn hm hc) ?_;rw[←hg];show(derG d s y).2.2=_;unfold derG;rw[h0]
 ·refine .inl ⟨h0,?_⟩;have hp:=zkA (st:=y) (by omega) d.2.1 d.2.2 s.2.1;rw[hp]at hr;have h4:=congrArg (fun x:Sg=>x.2.2) hr;have h5:=zqV (zoI.1 (zoE hysv)).1 (by omega);have h6:=zqV (zoI.1 (zoE hsv)).1 h0;exact Prod.ext h3 (Prod.ext (by omega) h4)
theorem zdY {s:Sg} {d:Dv} {j:Nat} {y:Sg} (hj:d.1=(j:Int)) (hs:svS s=true) (h:(s.1≠0∧y=s)∨(s.1=0∧y.1=0∧SlOk y.2.1 d.2.1 s.2.1∧DerS y.2.1 s.2.1 y.2.2 s.2.2 (zll d 0 s.2.1))) (t:Int):
 zll d s.1 s.2.1 (val (vi y.1 y.2.1) y.2.2 t)=val (vi s.1 s.2.1) s.2.2 t:=by
 rcases h with⟨h0,rfl⟩|⟨h0,h1,-,h2⟩
 ·have hv:=zoE hs;unfold zll;rw[if_neg (by rw[(zoI.1 hv).1];simp),if_neg (by omega),if_pos h0,if_pos (zqr hv t)]
 ·rw[h0,h1,h2.val t]
end Go.Proofs.YtbiadennhnokhaaGreatDoor
