import Derived.Test.YtfppgpamkdkckaaGreatDoorZ00
import Derived.Ground.GgzProg
import Derived.Laws.AppendOwnNone
import Derived.Lib.AppendZeros
import Derived.Lib.Builder
import Derived.Lib.IndexBytes
import Derived.Lib.Join
import Derived.Lib.SlicesCompact
import Derived.Lib.SplitLaws
import Derived.Shelf.SlGeneric
import Derived.Shelf.SlIterI.Nil
import Derived.Shelf.SlIterI.Sorted
import Derived.Sort.OwnSortedInts
import Derived.Test.YtfppgpamkdkckaaGreatDoorZ14
import Derived.Test.YtfppgpamkdkckaaGreatDoorZ16
import Derived.Test.YtfppgpamkdkckaaGreatDoorZ18
set_option maxRecDepth 100000
set_option maxHeartbeats 16000000
namespace Go.Proofs.YtfppgpamkdkckaaGreatDoor
theorem ztn {k n:Int} (h:vt k n=true):vv k n (vi k n)=true:=by
 have hv:=h;unfold vt at hv;unfold vv vi;rw[if_pos h,h,Bool.true_and];by_cases h0:k=0
 ·subst h0;have h1:1≤n∧n≤128:=by simpa using hv
  obtain⟨j,rfl⟩:=Int.eq_ofNat_of_zero_le (show 0≤n by omega);have hc:codeOf 120=2:=by decide
  have hr:allR (j:Int) 120=⟨(List.replicate j 120).toArray⟩:=by unfold allR;rw[if_neg (by rw[hc];omega),Int.toNat_natCast]
  rw[if_pos rfl,if_pos rfl,hr];have hs:(⟨(List.replicate j (120:UInt8)).toArray⟩:ByteArray).size=j:=by simp[ByteArray.size]
  have hb:bvIs ⟨(List.replicate j (120:UInt8)).toArray⟩=true:=by
   unfold bvIs;rw[hs];simp only[Bool.and_eq_true,decide_eq_true_iff,List.all_eq_true];refine⟨⟨by omega,by omega⟩,fun c hcm=>?_⟩
   have:c=120:=by
    have:c∈List.replicate j (120:UInt8):=by simpa using hcm
    exact(List.mem_replicate.1 this).2
   rw[this,hc];decide
  rw[hb,hs];simp
 ·rw[if_neg h0,if_neg h0];by_cases h1:k=1
  ·subst h1;rw[if_pos rfl,if_pos rfl];decide+kernel
  ·rw[if_neg h1,if_neg h1];split
   ·decide
   ·decide
theorem zsu {k n:Int} {l:List Ch} (h:sv k n l=true) (t:Int):vv k n (val (vi k n) l t)=true:=
 zsc (fun s=>vv k n s=true) (ztn (zp6.1 h).1) (fun c hc=>(zp7 h c hc).2.2)
theorem ztm {k n:Int} {s:ByteArray} (h:vv k n s=true):s.size≤1000:=by
 unfold vv at h;have h:=(Bool.and_eq_true _ _▸h).2;split at h
 ·unfold bvIs at h;simp only[Bool.and_eq_true,decide_eq_true_iff]at h;omega
 ·split at h
  ·unfold zdH znT at h;by_cases hs:64<s.size
   ·rw[if_pos hs]at h;cases h
   ·omega
  ·split at h
   ·have:=of_decide_eq_true h;omega
   ·unfold nilB at h;have:=of_decide_eq_true h;omega
theorem zks {k n:Int} {l:List Ch} (h:(zjT k n l).2=0):zjT k n l=((k,n,zjR k n l),0)∧vt k n=true∧zaj 0 l∧(∀c∈l,c.1≤1099511627776∧vv k n c.2=true)∧(zjR k n l).length≤4096:=by
 unfold zjT at h⊢;split at h
 ·simp at h
 ·rename_i h1
  split at h
  ·rename_i h2;exact absurd h h2
  ·rename_i h2
   have h3:nzGo k n 0 l=0:=by simpa using h2
   obtain⟨h4,h5⟩:=zkq.1 h3;unfold ziK at h⊢;split at h
   ·simp at h
   ·rename_i h6
    rw[if_neg h1,if_neg h2,if_neg h6];exact⟨rfl,by simpa using h1,h4,h5,by omega⟩
theorem zkt {k n:Int} {l:List Ch} (h:(zjT k n l).2=0):sv k n (zjR k n l)=true:=by
 obtain⟨-,h1,h2,h3,h4⟩:=zks h;exact zp6.2 ⟨h1,h4,zp4 k n l _ _ h2 h3⟩
def zaf:Int→List Gp→Prop
 |_,[]=>True
 |b,g::t=>b≤g.1∧g.1<g.2∧zaf (g.2+1) t
def endG:Int→List Gp→Int
 |b,[]=>b
 |_,g::t=>endG (g.2+1) t
def inP (P:List Gp) (t:Int):Bool:=P.any fun g=>decide (g.1≤t)&&decide (t<g.2)
theorem zaf.mono {a b:Int} (h:b≤a):∀{P:List Gp},zaf a P→zaf b P
 | [],_=>trivial
 |_::_,⟨h1,h2,h3⟩=>⟨by omega,h2,h3⟩
theorem zaf.app {Q:List Gp}:∀{P:List Gp} {b:Int},zaf b (P++Q)↔zaf b P∧zaf (endG b P) Q
 | [],_=>⟨fun h=>⟨trivial,h⟩,fun h=>h.2⟩
 |_::_,_=>⟨fun⟨h1,h2,h3⟩=>⟨⟨h1,h2,(zaf.app.1 h3).1⟩,(zaf.app.1 h3).2⟩,fun⟨⟨h1,h2,h3⟩,h4⟩=>⟨h1,h2,zaf.app.2 ⟨h3,h4⟩⟩⟩
theorem zeu (h:Gp):∀(P:List Gp) (b:Int),endG b (P++ [h])=h.2+1
 | [],_=>rfl
 |_::t,_=>zeu h t _
theorem zaf.mem:∀{P:List Gp} {b:Int},zaf b P→∀g∈P,b≤g.1∧g.1<g.2
 | [],_,_,g,h=>by cases h
 |k::t,b,⟨h1,h2,h3⟩,g,h=>by
  rcases List.mem_cons.1 h with rfl|h
  ·exact⟨h1,h2⟩
  ·have:=zaf.mem h3 g h;exact⟨by omega,this.2⟩
theorem zaG (g:Gp):zaD [] g=[g]:=rfl
theorem zaH (A:List Gp) (h g:Gp):zaD (A++ [h]) g=if g.1≤h.2 then A++ [(h.1,max h.2 g.2)]else A++ [h]++ [g]:=by
 unfold zaD;simp
theorem zpf {α:Type} (l:List α):l=[]∨∃A h,l=A++ [h]:=by
 rcases List.eq_nil_or_concat l with h|⟨A,h,e⟩
 ·exact .inl h
 ·exact .inr ⟨A,h,by simpa using e⟩
structure Accd (b:Int) (acc:List Gp):Prop where
 ok:zaf 0 acc
 low:∀g∈acc,g.1≤b
 most:∀g∈acc,g.2≤1099511627777
theorem Accd.add {b:Int} {acc:List Gp} (h:Accd b acc) {g:Gp} (h1:b≤g.1) (h0:0≤g.1) (h2:g.1<g.2) (h3:g.2≤1099511627777):Accd g.1 (zaD acc g)∧∀t,inP (zaD acc g) t=(inP acc t||(decide (g.1≤t)&&decide (t<g.2))):=by
 rcases zpf acc with rfl|⟨A,k,rfl⟩
 ·rw[zaG];refine⟨⟨⟨h0,h2,trivial⟩,fun x hx=>?_,fun x hx=>?_⟩,fun t=>?_⟩
  ·rw[List.mem_singleton]at hx;subst hx;omega
  ·rw[List.mem_singleton]at hx;subst hx;omega
  ·simp[inP]
 ·obtain⟨ho,hl,hm⟩:=h;obtain⟨ho1,ho2,ho3,-⟩:=zaf.app.1 ho;have hk1:=hl k (by simp);have hk2:=hm k (by simp);rw[zaH];split
  ·rename_i hc
   refine⟨⟨zaf.app.2 ⟨ho1,ho2,by show k.1<max k.2 g.2;omega,trivial⟩,fun x hx=>?_,fun x hx=>?_⟩,fun t=>?_⟩
   ·rcases List.mem_append.1 hx with hx|hx
    ·have:=hl x (List.mem_append_left _ hx);omega
    ·rw[List.mem_singleton]at hx;subst hx;show k.1≤g.1;omega
   ·rcases List.mem_append.1 hx with hx|hx
    ·exact hm x (List.mem_append_left _ hx)
    ·rw[List.mem_singleton]at hx;subst hx;show max k.2 g.2≤_;omega
   ·unfold inP;rw[List.any_append,List.any_append];simp only[List.any_cons,List.any_nil,Bool.or_false,Bool.or_assoc];congr 1
    rw[Bool.eq_iff_iff];simp only[Bool.and_eq_true,Bool.or_eq_true,decide_eq_true_iff];omega
  ·rename_i hc
   refine⟨⟨zaf.app.2 ⟨ho,by rw[zeu];omega,h2,trivial⟩,fun x hx=>?_,fun x hx=>?_⟩,fun t=>?_⟩
   ·rcases List.mem_append.1 hx with hx|hx
    ·have:=hl x hx;omega
    ·rw[List.mem_singleton]at hx;subst hx;omega
   ·rcases List.mem_append.1 hx with hx|hx
    ·exact hm x hx
    ·rw[List.mem_singleton]at hx;subst hx;omega
   ·unfold inP;rw[List.any_append];simp
theorem zaE {acc:List Gp} {g:Gp} {en:Int} (h:∀x∈acc,x.2-1≤en):∀x∈zaD acc g,x.2-1≤max en (g.2-1):=by
 intro x hx;rcases zpf acc with rfl|⟨A,k,rfl⟩
 ·rw[zaG,List.mem_singleton]at hx;subst hx;omega
 ·have hk:=h k (by simp);rw[zaH]at hx;split at hx
  ·rcases List.mem_append.1 hx with hx|hx
   ·have:=h x (List.mem_append_left _ hx);omega
   ·rw[List.mem_singleton]at hx;subst hx;show max k.2 g.2-1≤_;omega
  ·rcases List.mem_append.1 hx with hx|hx
   ·have:=h x hx;omega
   ·rw[List.mem_singleton]at hx;subst hx;omega
theorem zf3 (b:Int) (acc:List Gp) (en:Int) (g:Gp) (t:List Gp):zf2 b acc en (g::t)=if g.1<b∨g.1<0∨g.2≤g.1∨1099511627777<g.2 then none else zf2 g.1 (zaD acc g) (max en (g.2-1)) t:=rfl
theorem zf6:∀(l:List Gp) (b:Int) (acc:List Gp) (en:Int) (P:List Gp) (en':Int),zf2 b acc en l=some (P,en')→Accd b acc→(∀x∈acc,x.2-1≤en)→
 (∃c,Accd c P)∧(∀x∈P,x.2-1≤en')∧en≤en'∧(en'=en∨en'≤1099511627776)∧∀t,inP P t=(inP acc t||inP l t)
 | [],b,acc,en,P,en',h,ha,he=>by
   injection h with h;injection h with h1 h2;subst h1 h2;exact⟨⟨b,ha⟩,he,Int.le_refl _,.inl rfl,fun t=>by simp[inP]⟩
 |g::t,b,acc,en,P,en',h,ha,he=>by
  rw[zf3]at h;split at h
  ·cases h
  ·rename_i hc
   obtain⟨ha1,ha2⟩:=ha.add (g:=g) (by omega) (by omega) (by omega) (by omega);obtain⟨q1,q2,q3,q4,q5⟩:=zf6 t _ _ _ _ _ h ha1 (zaE he);refine⟨q1,q2,by omega,by omega,fun u=>?_⟩;rw[q5,ha2,Bool.or_assoc];rfl
theorem zf4:∀(l:List Gp) (b:Int) (acc:List Gp) (en:Int),0≤b→zaf b l→(∀x∈acc,x.2<b)→(∀x∈l,x.2-1≤en∧x.2≤1099511627777)→∀a,a≤b→zf2 a acc en l=some (acc++l,en)
 | [],b,acc,en,_,_,_,_,a,_=>by simp[zf2]
 |g::t,b,acc,en,hb,⟨h1,h2,h3⟩,ha,he,a,hab=>by
  have hg:=he g (by simp);rw[zf3,if_neg (by omega)]
  have e:zaD acc g=acc++ [g]:=by
   rcases zpf acc with rfl|⟨A,k,rfl⟩
   ·rfl
   ·have:=ha k (by simp);rw[zaH,if_neg (by omega)]
  rw[e,show max en (g.2-1)=en by omega,zf4 t (g.2+1) (acc++ [g]) en (by omega) h3 (fun x hx=>?_) (fun x hx=>he x (List.mem_cons_of_mem _ hx)) g.1 (by omega)]
  ·simp
  ·rcases List.mem_append.1 hx with hx|hx
   ·have:=ha x hx;omega
   ·rw[List.mem_singleton]at hx;subst hx;omega
def inG (en:Int) (P:List Gp) (t:Int):Bool:=P.any fun g=>decide (g.1≤t)&&decide (t<zfU en g)
theorem zju {a u:Int} {cs:List Ch} (h:zaj a cs):zaj a (cs.takeWhile fun c=>decide (c.1<u)):=h.sub (List.takeWhile_sublist _)
theorem zjp {a:Int} {p:Ch→Bool}:∀{cs:List Ch},zaj a cs→zaj a (cs.dropWhile p):=fun h=>h.sub (List.dropWhile_sublist _)
theorem zjr {a u:Int}:∀{cs:List Ch},zaj a cs→zaj u (cs.dropWhile fun c=>decide (c.1<u))
 | [],_=>trivial
 |c::cs,h=>by
  rw[List.dropWhile_cons];split
  ·exact zjr h.2
  ·rename_i hc;exact⟨by simpa using hc,h.2⟩
theorem zjq {a u:Int}:∀{cs:List Ch},zaj a cs→zaj (u+1) (cs.dropWhile fun c=>decide (c.1≤u))
 | [],_=>trivial
 |c::cs,h=>by
  rw[List.dropWhile_cons];split
  ·exact zjq h.2
  ·rename_i hc
   have:¬c.1≤u:=by simpa using hc
   exact⟨by omega,h.2⟩
theorem zqm {u:Int} {cs:List Ch}:∀c∈cs.takeWhile (fun c=>decide (c.1<u)),c.1<u:=fun c hc=>by
 have:=List.all_eq_true.1 List.all_takeWhile c hc;simpa using this
theorem zql {u:Int} {cs:List Ch}:∀c∈cs.takeWhile (fun c=>decide (c.1≤u)),c.1≤u:=fun c hc=>by
 have:=List.all_eq_true.1 List.all_takeWhile c hc;simpa using this
theorem ziS {p:Ch→Bool} {cs:List Ch} {c:Ch} (h:c∈cs.takeWhile p):c∈cs:=(List.takeWhile_sublist _).subset h
theorem ziR {p:Ch→Bool} {cs:List Ch} {c:Ch} (h:c∈cs.dropWhile p):c∈cs:=(List.dropWhile_sublist _).subset h
theorem zr8 {v:ByteArray} {t u:Int} {cs:List Ch} {a:Int} (h:zaj a cs) (ht:t<u):val v (cs.takeWhile fun c=>decide (c.1<u)) t=val v cs t:=by
 have e:cs=cs.takeWhile (fun c=>decide (c.1<u))++cs.dropWhile (fun c=>decide (c.1<u)):=by rw[List.takeWhile_append_dropWhile]
 conv=>rhs;rw[e]
 rw[val_append,zsb (zjr h) ht]
theorem zr4 {v:ByteArray} {t u w:Int} {cs:List Ch} {a:Int} (h:zaj a cs) (hu:w≤u) (ht:u≤t):val (val v cs u) (((cs.dropWhile fun c=>decide (c.1<w))).dropWhile fun c=>decide (c.1≤u)) t=val v cs t:=by
 have e:cs=cs.takeWhile (fun c=>decide (c.1<w))++cs.dropWhile (fun c=>decide (c.1<w)):=by rw[List.takeWhile_append_dropWhile]
 generalize hA:cs.takeWhile (fun c=>decide (c.1<w))=A at e;have hA1:∀c∈A,c.1<w:=by subst hA;exact zqm
 have hnd:=zjp (p:=fun c=>decide (c.1<w)) h;generalize cs.dropWhile (fun c=>decide (c.1<w))=B at e hnd⊢;have e2:B=B.takeWhile (fun c=>decide (c.1≤u))++B.dropWhile (fun c=>decide (c.1≤u)):=by rw[List.takeWhile_append_dropWhile]
 have hnd2:=zjq (u:=u) hnd;generalize hC:B.takeWhile (fun c=>decide (c.1≤u))=C at e2;have hC1:∀c∈C,c.1≤u:=by subst hC;exact zql
 generalize B.dropWhile (fun c=>decide (c.1≤u))=D at e2 hnd2⊢;subst e2 e;have e1:val v (A++(C++D)) u=val v (A++C) u:=by rw[←List.append_assoc,val_append,zsb hnd2 (by omega)]
 have e2:val v (A++C) t=val v (A++C) u:=zr5 _ (fun c hc=>by
  rcases List.mem_append.1 hc with hc|hc
  ·have:=hA1 c hc;omega
  ·exact hC1 c hc) ht
 rw[e1,←e2,←List.append_assoc,←val_append]
theorem zky (x:ByteArray) (at_:Int→ByteArray) (en:Int) (g:Gp) (P:List Gp) (cs:List Ch):offL x at_ en (g::P) cs=cs.takeWhile (fun c=>decide (c.1<g.1))++((g.1,x)::((if zfU en g≤1099511627776 then [(zfU en g,at_ (zfU en g))]else [])++
 offL x at_ en P ((cs.dropWhile fun c=>decide (c.1<g.1)).dropWhile fun c=>decide (c.1≤zfU en g)))):=rfl
theorem zfV {en:Int} {g:Gp} (h:g.1<g.2) (h2:g.2≤1099511627777):g.1<zfU en g∧g.2≤zfU en g:=by unfold zfU;split<;>omega
theorem zjt {a:Int} {c:Ch} {l:List Ch} (h1:a≤c.1) (h2:zaj c.1 l):zaj a (c::l):=⟨h1,h2⟩
theorem zkC (x:ByteArray) (at_:Int→ByteArray) (en:Int) (hen:en≤1099511627776):∀(P:List Gp) (cs:List Ch) (a b:Int),a≤b→zaf b P→(∀g∈P,g.2≤1099511627777∧g.2-1≤en)→zaj a cs→zaj a (offL x at_ en P cs)
 | [],cs,a,b,_,_,_,h=>h
 |g::P,cs,a,b,hab,⟨h1,h2,h3⟩,hm,h=>by
  have hg:=hm g (by simp);obtain⟨hg1,hg2⟩:=zfV (en:=en) h2 hg.1;rw[zky];refine zaj.append (b:=g.1) (zju h) (fun c hc=>by have:=zqm c hc;omega) (by omega) ⟨Int.le_refl _,?_⟩
  have hr:zaj (zfU en g) (offL x at_ en P ((cs.dropWhile fun c=>decide (c.1<g.1)).dropWhile fun c=>decide (c.1≤zfU en g))):=by
   rcases(show zfU en g=g.2∨(zfU en g=1099511627777∧g.2=en+1)by unfold zfU;split<;>omega)with e|⟨e1,e2⟩
   ·exact zkC x at_ en hen P _ (zfU en g) (g.2+1) (by omega) h3 (fun k hk=>hm k (List.mem_cons_of_mem _ hk)) ((zjq (zjp h)).mono (by omega))
   ·cases P with
    |nil=>exact(zjq (zjp h)).mono (by omega)
    |cons k P=>
     have hk:=hm k (by simp);have:=h3.1;have:=h3.2.1;omega
  split
  ·exact⟨by show g.1≤zfU en g;omega,hr⟩
  ·exact hr.mono (by omega)
theorem zkB (x:ByteArray) (at_:Int→ByteArray) (en:Int) (hen:en≤1099511627776):∀(P:List Gp) (cs:List Ch) (c:Ch),c∈offL x at_ en P cs→c∈cs∨(∃g∈P,c=(g.1,x))∨∃g∈P,c=(zfU en g,at_ (zfU en g))∧zfU en g≤1099511627776
 | [],_,_,h=> .inl h
 |g::P,cs,c,h=>by
  rw[zky]at h;rcases List.mem_append.1 h with h|h
  ·exact .inl (ziS h)
  rcases List.mem_cons.1 h with h|h
  ·exact .inr (.inl ⟨g,by simp,h⟩)
  rcases List.mem_append.1 h with h|h
  ·split at h
   ·rename_i h6
    rw[List.mem_singleton]at h;exact .inr (.inr ⟨g,by simp,h,h6⟩)
   ·cases h
  ·rcases zkB x at_ en hen P _ c h with h|⟨k,hk,e⟩|⟨k,hk,e⟩
   ·exact .inl (ziR (ziR h))
   ·exact .inr (.inl ⟨k,List.mem_cons_of_mem _ hk,e⟩)
   ·exact .inr (.inr ⟨k,List.mem_cons_of_mem _ hk,e⟩)
theorem zgT (en:Int) (g:Gp) (P:List Gp) (t:Int):inG en (g::P) t=((decide (g.1≤t)&&decide (t<zfU en g))||inG en P t):=rfl
theorem zgU {en t b:Int} (h:t<b):∀{P:List Gp},zaf b P→inG en P t=false:=fun{P} hP=>by
 unfold inG;rw[List.any_eq_false];intro g hg;have:=hP.mem g hg;simp;omega
theorem zkF (x:ByteArray) (at_:Int→ByteArray) (en:Int) (hen:en≤1099511627776) (t:Int) (ht:t≤1099511627776):∀(P:List Gp) (cs:List Ch) (v:ByteArray) (a b:Int),a≤b→zaf b P→(∀g∈P,g.2≤1099511627777∧g.2-1≤en)→zaj a cs→
 (∀g∈P,zfU en g≤1099511627776→at_ (zfU en g)=val v cs (zfU en g))→val v (offL x at_ en P cs) t=if inG en P t=true then x else val v cs t
 | [],_,_,_,_,_,_,_,_,_=>rfl
 |g::P,cs,v,a,b,hab,⟨h1,h2,h3⟩,hm,h,hat=>by
  have hg:=hm g (by simp);obtain⟨hg1,hg2⟩:=zfV (en:=en) h2 hg.1
  have hP:zfU en g=g.2∨(zfU en g=1099511627777∧P=[]):=by
   rcases(show zfU en g=g.2∨(zfU en g=1099511627777∧g.2=en+1)by unfold zfU;split<;>omega)with e|⟨e1,e2⟩
   ·exact .inl e
   ·cases P with
    |nil=>exact .inr ⟨e1,rfl⟩
    |cons k P=>
     have hk:=hm k (by simp);have:=h3.1;have:=h3.2.1;omega
  have hC:zaj (zfU en g) ((cs.dropWhile fun c=>decide (c.1<g.1)).dropWhile fun c=>decide (c.1≤zfU en g)):=(zjq (zjp h)).mono (by omega)
  have hr:zaj (zfU en g) (offL x at_ en P ((cs.dropWhile fun c=>decide (c.1<g.1)).dropWhile fun c=>decide (c.1≤zfU en g))):=by
   rcases hP with e|⟨e1,rfl⟩
   ·exact zkC x at_ en hen P _ (zfU en g) (g.2+1) (by omega) h3 (fun k hk=>hm k (List.mem_cons_of_mem _ hk)) hC
   ·exact hC
  rw[zky,val_append,zgT]
  have hmid:zaj (zfU en g) ((if zfU en g≤1099511627776 then [(zfU en g,at_ (zfU en g))]else [])++offL x at_ en P ((cs.dropWhile fun c=>decide (c.1<g.1)).dropWhile fun c=>decide (c.1≤zfU en g))):=by
   split
   ·exact⟨Int.le_refl _,hr⟩
   ·exact hr
  by_cases q1:t<g.1
  ·rw[zsb (a:=g.1) (zjt (c:=(g.1,x)) (Int.le_refl _) (hmid.mono (show(g.1,x).1≤zfU en g by show g.1≤zfU en g;omega))) q1,zr8 h q1,show decide (g.1≤t)=false by simp;omega,Bool.false_and,Bool.false_or,zgU (b:=g.2+1) (by omega) h3];rfl
  ·rw[zr7,if_pos (show(g.1,x).1≤t by show g.1≤t;omega)];by_cases q2:t<zfU en g
   ·rw[zsb hmid q2,show decide (g.1≤t)=true by simp;omega,show decide (t<zfU en g)=true by simp;omega];rfl
   ·have e:zfU en g=g.2:=by rcases hP with e|⟨e1,-⟩<;>omega
    rw[if_pos (by omega),List.cons_append,List.nil_append,zr7,if_pos (show(zfU en g,at_ (zfU en g)).1≤t by show zfU en g≤t;omega),hat g (by simp) (by omega),show decide (t<zfU en g)=false by simp;omega,Bool.and_false,Bool.false_or];rw[zkF x at_ en hen t ht P _ (val v cs (zfU en g)) (zfU en g) (g.2+1) (by omega) h3 (fun k hk=>hm k (List.mem_cons_of_mem _ hk)) hC ?_]
    ·rw[zr4 h (by omega) (by omega)]
    ·intro k hk hk6;have hk0:=hm k (List.mem_cons_of_mem _ hk);have hk1:=h3.mem k hk;have hk2:=(zfV (en:=en) hk1.2 hk0.1).1;rw[hat k (List.mem_cons_of_mem _ hk) hk6,zr4 h (by omega) (by omega)]
theorem zfs {α:Type} {f:α→Int}:∀{l:List α},zfq f l=0↔ ∀x∈l,f x=0
 | []=>by simp[zfq]
 |x::l=>by
  unfold zfq;split
  ·rename_i h
   exact⟨fun h'=>absurd h' h,fun h'=>absurd (h' x (by simp)) h⟩
  ·rename_i h
   have h:f x=0:=by simpa using h
   rw[zfs];exact⟨fun h' y hy=>(List.mem_cons.1 hy).elim (fun e=>e▸h) (h' y),fun h' y hy=>h' y (List.mem_cons_of_mem _ hy)⟩
structure Built (t a:Tr) (P:List Gp) (en:Int):Prop where
 tx:zqw t=0
 dc:zdV t=0
 ft:∀v∈(zll t.S t.V).2.1,fitE (sig1 t) v=0
 nm:∀s∈sig1 t,(zjT s.1 s.2.1 s.2.2).2=0
 tm:zqB t (zjO (sig1 t))=some (P,en)
 cl:zcm P en (zjO (sig1 t))=0
 eq:a=⟨t.sc,t.dt,t.vn,t.cm,(zll t.S t.V).1,(zll t.S t.V).2.1,clrL P en (zjO (sig1 t)),P,en⟩
theorem zbw {t a:Tr} (h:zbv t=(a,0)):∃P en,Built t a P en:=by
 unfold zbv at h;split at h
 ·rename_i h1;injection h with _ h;exact absurd h h1
 split at h
 ·rename_i h1;injection h with _ h;exact absurd h h1
 split at h
 ·rename_i h1;injection h with _ h;exact absurd h h1
 split at h
 ·rename_i h1;injection h with _ h;exact absurd h h1
 rename_i h1 h2 h3 h4
 split at h
 ·injection h with _ h;exact absurd h (by decide)
 rename_i P en h5
 split at h
 ·rename_i h1;injection h with _ h;exact absurd h h1
 rename_i h6
 injection h with h _;exact⟨P,en,by simpa using h1,by simpa using h2,zfs.1 (by simpa using h3),zfs.1 (by unfold zjJ at h4;simpa using h4),h5,by simpa using h6,h.symm⟩
theorem zdW {t:Tr} (h:zdV t=0):zb6 t.S t.V=0∧zll t.S t.V=(scF t.S,(vrF t.S t.V).1,(vrF t.S t.V).2,0)∧(∀n∈(vrF t.S t.V).2,n<(t.G.length:Int))∧(vrF t.S t.V).2.length≤64:=by
 unfold zdV at h;split at h
 ·rename_i h1;exact absurd h h1
 rename_i h1
 have e:zb6 t.S t.V=0:=by
  unfold zll at h1;split at h1
  ·rename_i h2;exact absurd h2 h1
  ·rename_i h2;simpa using h2
 have e2:zll t.S t.V=(scF t.S,(vrF t.S t.V).1,(vrF t.S t.V).2,0):=by unfold zll;rw[if_neg (by simp[e])]
 rw[e2]at h;split at h
 ·cases h
 rename_i h3
 split at h
 ·cases h
 rename_i h4
 refine⟨e,e2,fun n hn=>?_,by simpa using h4⟩;have h3:¬(vrF t.S t.V).2.any (fun n=>decide ((t.G.length:Int)≤n))=true:=h3;rw[Bool.not_eq_true,List.any_eq_false]at h3;have:=h3 n hn;simp at this;exact this
theorem zno (G:List Sg):(rgI G.length).map (sgI G)=G:=by
 apply List.ext_getElem
 ·simp[rgI]
 ·intro i h1 h2;simp[rgI,sgI,List.getD,List.getElem?_eq_getElem h2]
theorem zjP {G:List Sg} (h:∀s∈G,(zjT s.1 s.2.1 s.2.2).2=0):(zjO G).map (fun s=>(s.1,s.2.1))=G.map fun s=>(s.1,s.2.1):=by
 unfold zjO;rw[List.map_map];refine List.map_congr_left fun s hs=>?_;have:=(zks (h s hs)).1;simp[this]
theorem zjQ {G:List Sg} (h:∀s∈G,(zjT s.1 s.2.1 s.2.2).2=0):∀s∈zjO G,sv s.1 s.2.1 s.2.2=true:=fun s hs=>by
 obtain⟨x,hx,rfl⟩:=List.mem_map.1 hs;have:=h x hx;rw[(zks this).1];exact zkt this
theorem zjs {a:Int}:∀{l:List Ch} {c:Ch},zaj a l→l.getLast? =some c→(∀d∈l,d.1≤c.1)∧c∈l
 | [],_,_,h=>by cases h
 | [x],c,_,h=>by
   simp at h;subst h;exact⟨fun d hd=>by rw[List.mem_singleton]at hd;subst hd;omega,by simp⟩
 |x::y::l,c,h1,h=>by
  rw[List.getLast?_cons_cons]at h;obtain⟨h2,h3⟩:=zjs h1.2 h;refine⟨fun d hd=>?_,List.mem_cons_of_mem _ h3⟩;rcases List.mem_cons.1 hd with rfl|hd
  ·have:=h2 y (by simp);have:=h1.2.1;omega
  ·exact h2 d hd
theorem zig (s:Sg) (G:List Sg) (en:Int):zif (s::G) en=zif G (match s.2.2.getLast? with
 |none=>en
 |some c=>max en c.1):=rfl
theorem zih:∀(G:List Sg) (en:Int),en≤zif G en
 | [],_=>Int.le_refl _
 |s::G,en=>by
  rw[zig];cases s.2.2.getLast? with
  |none=>exact zih G en
  |some c=>have:=zih G (max en c.1);show en≤zif G (max en c.1);omega
theorem zij:∀(G:List Sg) (en:Int),(∀s∈G,zaj 0 s.2.2)→∀s∈G,∀c∈s.2.2,c.1≤zif G en
 | [],_,_,s,hs=>by cases hs
 |x::G,en,hn,s,hs=>by
  intro c hc;rw[zig];rcases List.mem_cons.1 hs with rfl|hs
  ·cases hl:s.2.2.getLast? with
   |none=>rw[List.getLast?_eq_none_iff]at hl;rw[hl]at hc;cases hc
   |some d=>
    have:=(zjs (hn s (by simp)) hl).1 c hc;have:=zih G (max en d.1);show c.1≤zif G (max en d.1);omega
  ·exact zij G _ (fun s hs=>hn s (List.mem_cons_of_mem _ hs)) s hs c hc
theorem zii {B:Int}:∀(G:List Sg) (en:Int),en≤B→(∀s∈G,∀c∈s.2.2,c.1≤B)→zif G en≤B
 | [],_,h,_=>h
 |s::G,en,h,hm=>by
  rw[zig];refine zii G _ ?_ (fun x hx=>hm x (List.mem_cons_of_mem _ hx));cases hl:s.2.2.getLast? with
  |none=>exact h
  |some c=>
   have:=hm s (by simp) c (List.mem_of_getLast? hl);show max en c.1≤B;omega
structure Times (P:List Gp) (en:Int) (G:List Sg):Prop where
 ok:zaf 0 P
 most:∀g∈P,g.2≤1099511627777∧g.2-1≤en
 lo:0≤en
 hi:en≤1099511627776
 ch:∀s∈G,∀c∈s.2.2,c.1≤en
theorem zqC {t:Tr} {G:List Sg} {P:List Gp} {en:Int} (h:zqB t G=some (P,en)) (hs:∀s∈G,sv s.1 s.2.1 s.2.2=true):Times P en G∧t.en≤en∧∀u,inP P u=inP t.P u:=by
 unfold zqB at h;split at h
 ·cases h
 rename_i h1
 cases hg:zf2 0 [] t.en t.P with
 |none=>rw[hg]at h;cases h
 |some r=>
  obtain⟨Q,e⟩:=r;rw[hg]at h;injection h with h;injection h with h2 h3;subst h2;obtain⟨⟨c,ha⟩,q2,q3,q4,q5⟩:=zf6 _ _ _ _ _ _ hg ⟨trivial,fun _ h=>by(cases h),fun _ h=>by(cases h)⟩ (fun _ h=>by(cases h));have hge:=zih G e;have h3:zif G e=en:=h3;refine⟨⟨ha.ok,fun g hg=>⟨ha.most g hg,by have:=q2 g hg;omega⟩,by omega,?_,fun s hs' c hc=>?_⟩,by omega,fun u=>by rw[q5];rfl⟩
  ·rw[←h3];exact zii G e (by omega) (fun s hs' c hc=>(zp7 (hs s hs') c hc).2.1)
  ·rw[←h3];exact zij G e (fun s hs'=>zp8 (hs s hs')) s hs' c hc
theorem Times.f {t:Tr} {G:List Sg} {P:List Gp} {en:Int} (h:Times P en G) (h1:t.P=P) (h2:t.en=en):zqB t G=some (P,en):=by
 unfold zqB;rw[h1,h2,if_neg (by have:=h.lo;have:=h.hi;omega),zf4 P 0 [] en (Int.le_refl _) h.ok (fun _ h=>by cases h) (fun x hx=>⟨(h.most x hx).2,(h.most x hx).1⟩) 0 (Int.le_refl _)];show some (([]:List Gp)++P,zif G en)=some (P,en);have e:zif G en=en:=Int.le_antisymm (zii G en (Int.le_refl _) h.ch) (zih G en);rw[e];rfl
theorem zfW {P:List Gp} {en:Int} {G:List Sg} (h:Times P en G) {g:Gp} (hg:g∈P):0≤g.1∧g.1≤en∧g.1<zfU en g∧(zfU en g≤1099511627776→zfU en g=g.2∧g.2≤en):=by
 have h1:=h.ok.mem g hg;have h2:=h.most g hg;have:=h.hi;refine⟨h1.1,by omega,(zfV h1.2 h2.1).1,fun h3=>?_⟩;unfold zfU at h3⊢;split at h3
 ·omega
 ·rw[if_neg (by omega)];omega
theorem zkJ {P:List Gp} {en:Int} {G:List Sg} (h:Times P en G) {n:Int} {cs:List Ch} (hs:sv 0 n cs=true) (hc:∀c∈cs,c.1≤en):
 zaj 0 (offL (vi 0 n) (fun t=>(atR 0 n cs t).1) en P cs)∧(∀c∈offL (vi 0 n) (fun t=>(atR 0 n cs t).1) en P cs,c.1≤en∧vv 0 n c.2=true)∧
 ∀u,0≤u→u≤1099511627776→val (vi 0 n) (offL (vi 0 n) (fun t=>(atR 0 n cs t).1) en P cs) u=if inG en P u=true then vi 0 n else val (vi 0 n) cs u:=by
 have hnd:=zp8 hs;refine⟨zkC _ _ en h.hi P cs 0 0 (Int.le_refl _) h.ok h.most hnd,fun c hc'=>?_,fun u h0 hu=>?_⟩
 ·rcases zkB _ _ en h.hi P cs c hc' with h1|⟨g,hg,rfl⟩|⟨g,hg,rfl,h6⟩
  ·exact⟨hc c h1,(zp7 hs c h1).2.2⟩
  ·exact⟨(zfW h hg).2.1,ztn (zp6.1 hs).1⟩
  ·obtain⟨q0,q1,q2,q3⟩:=zfW h hg;obtain⟨q4,q5⟩:=q3 h6;refine⟨by show zfU en g≤en;omega,?_⟩;show vv 0 n (atR 0 n cs (zfU en g)).1=true;rw[zaV hs (by omega) h6];exact zsu hs _
 ·refine zkF _ _ en h.hi u hu P cs _ 0 0 (Int.le_refl _) h.ok h.most hnd (fun g hg h6=>?_);obtain⟨q0,q1,q2,q3⟩:=zfW h hg;rw[zaV hs (by omega) h6]
theorem zkL {P:List Gp} {en:Int} {G:List Sg} (h:Times P en G) {n:Int} {cs:List Ch} (hs:sv 0 n cs=true) (hc:∀c∈cs,c.1≤en) (h0:(offF P en (0,n,cs)).2=0):
 ∃ds,offF P en (0,n,cs)=((0,n,ds),0)∧sv 0 n ds=true∧(∀c∈ds,c.1≤en)∧∀u,0≤u→u≤1099511627776→val (vi 0 n) ds u=if inG en P u=true then vi 0 n else val (vi 0 n) cs u:=by
 obtain⟨h1,h2,h3⟩:=zkJ h hs hc;unfold offF at h0⊢;refine⟨_,(zks h0).1,zkt h0,fun c hc'=>(h2 c ((zjN _ _ _).subset hc')).1,fun u hu0 hu=>?_⟩;rw[←h3 u hu0 hu];exact zsd 0 u _ _ 0 h1
theorem zcn {P:List Gp} {en:Int} {G:List Sg} (h:zcm P en G=0):P.length≤16∧(∀s∈G,s.1=0→(offF P en s).2=0)∧zdp (clrL P en G)≤4096:=by
 unfold zcm at h;split at h
 ·cases h
 rename_i h1
 split at h
 ·rename_i h2;exact absurd h h2
 rename_i h2
 split at h
 ·cases h
 rename_i h3
 have h2:clrE P en G=0:=by simpa using h2
 refine⟨by omega,fun s hs h0=>?_,by omega⟩;have:=zfs.1 h2 s hs;rwa [if_pos h0]at this
theorem Built.sigs {t a:Tr} {P:List Gp} {en:Int} (h:Built t a P en):Times P en (zjO (sig1 t))∧Times P en a.G∧(∀s∈a.G,sv s.1 s.2.1 s.2.2=true)∧a.G.map (fun s=>(s.1,s.2.1))=(sig1 t).map (fun s=>(s.1,s.2.1))∧
 (∀s∈a.G,s.1=0→∀u,0≤u→u≤1099511627776→inG en P u=true→val (vi 0 s.2.1) s.2.2 u=vi 0 s.2.1)∧P.length≤16∧zdp a.G≤4096∧t.en≤en∧∀u,inP P u=inP t.P u:=by
 obtain⟨h1,h2,h3,h4,h5,h6,h7⟩:=h;have hN:=zjQ h4;obtain⟨hT,he,hi⟩:=zqC h5 hN;obtain⟨c1,c2,c3⟩:=zcn h6;have hNm:=zjP h4;generalize zjO (sig1 t)=N at*
 have key:∀s∈N,s.1=0→∃ds,offF P en s=((0,s.2.1,ds),0)∧sv 0 s.2.1 ds=true∧(∀c∈ds,c.1≤en)∧∀u,0≤u→u≤1099511627776→inG en P u=true→val (vi 0 s.2.1) ds u=vi 0 s.2.1:=by
  rintro⟨k,n,cs⟩ hs h0;have h0:k=0:=h0;subst h0;obtain⟨ds,e1,e2,e3,e4⟩:=zkL hT (hN _ hs) (hT.ch _ hs) (c2 _ hs rfl);exact⟨ds,e1,e2,e3,fun u hu0 hu hx=>by rw[e4 u hu0 hu,if_pos hx]⟩
 have hG:a.G=clrL P en N:=by rw[h7]
 rw[hG]
 have hm:∀s∈clrL P en N,sv s.1 s.2.1 s.2.2=true∧(∀c∈s.2.2,c.1≤en)∧(s.1=0→∀u,0≤u→u≤1099511627776→inG en P u=true→val (vi 0 s.2.1) s.2.2 u=vi 0 s.2.1):=by
  intro s hs;obtain⟨x,hx,rfl⟩:=List.mem_map.1 hs;split
  ·rename_i h0
   obtain⟨ds,e1,e2,e3,e4⟩:=key x hx h0;rw[e1];exact⟨e2,e3,fun _=>e4⟩
  ·rename_i h0
   exact⟨hN x hx,hT.ch x hx,fun h=>absurd h h0⟩
 refine⟨hT,⟨hT.ok,hT.most,hT.lo,hT.hi,fun s hs=>(hm s hs).2.1⟩,fun s hs=>(hm s hs).1,?_,fun s hs=>(hm s hs).2.2,c1,c3,he,hi⟩;rw[←hNm];unfold clrL;rw[List.map_map];refine List.map_congr_left fun s hs=>?_;show _=(s.1,s.2.1);by_cases h0:s.1=0
 ·obtain⟨ds,e1,-⟩:=key s hs h0;simp only[Function.comp,e1,h0,if_true]
 ·simp only[Function.comp,if_neg h0]
theorem zkc:∀(l:List Vr) (fm:List Int),∃r,(numF fm l).2=fm++r
 | [],fm=>⟨[],by simp[numF]⟩
 |v::l,fm=>by
  by_cases hc:fm.contains v.sg=true
  ·rw[zjW hc];exact zkc l fm
  ·rw[zjX hc];obtain⟨r,hr⟩:=zkc l (fm++ [v.sg]);exact⟨v.sg::r,by rw[hr,List.append_assoc];rfl⟩
theorem zj8:∀(l:List Vr) (fm:List Int),∀w∈(numF fm l).1,∃v∈l,w={v with sg:=w.sg}∧0≤w.sg∧(numF fm l).2[w.sg.toNat]? =some v.sg
 | [],_=>by intro v hv;cases hv
 |v::l,fm=>by
  intro w hw;by_cases hc:fm.contains v.sg=true
  ·rw[zjW hc]at hw⊢;rcases List.mem_cons.1 hw with rfl|hw
   ·refine⟨v,by simp,rfl,by dsimp only;omega,?_⟩;obtain⟨r,hr⟩:=zkc l fm;have hi:=List.idxOf_lt_length_of_mem (List.contains_iff_mem.1 hc);show(numF fm l).2[((fm.idxOf v.sg:Nat):Int).toNat]? =some v.sg;rw[Int.toNat_natCast,hr,List.getElem?_append_left hi,List.getElem?_eq_getElem hi,List.getElem_idxOf]
   ·obtain⟨x,hx,h1,h2,h3⟩:=zj8 l fm w hw;exact⟨x,List.mem_cons_of_mem _ hx,h1,h2,h3⟩
  ·rw[zjX hc]at hw⊢;rcases List.mem_cons.1 hw with rfl|hw
   ·refine⟨v,by simp,rfl,by dsimp only;omega,?_⟩;obtain⟨r,hr⟩:=zkc l (fm++ [v.sg]);show(numF (fm++ [v.sg]) l).2[(fm.length:Int).toNat]? =some v.sg;rw[Int.toNat_natCast,hr,List.append_assoc,List.getElem?_append_right (Nat.le_refl _),Nat.sub_self];rfl
   ·obtain⟨x,hx,h1,h2,h3⟩:=zj8 l _ w hw;exact⟨x,List.mem_cons_of_mem _ hx,h1,h2,h3⟩
theorem zs0 {S:List Sc} {V:List Vr} {w:Vr} (h:w∈(vrF S V).1):∃v∈V,w={v with sc:=pos (preS S) v.sc,sg:=w.sg}∧0≤w.sg∧(vrF S V).2[w.sg.toNat]? =some v.sg:=by
 obtain⟨x,hx,h1,h2,h3⟩:=zj8 _ _ w h;have hx:x∈zhk (fun v:Vr=>v.sc) (vr1 S V):=hx;rw[zho]at hx;obtain⟨v,hv,rfl⟩:=List.mem_map.1 hx;exact⟨v,hv,h1,h2,h3⟩
theorem zkf:∀(l:List Vr) (fm:List Int) (n:Int),n∈(numF fm l).2→n∈fm∨∃v∈l,v.sg=n
 | [],_,_,h=> .inl h
 |v::l,fm,n,h=>by
  by_cases hc:fm.contains v.sg=true
  ·rw[zjW hc]at h;rcases zkf l fm n h with h|⟨x,hx,e⟩
   ·exact .inl h
   ·exact .inr ⟨x,List.mem_cons_of_mem _ hx,e⟩
  ·rw[zjX hc]at h;rcases zkf l _ n h with h|⟨x,hx,e⟩
   ·rcases List.mem_append.1 h with h|h
    ·exact .inl h
    ·rw[List.mem_singleton]at h;exact .inr ⟨v,by simp,h.symm⟩
   ·exact .inr ⟨x,List.mem_cons_of_mem _ hx,e⟩
structure ValidT (t:Tr):Prop where
 o:zll t.S t.V=(t.S,t.V,rgI t.G.length,0)
 c:zb6 t.S t.V=0
 f:∀v∈t.V,fitE t.G v=0
 s:∀s∈t.G,sv s.1 s.2.1 s.2.2=true
 n:t.G.length≤64
 t:Times t.P t.en t.G
theorem zsy {t:Tr} (h:zsx t):ValidT t:=by
 obtain⟨P,en,hb⟩:=zbw h;obtain⟨hTN,hT,hs,hmap,hx,h16,hct,-,hin⟩:=hb.sigs;obtain⟨b1,b2,b3,b4,b5,b6,b7⟩:=hb;obtain⟨d1,d2,d3,d4⟩:=zdW b2;obtain⟨o1,o2,o3⟩:=zlm d1
 have eS:t.S=scF t.S:=by
  have:=congrArg Tr.S b7;rw[d2]at this;exact this
 have eV:t.V=(vrF t.S t.V).1:=by
  have:=congrArg Tr.V b7;rw[d2]at this;exact this
 have eP:t.P=P:=congrArg Tr.P b7;have ee:t.en=en:=congrArg Tr.en b7
 have hl:t.G.length=(vrF t.S t.V).2.length:=by
  have:=congrArg List.length hmap;rw[List.length_map,List.length_map]at this;rw[this];unfold sig1;rw[List.length_map,d2]
 have eF:(vrF t.S t.V).2=rgI t.G.length:=by
  rw[←eS,←eV]at o3;rw[hl];exact congrArg Prod.snd o3
 have hO:zll t.S t.V=(t.S,t.V,rgI t.G.length,0):=by rw[d2,←eS,←eV,eF]
 have hs1:sig1 t=t.G:=by unfold sig1;rw[hO];exact zno t.G
 refine⟨hO,d1,fun v hv=>?_,hs,by rw[hl];exact d4,by rw[eP,ee];exact hT⟩;rw[hO,hs1]at b3;exact b3 v hv
def insT:List Int→Int→List Int
 | [],n=> [n]
 |x::l,n=>if n<x then n::x::l else if n=x then x::l else x::insT l n
theorem zg2 {n y:Int}:∀{l:List Int},y∈insT l n↔y=n∨y∈l
 | []=>by simp[insT]
 |x::l=>by
  unfold insT;split
  ·simp
  ·split
   ·rename_i h;subst h;simp
   ·rw[List.mem_cons,zg2,List.mem_cons];constructor
    ·rintro(h|h|h)
     ·exact .inr (.inl h)
     ·exact .inl h
     ·exact .inr (.inr h)
    ·rintro(h|h|h)
     ·exact .inr (.inl h)
     ·exact .inl h
     ·exact .inr (.inr h)
theorem zg0 {n:Int}:∀{l:List Int},l.Pairwise (· < ·)→(insT l n).Pairwise (· < ·)
 | [],_=>by simp[insT]
 |x::l,h=>by
  rw[List.pairwise_cons]at h;unfold insT;split
  ·rename_i hn
   rw[List.pairwise_cons,List.pairwise_cons];refine⟨fun y hy=>?_,h⟩;rcases List.mem_cons.1 hy with rfl|hy
   ·exact hn
   ·have:=h.1 y hy;omega
  ·split
   ·rw[List.pairwise_cons];exact h
   ·rw[List.pairwise_cons];refine⟨fun y hy=>?_,zg0 h.2⟩;rcases zg2.1 hy with rfl|hy
    ·omega
    ·exact h.1 y hy
def allT (G:List Sg):List Int:=G.flatMap fun s=>s.2.2.map Prod.fst
def zqD (G:List Sg):List Int:=(allT G).foldl insT []
theorem zfL {y:Int}:∀{l acc:List Int},y∈l.foldl insT acc↔y∈acc∨y∈l
 | [],acc=>by simp
 |x::l,acc=>by
  rw[List.foldl_cons,zfL,zg2,List.mem_cons];constructor
  ·rintro((h|h)|h)
   ·exact .inr (.inl h)
   ·exact .inl h
   ·exact .inr (.inr h)
  ·rintro(h|h|h)
   ·exact .inl (.inr h)
   ·exact .inl (.inl h)
   ·exact .inr h
theorem zfJ:∀{l acc:List Int},acc.Pairwise (· < ·)→(l.foldl insT acc).Pairwise (· < ·)
 | [],_,h=>h
 |_::l,_,h=>zfJ (l:=l) (zg0 h)
theorem zqG {G:List Sg} {y:Int}:y∈zqD G↔ ∃s∈G,∃c∈s.2.2,c.1=y:=by
 unfold zqD allT;rw[zfL];simp
theorem zqE (G:List Sg):(zqD G).Pairwise (· < ·):=zfJ List.Pairwise.nil
theorem zqH (G:List Sg):(zqD G).Nodup:=(zqE G).imp fun h=>Int.ne_of_lt h
theorem zg1 {n:Int}:∀{l:List Int},(insT l n).length≤l.length+1
 | []=>by simp[insT]
 |x::l=>by
  unfold insT;split
  ·simp
  ·split
   ·simp
   ·have:=zg1 (n:=n) (l:=l);simp;omega
theorem zfK:∀{l acc:List Int},(l.foldl insT acc).length≤acc.length+l.length
 | [],acc=>by simp
 |x::l,acc=>by
  rw[List.foldl_cons];have:=zfK (l:=l) (acc:=insT acc x);have:=zg1 (n:=x) (l:=acc);simp only[List.length_cons];omega
theorem zaJ (G:List Sg):(allT G).length=zdp G:=by
 unfold allT zdp;rw[List.length_flatMap];simp
theorem zqF (G:List Sg):(zqD G).length≤zdp G:=by
 have:=zfK (l:=allT G) (acc:=[]);rw[zaJ]at this;unfold zqD;simpa using this
theorem zqI (G:List Sg):(zqD G).mergeSort (fun x y=>decide (x≤y))=zqD G:=
 List.mergeSort_of_pairwise ((zqE G).imp fun h=>by simpa using Int.le_of_lt h)
open Go.RowKit
set_option linter.unusedSimpArgs false
theorem zoF:(Tryz.prog.info? 60).map (fun i=>(i.zero,i.size,i.bytes))=some (some (.agg #[.int .i64 0,.int .i64 0,.slice none 0 0]),3,40):=by kernel_rfl
theorem zoe (l:List Sc) (h:l.length=0):scs l=[]:=by rw[List.length_eq_zero_iff.1 h];rfl
theorem ztR {P:Program} (w:World) {o:Oper} {a:Act} {K:Act→World→Prop} {Q:Exit→Act→World→Prop} (s x:Operand) (t:TypeId)
 (ho:o.op=.call {callee:=.builtin .append,args:=#[s,x],argTypes:=#[t,t]})
 (base:Nat) (e:TypeId) (i:TypeInfo) (z:Value) (size bytes:Nat) (ht:P.underlying t=some (.slice e)) (hi:P.info? e=some i) (hz:i.zero=some z)
 (hsize:i.size=size) (hby:i.bytes=bytes) (hzs:z.cells.size=size) (hsz:0<size)
 (v:Value) (n:Nat) (xs:List Value) (hs:a.eval s=v) (hown:w.ownsRow base e size v n xs)
 (ad:Option Addr) (m c:Nat) (news:List Value) (hx:a.eval x=.slice ad m c) (hsl:SlR w (.slice ad m c) m news) (hl:news.length=m*size) (h1:∀u∈news,u.oneCell'=true)
 (h63:n+m≤maxLen) (hbytes:(n+m)*bytes≤140737488355328) (hbase:base≤w.heap.size)
 (h:∀a' c' w',w'.ownsRow base e size (.slice a' (n+m) c') (n+m) (xs++news)→w.grownBy w' v.ownBlock→K (a.put o.dst (.slice a' (n+m) c')) w'):o.wp P a w K Q:=by
 have h':∀v' w',w'.ownsRow base e size v' (n+m) (xs++news)→w.grownBy w' v.ownBlock→K (a.put o.dst v') w':=fun v' w' h2 h3=>by
  obtain⟨a',c',rfl,-,-⟩:=(SlR.of_own h2).shape;exact h a' c' w' h2 h3
 cases ad with
 |none=>
  obtain⟨a',cap',hv,hc1,hc2,hc3,-⟩:=hsl;injection hv with e1 _ e3;have h0:=hc3 e1.symm;have hm:m=0:=by omega
  have hc:c=0:=by omega
  subst hm hc;have hn:news=[]:=List.length_eq_zero_iff.1 (by omega);subst hn;have hrun:=run_append_owned_none (P:=P) (w:=w) base t o.type e i size ht hi v n xs hown;unfold Oper.wp;simp[execOp,ho,resolve,invoke,builtin,hs,hx,hrun,Result.andThen];exact h' v w (by simpa using hown) (World.grownBy.refl _ _)
 |some ad=>
  exact wp_append_own w s x t ho base e i z size bytes ht hi hz hsize hby hzs hsz v n xs hs hown ad m c news hx hl
   (hsl.news (fun h0=>by subst h0;exact List.length_eq_zero_iff.1 (by omega))) h1 h63 hbytes hbase (fun v' w' h2 h3 _=>h' v' w' h2 h3)
theorem zpN {P:Program} (w:World) {ops:Array Oper} {o:Oper} {a:Act} {K:Act→World→Prop} {Q:Exit→Act→World→Prop} {E:Prop} (hgd:o.guard=none) (s x:Operand) (t:TypeId)
 (ho:o.op=.call {callee:=.builtin .append,args:=#[s,x],argTypes:=#[t,t]})
 (base:Nat) (e:TypeId) (i:TypeInfo) (z:Value) (size bytes:Nat) (ht:P.underlying t=some (.slice e)) (hi:P.info? e=some i) (hz:i.zero=some z)
 (hsize:i.size=size) (hby:i.bytes=bytes) (hzs:z.cells.size=size) (hsz:0<size)
 (v:Value) (n:Nat) (xs:List Value) (hs:a.eval s=v) (hown:w.ownsRow base e size v n xs)
 (ad:Option Addr) (m c:Nat) (news:List Value) (hx:a.eval x=.slice ad m c) (hsl:SlR w (.slice ad m c) m news) (hl:news.length=m*size) (h1:∀u∈news,u.oneCell'=true)
 (h63:n+m≤maxLen) (hbytes:(n+m)*bytes≤140737488355328) (hbase:base≤w.heap.size)
 (h:∀a' c' w',w'.ownsRow base e size (.slice a' (n+m) c') (n+m) (xs++news)→w.grownBy w' v.ownBlock→K (a.put o.dst (.slice a' (n+m) c')) w'):
 if Region.wanted o (yielded ops a.tmps)=true then Oper.wp P o a w K Q else E:=by
 have hw:Region.wanted o (yielded ops a.tmps)=true:=by simp[Region.wanted,hgd]
 rw[if_pos hw];exact ztR w s x t ho base e i z size bytes ht hi hz hsize hby hzs hsz v n xs hs hown ad m c news hx hsl hl h1 h63 hbytes hbase h
theorem zci (l:List Ch) (i j:Nat) (hij:i≤j):chs l=chs (l.take i)++(chs ((l.take j).drop i)++chs (l.drop j)):=by
 rw[←zcf,←zcf];congr 1
 have h3:l.take i=(l.take j).take i:=by rw[List.take_take,Nat.min_eq_left hij]
 rw[h3,←List.append_assoc,List.take_append_drop,List.take_append_drop]
theorem SlR.sub {w:World} {a:Option Addr} {cap:Nat} {l:List Ch} (h:SlR w (.slice a l.length cap) l.length (chs l)) (i j:Nat) (hij:i≤j) (hj:j≤l.length):
 SlR w (.slice (if cap=i then a else a.map (·.add (i*2))) ((l.take j).drop i).length (cap-i)) ((l.take j).drop i).length (chs ((l.take j).drop i)):=by
 obtain⟨a',cap',hv,h1,h2,h3,h4⟩:=h;injection hv with e1 _ e3;subst e1 e3;have hl:((l.take j).drop i).length=j-i:=by simp;omega
 refine⟨_,_,rfl,by omega,by omega,fun h=>?_,fun hn=>?_⟩
 ·by_cases hc:cap=i
  ·omega
  ·rw[if_neg hc]at h;have:=h3 (by simpa using h);omega
 ·obtain⟨b,o,rfl,hc⟩:=h4 (by omega);refine⟨b,o+i*2,by rw[if_neg (by omega)];show some ((⟨b,o,none⟩:Addr).add (i*2))=_;rw[addr_add],fun x u hx=>?_⟩;have hx':=(List.getElem?_eq_some_iff.1 hx).1;have h5:(chs (l.take i)).length=i*2:=by rw[zcj];simp;omega
  have:=hc (i*2+x) u (by
   rw[zci l i j hij,List.getElem?_append_right (by omega),h5,Nat.add_sub_cancel_left,List.getElem?_append_left hx'];exact hx)
  rwa [←Nat.add_assoc]at this
theorem SlR.rest {w:World} {a:Option Addr} {cap:Nat} {l:List Ch} (h:SlR w (.slice a l.length cap) l.length (chs l)) (i:Nat) (hi:i≤l.length):
 SlR w (.slice (if cap=i then a else a.map (·.add (i*2))) (l.length-i) (cap-i)) (l.length-i) (chs (l.drop i)):=by
 have:=h.sub i l.length hi (Nat.le_refl _);rw[List.take_length,List.length_drop]at this;exact this
theorem zb0 (w:World):(Go.sizeOf 57).run Tryz.prog w=.ok 2 w:=by kernel_rfl
theorem zpb (a:Option Addr) (cap:Nat) (l:List Ch) (i:Nat) (hi:i≤l.length):
 ∃ad c,(∀w,(Instr.slice 58 (.slice a l.length cap) (some (.int .i64 (i:Int))) none none).run Tryz.prog w=.ok (.slice ad (l.drop i).length c) w)∧
  ∀W,SlR W (.slice a l.length cap) l.length (chs l)→SlR W (.slice ad (l.drop i).length c) (l.drop i).length (chs (l.drop i)):=by
 refine⟨if cap=i then a else a.map (·.add (i*2)),cap-i,fun w=>?_,fun W h=>?_⟩
 ·have ht:Tryz.prog.underlying 58=some (.slice 57):=Tryz.underlying58;have ht':Tryz.prog.underlying 58=some (.slice (Tryz.prog.elem 58)):=by simp[Program.elem,ht]
  have he:Tryz.prog.elem 58=57:=by simp[Program.elem,ht]
  rw[run_slice_l w 58 a l.length cap ht' .i64 _ (by omega) (by omega),he,zb0];simp only[Result.andThen,sliced,List.length_drop,Int.toNat_natCast]
 ·have:=h.sub i l.length hi (Nat.le_refl _);rw[List.take_length]at this;exact this
theorem zft:Fit []:=⟨by simp,fun c hc=>by cases hc⟩
theorem zfu {l m:List Ch} (h:Fit l) (hm:m.Sublist l):Fit m:=⟨Nat.le_trans hm.length_le h.1,fun c hc=>h.2 c (hm.subset hc)⟩
theorem zsX (k n:Int):(vi k n).size≤1000:=by
 cases h:vt k n
 ·have:vi k n=⟨#[]⟩:=by simp[vi,h]
  rw[this];decide
 ·exact ztm (ztn h)
theorem zaX (k n:Int) (l:List Ch) (t:Int):(atR k n l t).1.size≤1000:=by
 unfold atR;split
 ·show(0:Nat)≤1000;omega
 split
 ·show(0:Nat)≤1000;omega
 ·rename_i h _
  have h2:sv k n l=true:=by simpa using h
  dsimp only;rw[zrS h2];exact ztm (zsu h2 t)
theorem zkA (x:ByteArray) (at_:Int→ByteArray) (en:Int):∀(P:List Gp) (cs:List Ch),(offL x at_ en P cs).length≤cs.length+2*P.length
 | [],cs=>by simp[offL]
 |g::P,cs=>by
  rw[zky];have h:=zkA x at_ en P ((cs.dropWhile fun c=>decide (c.1<g.1)).dropWhile fun c=>decide (c.1≤zfU en g));have h1:=(List.dropWhile_sublist (l:=cs.dropWhile fun c=>decide (c.1<g.1)) (fun c=>decide (c.1≤zfU en g))).length_le
  have h2:(cs.takeWhile fun c=>decide (c.1<g.1)).length+(cs.dropWhile fun c=>decide (c.1<g.1)).length=cs.length:=by
   rw[←List.length_append,List.takeWhile_append_dropWhile]
  have h3:(if zfU en g≤1099511627776 then [(zfU en g,at_ (zfU en g))]else []).length≤1:=by split<;>simp
  simp only[List.length_append,List.length_cons];omega
theorem zkz (k n:Int) (l:List Ch) (en:Int) (hen:en≤1099511627776) (P:List Gp) (hP:P.length≤1000) (hl:Fit l) (hl2:l.length≤100000):Fit (offL (vi k n) (fun t=>(atR k n l t).1) en P l):=by
 refine⟨by have:=zkA (vi k n) (fun t=>(atR k n l t).1) en P l;omega,fun c hc=>?_⟩;rcases zkB _ _ _ hen _ _ _ hc with h|⟨g,-,rfl⟩|⟨g,-,rfl,-⟩
 ·exact hl.2 c h
 ·have:=zsX k n;dsimp only;omega
 ·have:=zaX k n l (zfU en g);dsimp only;omega
theorem zaF (acc:List Gp) (g:Gp):(zaD acc g).length≤acc.length+1:=by
 rcases zpf acc with rfl|⟨A,h,rfl⟩
 ·rw[zaG];simp
 ·rw[zaH];split<;>simp
theorem zf5:∀(l:List Gp) (b:Int) (acc:List Gp) (en:Int) (P:List Gp) (en':Int),zf2 b acc en l=some (P,en')→P.length≤acc.length+l.length
 | [],b,acc,en,P,en',h=>by
   injection h with h;injection h with h1 h2;subst h1;simp
 |g::t,b,acc,en,P,en',h=>by
  rw[zf3]at h;split at h
  ·cases h
  ·have h1:=zf5 t _ _ _ _ _ h;have h2:=zaF acc g;simp;omega
structure FB (t:Tr):Prop where
 tx:t.dt.length≤100000∧t.vn.length≤100000∧t.cm.length≤100000
 l:t.S.length≤1000∧t.V.length≤1000
 n:(∀s∈t.S,s.1.length≤100000)∧∀x∈t.V,x.nm.length≤100000
 g:∀s∈t.G,Fit s.2.2∧s.2.2.length≤100000
 p:t.P.length≤1000
theorem zoT {t:Tr} (h:FB t):∀s∈sig1 t,Fit s.2.2∧s.2.2.length≤100000:=by
 intro s hs;obtain⟨n,-,rfl⟩:=List.mem_map.1 hs;unfold sgI;by_cases hn:n.toNat<t.G.length
 ·unfold List.getD;rw[List.getElem?_eq_getElem hn];exact h.g _ (List.getElem_mem hn)
 ·unfold List.getD;rw[List.getElem?_eq_none (by omega)];exact⟨zft,by simp⟩
theorem zdZ {t:Tr} (hd:zdV t=0):(∀v∈(zll t.S t.V).2.1,0≤v.sg∧v.sg<(sig1 t).length)∧(sig1 t).length≤64∧(zll t.S t.V).2.1.length=t.V.length:=by
 obtain⟨-,hO,-,h64⟩:=zdW hd;have hs:(sig1 t).length=(vrF t.S t.V).2.length:=by unfold sig1;rw[List.length_map,hO]
 rw[hs,hO];refine⟨fun v hv=>?_,h64,?_⟩
 ·obtain⟨x,-,-,h0,hx⟩:=zj8 _ _ v hv;have:=(List.getElem?_eq_some_iff.1 hx).1;have h2:v.sg.toNat<(vrF t.S t.V).2.length:=this;exact⟨h0,by omega⟩
 ·have:=congrArg List.length (zka (fun _:Vr=>(0:Int)) (fun _ _=>rfl) (vr2 t.S t.V) [])
  have h3:(vrF t.S t.V).1.length=(vr2 t.S t.V).length:=by
   unfold vrF;simpa using this
  show(vrF t.S t.V).1.length=_;rw[h3];unfold vr2;rw[zhn];simp[vr1]
theorem zjS {t:Tr} (h:FB t) (hn:zjJ (sig1 t)=0):∀s∈zjO (sig1 t),Fit s.2.2∧s.2.2.length≤4096∧sv s.1 s.2.1 s.2.2=true:=by
 intro s hs;obtain⟨x,hx,rfl⟩:=List.mem_map.1 hs
 have h0:∀(G:List Sg),zjJ G=0→∀y∈G,(zjT y.1 y.2.1 y.2.2).2=0:=by
  intro G;induction G with
  |nil=>intro _ y hy;cases hy
  |cons z G ih=>
   intro hG y hy;unfold zjJ zfq at hG;split at hG
   ·rename_i hz;exact absurd hG hz
   ·rename_i hz
    rcases List.mem_cons.1 hy with rfl|hy
    ·simpa using hz
    ·exact ih hG y hy
 have h1:=h0 _ hn x hx;obtain⟨e,-,-,-,h4⟩:=zks h1;rw[e];exact⟨zfu (zoT h x hx).1 (zjN _ _ _),h4,zkt h1⟩
def stg (t:Tr):Nat→Tr
 |0=>tr0
 |1=>{tr0 with sc:=t.sc,dt:=t.dt,vn:=t.vn,cm:=t.cm}
 |2=>{tr0 with sc:=t.sc,dt:=t.dt,vn:=t.vn,cm:=t.cm,S:=(zll t.S t.V).1,V:=(zll t.S t.V).2.1,G:=sig1 t}
 |3=>{tr0 with sc:=t.sc,dt:=t.dt,vn:=t.vn,cm:=t.cm,S:=(zll t.S t.V).1,V:=(zll t.S t.V).2.1,G:=sig1 t}
 |4=>{tr0 with sc:=t.sc,dt:=t.dt,vn:=t.vn,cm:=t.cm,S:=(zll t.S t.V).1,V:=(zll t.S t.V).2.1,G:=zjO (sig1 t)}
 |5=>match zqB t (zjO (sig1 t))with
  |none=>tr0
  |some (P,en)=>⟨t.sc,t.dt,t.vn,t.cm,(zll t.S t.V).1,(zll t.S t.V).2.1,zjO (sig1 t),P,en⟩
 |_=>(zbv t).1
def cod (t:Tr):Nat→Int
 |0=>zqw t
 |1=>zdV t
 |2=>zfq (fitE (sig1 t)) (zll t.S t.V).2.1
 |3=>zjJ (sig1 t)
 |4=>match zqB t (zjO (sig1 t))with
  |none=>2
  |some _=>0
 |_=>match zqB t (zjO (sig1 t))with
  |none=>0
  |some r=>zcm r.1 r.2 (zjO (sig1 t))
theorem cod4 (t:Tr):cod t 4=match zqB t (zjO (sig1 t))with
 |none=>2
 |some _=>0:=rfl
theorem cod5 (t:Tr):cod t 5=match zqB t (zjO (sig1 t))with
 |none=>0
 |some r=>zcm r.1 r.2 (zjO (sig1 t)):=rfl
theorem zbx {t:Tr} {k:Nat} (hk:k<6) (h0:∀j<k,cod t j=0) (h:cod t k≠0):(zbv t).2=cod t k:=by
 unfold zbv;match k,hk with
 |0,_=>rw[if_pos (show zqw t≠0 from h)];rfl
 |1,_=>
  have a0:zqw t=0:=h0 0 (by omega);rw[if_neg (by simp[a0]),if_pos (show zdV t≠0 from h)];rfl
 |2,_=>
  have a0:zqw t=0:=h0 0 (by omega);have a1:zdV t=0:=h0 1 (by omega);rw[if_neg (by simp[a0]),if_neg (by simp[a1]),if_pos (show zfq (fitE (sig1 t)) (zll t.S t.V).2.1≠0 from h)];rfl
 |3,_=>
  have a0:zqw t=0:=h0 0 (by omega);have a1:zdV t=0:=h0 1 (by omega);have a2:zfq (fitE (sig1 t)) (zll t.S t.V).2.1=0:=h0 2 (by omega);rw[if_neg (by simp[a0]),if_neg (by simp[a1]),if_neg (by simp[a2]),if_pos (show zjJ (sig1 t)≠0 from h)];rfl
 |4,_=>
  have a0:zqw t=0:=h0 0 (by omega);have a1:zdV t=0:=h0 1 (by omega);have a2:zfq (fitE (sig1 t)) (zll t.S t.V).2.1=0:=h0 2 (by omega);have a3:zjJ (sig1 t)=0:=h0 3 (by omega);rw[if_neg (by simp[a0]),if_neg (by simp[a1]),if_neg (by simp[a2]),if_neg (by simp[a3])];rw[cod4]at h⊢;cases e:zqB t (zjO (sig1 t))with
  |none=>rfl
  |some r=>rw[e]at h;exact absurd rfl h
 |5,_=>
  have a0:zqw t=0:=h0 0 (by omega);have a1:zdV t=0:=h0 1 (by omega);have a2:zfq (fitE (sig1 t)) (zll t.S t.V).2.1=0:=h0 2 (by omega);have a3:zjJ (sig1 t)=0:=h0 3 (by omega);rw[if_neg (by simp[a0]),if_neg (by simp[a1]),if_neg (by simp[a2]),if_neg (by simp[a3])];have a4:=h0 4 (by omega);rw[cod4]at a4;rw[cod5]at h⊢;cases e:zqB t (zjO (sig1 t))with
  |none=>rw[e]at a4;exact absurd a4 (by decide)
  |some r=>
   rw[e]at h;obtain⟨P,en⟩:=r;dsimp only at h⊢;rw[if_pos h]
theorem zbz {t:Tr} (h0:∀j<6,cod t j=0):(zbv t).2=0∧∃P en,zqB t (zjO (sig1 t))=some (P,en)∧(zbv t).1=⟨t.sc,t.dt,t.vn,t.cm,(zll t.S t.V).1,(zll t.S t.V).2.1,clrL P en (zjO (sig1 t)),P,en⟩:=by
 have a0:zqw t=0:=h0 0 (by omega);have a1:zdV t=0:=h0 1 (by omega);have a2:zfq (fitE (sig1 t)) (zll t.S t.V).2.1=0:=h0 2 (by omega);have a3:zjJ (sig1 t)=0:=h0 3 (by omega);have a4:=h0 4 (by omega);have a5:=h0 5 (by omega);rw[cod4]at a4;rw[cod5]at a5;unfold zbv;rw[if_neg (by simp[a0]),if_neg (by simp[a1]),if_neg (by simp[a2]),if_neg (by simp[a3])];cases e:zqB t (zjO (sig1 t))with
 |none=>rw[e]at a4;exact absurd a4 (by decide)
 |some r=>
  rw[e]at a5;obtain⟨P,en⟩:=r;dsimp only at a5⊢;rw[if_neg (by simp[a5])];exact⟨rfl,P,en,rfl,rfl⟩
theorem zqL {t:Tr} (h:FB t) (hn:zjJ (sig1 t)=0) {P:List Gp} {en:Int} (e:zqB t (zjO (sig1 t))=some (P,en)):P.length≤1000∧(∀g∈P,g.2≤1099511627777)∧en≤1099511627776:=by
 unfold zqB at e;split at e
 ·cases e
 ·rename_i hen
  cases hg:zf2 0 [] t.en t.P with
  |none=>rw[hg]at e;cases e
  |some r=>
   rw[hg]at e;obtain⟨P2,en2⟩:=r;injection e with e;injection e with e1 e2;subst e1;have h1:=zf5 _ _ _ _ _ _ hg;obtain⟨⟨c,hc⟩,-,-,h4,-⟩:=zf6 _ _ _ _ _ _ hg ⟨trivial,(fun g hg=>by cases hg),(fun g hg=>by cases hg)⟩ (fun x hx=>by cases hx);refine⟨by have:=h.p;simp at h1;show P2.length≤1000;omega,hc.most,?_⟩
   have hl:∀(G:List Sg) (e0:Int),e0≤1099511627776→(∀s∈G,∀c∈s.2.2,c.1≤1099511627776)→zif G e0≤1099511627776:=by
    intro G;induction G with
    |nil=>intro e0 h0 _;exact h0
    |cons s G ih=>
     intro e0 h0 hG;unfold zif;rw[List.foldl_cons];refine ih _ ?_ (fun s hs=>hG s (List.mem_cons_of_mem _ hs));cases hl:s.2.2.getLast? with
     |none=>exact h0
     |some c=>
      have:=hG s (List.mem_cons_self ..) c (List.mem_of_getLast? hl);exact Int.max_le.2 ⟨h0,this⟩
   rw[←e2];refine hl _ _ (by omega) (fun s hs c hc=>?_);have h5:=(zjS h hn s hs).2.2;exact(zp7 h5 c hc).2.1
theorem zhF (pt:Nat) (p:Int×Int→Bool) (v:Value) (L:List (Int×Int)) (w:World) (hs:SlR w v L.length (gps L))
 (hF:∀x∈L,∀W,Below w.heap.size w W→Calls Tryz.prog 87 #[gpV x,.pointer (some ⟨pt,0,none⟩)] W fun e w'=>e=.returned (.bool (p x))∧Below W.heap.size W w'):
 Calls Tryz.prog 149 #[v,.func (.func 87) #[] #[.pointer (some ⟨pt,0,none⟩)]] w (IxP (L.any p) w):=by
 obtain⟨a,cap,rfl,hc,hm⟩:=hs.shape;unfold maxLen at hm;have HS:=lhd hs;have HF:=lhd hF;clear hs hF;go_enter Tryz.func149,Tryz.ntmps149;go_wp2_with fail;go_loopw [8] (fun i wr=>∃j:Nat,j≤L.length∧i=.int .i64 j∧(L.drop j).any p=L.any p∧Below w.heap.size w wr) (fun i _=>L.length-(intOf i).toNat)
 case atStart=>exact⟨0,Nat.zero_le _,rfl,rfl,Below.refl _ _⟩
 case round=>
  obtain⟨j,hj,rfl,hgo,hb⟩:=hrel;have HGO:=lhd hgo;have HB:=lhd hb;clear hgo hb;by_cases hlt:j<L.length
  ·obtain⟨b,o,rfl,hcell⟩:=(HS.out.below HB.out).gps hlt;have HC:=lhd (fun W hW=>HF.out L[j] (List.getElem_mem hlt) W hW);have HGO2:=lhd ((zaQ (p:=p) hlt).symm.trans HGO.out);have HPX:=lhd (Eq.refl (p L[j]));generalize L[j]=x at hcell HC HGO2 HPX;obtain⟨px,hpx⟩:∃px,px=p x:=⟨_,rfl⟩;rw[←hpx]at HC HGO2;clear HPX hpx;obtain⟨ga,gb⟩:=x;have d0:wr.cell? ⟨b,o+j*2,none⟩=some (.int .i64 ga):=hcell 0 _ rfl;have d1:wr.cell? ⟨b,o+j*2+1,none⟩=some (.int .i64 gb):=hcell 1 _ rfl;clear hcell;go_wp2_with fail;refine(HC.out _ HB.out).mono ?_;rintro e w1 ⟨rfl,hb1⟩;have HB1:=lhd (zfj HB.out hb1);clear hb1;cases px
   ·have HGO3:=lhd (show(L.drop (j+1)).any p=L.any p by rw[←HGO2.out,Bool.false_or]);go_wp2_with fail;go_roundw;case rel=>exact⟨j+1,by omega,by go_num,HGO3.out,HB1.out⟩
    case measure=>simp[intOf];omega
   ·have HR:=lhd (show true=L.any p by rw[←HGO2.out];rfl);go_wp2_with fail;go_ret;exact⟨⟨j,rfl,by rw[←HR.out];simp,by omega⟩,HB1.out⟩
  ·obtain rfl:j=L.length:=by omega
   have HR:=lhd (show false=L.any p by rw[←HGO.out,List.drop_length];rfl);go_wp2_with fail;go_ret;exact⟨⟨-1,rfl,by rw[←HR.out];rfl,by omega⟩,HB.out⟩
theorem zde (pt:Nat) (p:Int×Int→Bool) (v:Value) (L:List (Int×Int)) (w:World) (hs:SlR w v L.length (gps L))
 (hF:∀x∈L,∀W,Below w.heap.size w W→Calls Tryz.prog 87 #[gpV x,.pointer (some ⟨pt,0,none⟩)] W fun e w'=>e=.returned (.bool (p x))∧Below W.heap.size W w'):
 Calls Tryz.prog 86 #[v,.func (.func 87) #[] #[.pointer (some ⟨pt,0,none⟩)]] w fun e w'=>e=.returned (.bool (L.any p))∧Below w.heap.size w w':=by
 have HI:=lhd (zhF pt p v L w hs hF);generalize L.any p=r at HI⊢;obtain⟨a,cap,rfl,hc,hm⟩:=hs.shape;clear hs hF;go_enter Tryz.func86,Tryz.ntmps86;go_wp2_with fail;refine HI.out.mono ?_;rintro e w1 ⟨⟨i,rfl,hi,hi1⟩,hb⟩;have HH:=lhd hi;clear hi;go_wp2_with fail;go_ret;exact⟨znc HH.out,hb⟩
theorem zhD (pt:Nat) (p:Int×Int→Bool) (v:Value) (L:List (Int×Int)) (w:World) (hs:SlR w v L.length (gps L))
 (hF:∀x∈L,∀W,Below w.heap.size w W→Calls Tryz.prog 89 #[gpV x,.pointer (some ⟨pt,0,none⟩)] W fun e w'=>e=.returned (.bool (p x))∧Below W.heap.size W w'):
 Calls Tryz.prog 149 #[v,.func (.func 89) #[] #[.pointer (some ⟨pt,0,none⟩)]] w (IxP (L.any p) w):=by
 obtain⟨a,cap,rfl,hc,hm⟩:=hs.shape;unfold maxLen at hm;have HS:=lhd hs;have HF:=lhd hF;clear hs hF;go_enter Tryz.func149,Tryz.ntmps149;go_wp2_with fail;go_loopw [8] (fun i wr=>∃j:Nat,j≤L.length∧i=.int .i64 j∧(L.drop j).any p=L.any p∧Below w.heap.size w wr) (fun i _=>L.length-(intOf i).toNat)
 case atStart=>exact⟨0,Nat.zero_le _,rfl,rfl,Below.refl _ _⟩
 case round=>
  obtain⟨j,hj,rfl,hgo,hb⟩:=hrel;have HGO:=lhd hgo;have HB:=lhd hb;clear hgo hb;by_cases hlt:j<L.length
  ·obtain⟨b,o,rfl,hcell⟩:=(HS.out.below HB.out).gps hlt;have HC:=lhd (fun W hW=>HF.out L[j] (List.getElem_mem hlt) W hW);have HGO2:=lhd ((zaQ (p:=p) hlt).symm.trans HGO.out);have HPX:=lhd (Eq.refl (p L[j]));generalize L[j]=x at hcell HC HGO2 HPX;obtain⟨px,hpx⟩:∃px,px=p x:=⟨_,rfl⟩;rw[←hpx]at HC HGO2;clear HPX hpx;obtain⟨ga,gb⟩:=x;have d0:wr.cell? ⟨b,o+j*2,none⟩=some (.int .i64 ga):=hcell 0 _ rfl;have d1:wr.cell? ⟨b,o+j*2+1,none⟩=some (.int .i64 gb):=hcell 1 _ rfl;clear hcell;go_wp2_with fail;refine(HC.out _ HB.out).mono ?_;rintro e w1 ⟨rfl,hb1⟩;have HB1:=lhd (zfj HB.out hb1);clear hb1;cases px
   ·have HGO3:=lhd (show(L.drop (j+1)).any p=L.any p by rw[←HGO2.out,Bool.false_or]);go_wp2_with fail;go_roundw;case rel=>exact⟨j+1,by omega,by go_num,HGO3.out,HB1.out⟩
    case measure=>simp[intOf];omega
   ·have HR:=lhd (show true=L.any p by rw[←HGO2.out];rfl);go_wp2_with fail;go_ret;exact⟨⟨j,rfl,by rw[←HR.out];simp,by omega⟩,HB1.out⟩
  ·obtain rfl:j=L.length:=by omega
   have HR:=lhd (show false=L.any p by rw[←HGO.out,List.drop_length];rfl);go_wp2_with fail;go_ret;exact⟨⟨-1,rfl,by rw[←HR.out];rfl,by omega⟩,HB.out⟩
theorem zdc (pt:Nat) (p:Int×Int→Bool) (v:Value) (L:List (Int×Int)) (w:World) (hs:SlR w v L.length (gps L))
 (hF:∀x∈L,∀W,Below w.heap.size w W→Calls Tryz.prog 89 #[gpV x,.pointer (some ⟨pt,0,none⟩)] W fun e w'=>e=.returned (.bool (p x))∧Below W.heap.size W w'):
 Calls Tryz.prog 86 #[v,.func (.func 89) #[] #[.pointer (some ⟨pt,0,none⟩)]] w fun e w'=>e=.returned (.bool (L.any p))∧Below w.heap.size w w':=by
 have HI:=lhd (zhD pt p v L w hs hF);generalize L.any p=r at HI⊢;obtain⟨a,cap,rfl,hc,hm⟩:=hs.shape;clear hs hF;go_enter Tryz.func86,Tryz.ntmps86;go_wp2_with fail;refine HI.out.mono ?_;rintro e w1 ⟨⟨i,rfl,hi,hi1⟩,hb⟩;have HH:=lhd hi;clear hi;go_wp2_with fail;go_ret;exact⟨znc HH.out,hb⟩
theorem ze6 (pt:Nat) (n:Int) (x:Int×Int) (w:World) (hc:w.cell? ⟨pt,0,none⟩=some (.int .i64 n)):
 Calls Tryz.prog 87 #[gpV x,.pointer (some ⟨pt,0,none⟩)] w fun e w'=>e=.returned (.bool (decide (x.2=n)))∧Below w.heap.size w w':=by
 have hlt:=zbU hc;have hne:pt≠w.heap.size:=Nat.ne_of_lt hlt;obtain⟨a,b⟩:=x;have HB:=lhd (show Below w.heap.size w (w.alloc (.cells #[.int .i64 a,.int .i64 b] 94))from(Below.refl _ _).alloc (Nat.le_refl _) _);go_enter Tryz.func87,Tryz.ntmps87;go_wp2_with fail;go_ret;exact⟨rfl,HB.out⟩
theorem ze5 (pt:Nat) (n:Int) (x:Int×Int) (w:World) (hc:w.cell? ⟨pt,0,none⟩=some (.int .i64 n)):
 Calls Tryz.prog 89 #[gpV x,.pointer (some ⟨pt,0,none⟩)] w fun e w'=>e=.returned (.bool (decide (x.1=n)))∧Below w.heap.size w w':=by
 have hlt:=zbU hc;have hne:pt≠w.heap.size:=Nat.ne_of_lt hlt;obtain⟨a,b⟩:=x;have HB:=lhd (show Below w.heap.size w (w.alloc (.cells #[.int .i64 a,.int .i64 b] 94))from(Below.refl _ _).alloc (Nat.le_refl _) _);go_enter Tryz.func89,Tryz.ntmps89;go_wp2_with fail;go_ret;exact⟨rfl,HB.out⟩
theorem ze4 (k n:Int) (v:Value) (l:List Ch) (t:Int) (w:World) (hg:Glob w) (hs:SlR w v l.length (chs l)) (hf:Fit l):
 Calls Tryz.prog 85 #[.agg #[.int .i64 k,.int .i64 n,v],.int .i64 t] w fun e w'=>e=.returned (.string (atR k n l t).1)∧Below w.heap.size w w':=by
 have hb:Below w.heap.size w (w.alloc (.cells #[.int .i64 k,.int .i64 n,v] 60)):=(Below.refl _ _).alloc (Nat.le_refl _) _;have HA:=lhd (zoU k n v l t _ (hg.below hb) (hs.below hb) hf);have HB:=lhd hb;clear hb hg hs hf;go_enter Tryz.func85,Tryz.ntmps85;go_wp2_with fail;refine HA.out.mono ?_;rintro e w1 ⟨rfl,hb1⟩;have HB1:=lhd (zfj HB.out hb1);clear hb1;go_wp2_with fail;go_ret;exact⟨rfl,HB1.out⟩
open Go.RowKit Go.Sort
theorem zhg:(Tryz.prog.info? 3).map (fun i=>(i.zero,i.size,i.bytes))=some (some (.int .i64 0),1,8):=by kernel_rfl
theorem zph (base g cap:Nat) (zs:List Int) (w:World) (h:w.ownsRow base 3 1 (.slice (some ⟨g,0,none⟩) zs.length cap) zs.length (ints zs)) (hl:zs.length≤1000000):
 Calls Tryz.prog 78 #[.slice (some ⟨g,0,none⟩) zs.length cap] w fun e w'=>e=.returned (.tuple #[])∧w'.ownsRow base 3 1 (.slice (some ⟨g,0,none⟩) zs.length cap) zs.length (ints (zs.mergeSort fun x y=>decide (x≤y)))∧w.grownBy w' (some g):=by
 rcases h.2 with⟨h0,-⟩|⟨g',cap',cur,hv,hbase,hb,hn,hm,hsz,htk⟩
 ·cases h0
 injection hv with e1 _ e3;injection e1 with e1;injection e1 with e1 _ _;subst e1 e3;have hH:=holds_of_blockI (ss:=zs) hb (by rw[Nat.mul_one]at htk;exact htk);refine(Tryz.slices_Sort_int g 0 cap zs w hH (Array.getElem?_eq_some_iff.1 hb).1 (by omega)).mono ?_;rintro e w' ⟨rfl,n,os,rfl⟩;have hlen:(zs.mergeSort fun x y=>decide (x≤y)).length=zs.length:=List.length_mergeSort _;refine⟨rfl,?_,grownBy_sortedI _⟩;exact ownsRow_sortedI hlen hbase hb hn hm hsz
theorem zc5 (base g cap:Nat) (zs:List Int) (w:World) (h:w.ownsRow base 3 1 (.slice (some ⟨g,0,none⟩) zs.length cap) zs.length (ints zs)) (hl:zs.length≤1000000):
 Calls Tryz.prog 80 #[.slice (some ⟨g,0,none⟩) zs.length cap] w fun e w'=>(e=.returned (.slice (some ⟨g,0,none⟩) (Lib.compact zs).length cap)∧w'.ownsRow base 3 1 (.slice (some ⟨g,0,none⟩) (Lib.compact zs).length cap) (Lib.compact zs).length (ints (Lib.compact zs)))∧w.grownBy w' (some g):=by
 rcases h.2 with⟨h0,-⟩|⟨g',cap',cur,hv,hbase,hb,hn,hm,hsz,htk⟩
 ·cases h0
 injection hv with e1 _ e3;injection e1 with e1;injection e1 with e1 _ _;subst e1 e3;have hH:=holds_of_blockI (ss:=zs) hb (by rw[Nat.mul_one]at htk;exact htk);refine(Tryz.slices_Compact_int g 0 cap zs w hH (by omega) hn).mono ?_;rintro e w' ⟨rfl,n,rfl⟩;have hcl:=Lib.compact_length_le zs;have hlen:(Lib.compact zs++List.replicate (zs.length-(Lib.compact zs).length) (0:Int)).length=zs.length:=by simp;omega
 have hg:∀W:World,grow W #[]=W:=fun W=>grow_empty W;have hown:=ownsRow_sortedI (n:=n) (os:=#[]) (ts:=Lib.compact zs++List.replicate (zs.length-(Lib.compact zs).length) (0:Int)) hlen hbase hb hn hm hsz;rw[hg]at hown;refine⟨⟨rfl,?_⟩,by have:=grownBy_sortedI (w:=w) (g:=g) (n:=n) (os:=#[]) (Lib.compact zs++List.replicate (zs.length-(Lib.compact zs).length) (0:Int)).toArray;rwa [hg]at this⟩;rcases hown.2 with⟨h0,-⟩|⟨g',cap',cur',hv,hbase',hb',hn',hm',hsz',htk'⟩
 ·cases h0
 injection hv with e1 _ e3;injection e1 with e1;injection e1 with e1 _ _;subst e1 e3;refine⟨by simp[ints],.inr ⟨g,cap,cur',rfl,hbase,hb',by omega,hm',hsz',?_⟩⟩;have:=congrArg (List.take (Lib.compact zs).length) htk';rw[List.take_take,Nat.mul_one,Nat.min_eq_left hcl]at this;rw[Nat.mul_one,this,List.map_append,List.take_left' (by simp)];rfl
open Go.RowKit Go.Shelf
attribute [local go_sem] Oper.semAt_some
def Kv (W V:World):Prop:=W.heap.size≤V.heap.size∧∀(b:Nat) (C:Array Value) (fr:Nat×Nat),W.heap[b]? =some (.cells C 3 fr)→V.heap[b]? =some (.cells C 3 fr)
theorem Kv.trans {A B C:World} (h:Kv A B) (k:Kv B C):Kv A C:=⟨Nat.le_trans h.1 k.1,fun b D fr h1=>k.2 b D fr (h.2 b D fr h1)⟩
theorem Kv.own {W V:World} {B n:Nat} {v:Value} {xs:List Value} (h:W.ownsRow B 3 1 v n xs) (k:Kv W V):V.ownsRow B 3 1 v n xs:=by
 obtain⟨h1,h2⟩:=h;refine⟨h1,?_⟩;rcases h2 with h2|⟨g,cap,cur,e0,hb,hg,hr⟩
 ·exact .inl h2
 ·exact .inr ⟨g,cap,cur,e0,hb,k.2 _ _ _ hg,hr⟩
theorem SlR.intsV {w:World} {a:Option Addr} {cap:Nat} {l:List Int} (h:SlR w (.slice a l.length cap) l.length (ints l)) {j:Nat} (hj:j<l.length):∃b o,a=some ⟨b,o,none⟩∧w.cell? ⟨b,o+j,none⟩=some (.int .i64 l[j]):=by
 obtain⟨b,o,cap',hv,-,-,hcl⟩:=h.at (by omega);injection hv with e1 _ _;exact⟨b,o,e1,hcl j _ (by unfold ints;rw[List.getElem?_map,List.getElem?_eq_getElem hj];rfl)⟩
def intE (L:List Int) (k:Nat):Array Value:=#[.int .i64 (L.getD k 0)]
theorem zsI (n:Nat) (hn:2≤n) (lp vb B:Nat) (L:List Int) (v:Value) (W:World) (J:Nat→World→Prop)
 (hl:L.length≤1000000) (ho:W.ownsRow B 3 1 v L.length (ints L)) (hv:W.heap[vb]? =some (.cells #[v] 77 (0,0)))
 (hY:∀k W1,J k W1→k<L.length→YieldAt Fence.wide (n-1) Tryz.prog lp (intE L k) W1 fun e W'=>e=.returned (.bool true)∧J (k+1) W'∧Kv W1 W') (h0:J 0 W):
 CallsIn Fence.wide n Tryz.prog 146 #[.func (.yield lp) #[] #[],.pointer (some ⟨vb,0,none⟩)] W fun e W'=>(∃v,e=.returned v)∧J L.length W':=by
 have hro:Fence.wide.round=none:=rfl;obtain⟨a,cap,rfl,-,-⟩:=(SlR.of_own ho).shape;obtain⟨cv,-⟩:=zkV hv;have HO:=lhd ho;have HY:=lhd hY;clear ho hY hv;refine callsIn_of_wp Tryz.func146 rfl trivial ?_ hro;simp only[Tryz.ntmps146,List.size_toArray,List.length_cons,List.length_nil,Nat.reduceAdd,Nat.reduceSub,Array.replicate_succ,Array.replicate_zero,List.push_toArray,List.append_toArray,List.nil_append,List.cons_append];have h1n:1≤n:=by omega
 gi_wp2
 gi_loopw [7] (fun i wr=>∃k:Nat,k≤L.length∧i=.int .i64 k∧wr.ownsRow B 3 1 (.slice a L.length cap) L.length (ints L)∧J k wr) (fun i _=>L.length-(intOf i).toNat)
 case atStart=>exact⟨0,Nat.zero_le _,rfl,HO.out,h0⟩
 case round=>
  obtain⟨k,hk,rfl,ho,hj⟩:=hrel;have HO2:=lhd ho;by_cases hlt:k<L.length
  ·obtain⟨b,o,rfl,hcell⟩:=(SlR.of_own ho).intsV hlt
   have HEN:=lhd (show intE L k=#[.int .i64 L[k]]by
    unfold intE;rw[List.getD,List.getElem?_eq_getElem hlt];rfl)
   obtain⟨fn,tmps,assign,body,hy,hR⟩:=HY.out k wr hj hlt;have HR:=lhd hR;rw[HEN.out]at hy;generalize L[k]=x at*;clear hR hj ho;gi_wp2
   refine HR.out.mono ?_;rintro e W3 ⟨rfl,hj3,hk3⟩;have HJ3:=lhd hj3;have HO3:=lhd (Kv.own HO2.out hk3);clear hj3 hk3 hy;gi_wp2
   go_roundw;case rel=>exact⟨k+1,hlt,by go_num,HO3.out,HJ3.out⟩
   case measure=>simp[intOf];omega
  ·obtain rfl:k=L.length:=by omega
   have HJ:=lhd hj;clear ho hj;gi_wp2
   go_end0
   exact⟨⟨_,rfl⟩,HJ.out⟩
end Go.Proofs.YtfppgpamkdkckaaGreatDoor
