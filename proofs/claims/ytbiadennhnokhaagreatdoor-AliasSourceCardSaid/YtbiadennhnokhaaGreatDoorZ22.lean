import Derived.Test.YtbiadennhnokhaaGreatDoorZ00
import Derived.Test.YtbiadennhnokhaaGreatDoorZ21
set_option maxRecDepth 100000
set_option maxHeartbeats 16000000
namespace Go.Proofs.YtbiadennhnokhaaGreatDoor
abbrev Sg:=Int×Int×List Ch
def val (v:ByteArray):List Ch→Int→ByteArray
 | [],_=>v
 |c::l,t=>val (if c.1≤t then c.2 else v) l t
theorem zp0 (v:ByteArray) (c:Ch) (l:List Ch) (t:Int):val v (c::l) t=val (if c.1≤t then c.2 else v) l t:=rfl
theorem zpY (t:Int):∀(l m:List Ch) (v:ByteArray),val v (l++m) t=val (val v l t) m t
 | [],_,_=>rfl
 |_::l,m,_=>zpY t l m _
def zan (a:Int):List Ch→Prop
 | []=>True
 |c::l=>a≤c.1∧zan c.1 l
theorem zan.mono {a b:Int} (h:b≤a):∀{l:List Ch},zan a l→zan b l
 | [],_=>trivial
 |_::_,⟨h1,h2⟩=>⟨by omega,h2⟩
theorem zan.mem {a:Int}:∀{l:List Ch},zan a l→∀c∈l,a≤c.1
 | [],_,c,h=>by cases h
 |d::l,⟨h1,h2⟩,c,h=>by
  rcases List.mem_cons.1 h with rfl|h
  ·exact h1
  ·exact Int.le_trans h1 (zan.mem h2 c h)
theorem zan.sub {m:List Ch}:∀{l:List Ch} {a:Int},List.Sublist m l→zan a l→zan a m:=by
 intro l a hs;induction hs generalizing a with
 |slnil=>intro _;trivial
 |cons x _ ih=>intro h;exact(ih h.2).mono h.1
 |cons_cons x _ ih=>intro h;exact⟨h.1,ih h.2⟩
theorem zan.append {a b:Int}:∀{l m:List Ch},zan a l→(∀c∈l,c.1≤b)→a≤b→zan b m→zan a (l++m)
 | [],_,_,_,hab,hm=>hm.mono hab
 |c::_,_,⟨h1,h2⟩,hl,_,hm=>⟨h1,zan.append h2 (fun d hd=>hl d (List.mem_cons_of_mem _ hd)) (hl c List.mem_cons_self) hm⟩
theorem zp6 {v:ByteArray} {t:Int}:∀{l:List Ch} {a:Int},zan a l→t<a→val v l t=v
 | [],_,_,_=>rfl
 |c::l,a,⟨h1,h2⟩,h=>by
  rw[zp0,if_neg (by omega)];exact zp6 h2 (by omega)
theorem zpX {t t':Int}:∀{l:List Ch} (v:ByteArray),(∀c∈l,c.1≤t)→t≤t'→val v l t'=val v l t
 | [],_,_,_=>rfl
 |c::l,v,h,ht=>by
  have h1:=h c List.mem_cons_self;rw[zp0,zp0,if_pos h1,if_pos (by omega)];exact zpX _ (fun d hd=>h d (List.mem_cons_of_mem _ hd)) ht
theorem zp8 {t:Int} (P:ByteArray→Prop):∀{l:List Ch} {v:ByteArray},P v→(∀c∈l,P c.2)→P (val v l t)
 | [],_,hv,_=>hv
 |c::l,v,hv,h=>by
  rw[zp0];refine zp8 P ?_ (fun d hd=>h d (List.mem_cons_of_mem _ hd));split
  ·exact h c List.mem_cons_self
  ·exact hv
theorem ziX (k:Int):∀(l:List Ch) (v:ByteArray),(ziS k v l).Sublist l
 | [],_=>List.Sublist.refl _
 |c::l,v=>by
  unfold ziS;split
  ·exact(ziX k l v).cons _
  ·exact(ziX k l c.2).cons_cons _
theorem ziW {k a:Int} {v:ByteArray} {l:List Ch} (h:zan a l):zan a (ziS k v l):=h.sub (ziX k l v)
theorem zp9 (k:Int) (t:Int):∀(l:List Ch) (v:ByteArray) (a:Int),zan a l→val v (ziS k v l) t=val v l t
 | [],_,_,_=>rfl
 |c::l,v,a,⟨h1,h2⟩=>by
  unfold ziS;split
  ·rename_i hc
   rw[zp9 k t l v c.1 h2,zp0];rcases hc with⟨d,hd,he⟩|⟨-,he⟩
   ·cases l with
    |nil=>simp at hd
    |cons d' l=>
     simp at hd;subst hd;rw[zp0,zp0,he];split<;>rfl
   ·rw[he];simp
  ·rw[zp0,zp0];by_cases ht:c.1≤t
   ·rw[if_pos ht];exact zp9 k t l c.2 c.1 h2
   ·rw[if_neg ht,zp6 h2 (by omega),zp6 (ziW h2) (by omega)]
theorem zoy (k n a:Int) (v:ByteArray) (c:Ch) (l:List Ch):svGo k n a v (c::l)=true↔a<c.1∧c.1≤1099511627776∧vv k n c.2=true∧(k≠3→c.2≠v)∧svGo k n c.1 c.2 l=true:=by
 rw[svGo];split
 ·rename_i h;exact⟨fun h=>by(cases h),fun h'=>by omega⟩
 ·rename_i h1
  split
  ·rename_i h2;exact⟨fun h=>by(cases h),fun h'=>by rw[h'.2.2.1]at h2;cases h2⟩
  ·rename_i h2
   split
   ·rename_i h3;exact⟨fun h=>by(cases h),fun h'=>absurd h3.2 (h'.2.2.2.1 h3.1)⟩
   ·rename_i h3
    exact⟨fun h=>⟨by omega,by omega,by simpa using h2,fun hk he=>h3 ⟨hk,he⟩,h⟩,fun h=>h.2.2.2.2⟩
theorem zoA {k n:Int}:∀{l:List Ch} {a:Int} {v:ByteArray},svGo k n a v l=true→zan (a+1) l
 | [],_,_,_=>trivial
 |c::l,a,v,h=>by
  obtain⟨h1,-,-,-,h5⟩:=(zoy ..).1 h;exact⟨by omega,(zoA h5).mono (by omega)⟩
theorem zoz {k n:Int}:∀{l:List Ch} {a:Int} {v:ByteArray},svGo k n a v l=true→∀c∈l,a<c.1∧c.1≤1099511627776∧vv k n c.2=true
 | [],_,_,_,c,h=>by cases h
 |d::l,a,v,h,c,hc=>by
  obtain⟨h1,h2,h3,-,h5⟩:=(zoy ..).1 h;rcases List.mem_cons.1 hc with rfl|hc
  ·exact⟨h1,h2,h3⟩
  ·have:=zoz h5 c hc;exact⟨by omega,this.2⟩
theorem zoB (k n:Int):∀(l:List Ch) (v:ByteArray) (a:Int),zan (a+1) l→(∀c∈l,c.1≤1099511627776∧vv k n c.2=true)→svGo k n a v (ziS k v l)=true
 | [],_,_,_,_=>rfl
 |c::l,v,a,⟨h1,h2⟩,h=>by
  unfold ziS;split
  ·exact zoB k n l v a (h2.mono h1) (fun d hd=>h d (List.mem_cons_of_mem _ hd))
  ·rename_i hc
   obtain⟨h3,h4⟩:=h c List.mem_cons_self;refine(zoy ..).2 ⟨by omega,h3,h4,fun hk he=>hc (.inr ⟨hk,he⟩),zoB k n l c.2 c.1 ?_ (fun d hd=>h d (List.mem_cons_of_mem _ hd))⟩;cases l with
   |nil=>trivial
   |cons d l=>
    have hne:d.1≠c.1:=fun he=>hc (.inl ⟨d,by simp,he⟩);exact⟨by have:=h2.1;omega,h2.2⟩
theorem ziT {k n:Int}:∀{l:List Ch} {v:ByteArray} {a:Int},svGo k n a v l=true→ziS k v l=l
 | [],_,_,_=>rfl
 |c::l,v,a,h=>by
  obtain⟨h1,h2,h3,h4,h5⟩:=(zoy ..).1 h;unfold ziS;rw[if_neg,ziT h5];rintro(⟨d,hd,he⟩|⟨hk,he⟩)
  ·cases l with
   |nil=>simp at hd
   |cons d' l=>
    simp at hd;subst hd;have:=((zoy ..).1 h5).1;omega
  ·exact h4 hk he
theorem zjn {k n:Int}:∀{l:List Ch} {a:Int},nzGo k n a l=0↔zan a l∧∀c∈l,c.1≤1099511627776∧vv k n c.2=true
 | [],_=>⟨fun _=>⟨trivial,fun c h=>by cases h⟩,fun _=>rfl⟩
 |c::l,a=>by
  rw[nzGo];split
  ·rename_i h1
   refine⟨fun h=>absurd h (by decide),fun⟨h2,h3⟩=>?_⟩;have:=h2.1;have:=(h3 c List.mem_cons_self).1;omega
  ·rename_i h1
   split
   ·rename_i h2
    refine⟨fun h=>absurd h (by decide),fun⟨_,h3⟩=>?_⟩;have:=(h3 c List.mem_cons_self).2;rw[this]at h2;cases h2
   ·rename_i h2
    rw[zjn];refine⟨fun⟨h3,h4⟩=>⟨⟨by omega,h3⟩,fun d hd=>?_⟩,fun⟨h3,h4⟩=>⟨h3.2,fun d hd=>h4 d (List.mem_cons_of_mem _ hd)⟩⟩;rcases List.mem_cons.1 hd with rfl|hd
    ·exact⟨by omega,by simpa using h2⟩
    ·exact h4 d hd
theorem zoD {k n:Int} (hk:k≠3):∀(l m:List Ch) (a:Int) (v:ByteArray),svGo k n a v l=true→svGo k n a v m=true→(∀t,a<t→t≤1099511627776→val v l t=val v m t)→l=m
 | [],[],_,_,_,_,_=>rfl
 | [],d::m,a,v,_,h,hv=>by
   obtain⟨h1,h2,h3,h4,h5⟩:=(zoy ..).1 h;have:=hv d.1 h1 h2;rw[zp0,if_pos (Int.le_refl _),zp6 (zoA h5) (by omega)]at this;exact absurd this.symm (h4 hk)
 |c::l,[],a,v,h,_,hv=>by
  obtain⟨h1,h2,h3,h4,h5⟩:=(zoy ..).1 h;have:=hv c.1 h1 h2;rw[zp0,if_pos (Int.le_refl _),zp6 (zoA h5) (by omega)]at this;exact absurd this (h4 hk)
 |c::l,d::m,a,v,h,h',hv=>by
  obtain⟨h1,h2,h3,h4,h5⟩:=(zoy ..).1 h;obtain⟨g1,g2,g3,g4,g5⟩:=(zoy ..).1 h';have e1:=hv c.1 h1 h2;have e2:=hv d.1 g1 g2;rw[zp0,zp0,if_pos (Int.le_refl _),zp6 (zoA h5) (by omega)]at e1;rw[zp0,zp0,if_pos (Int.le_refl _),zp6 (v:=d.2) (zoA g5) (by omega)]at e2;rcases Int.lt_trichotomy c.1 d.1 with hlt|heq|hgt
  ·rw[if_neg (by omega),zp6 (zoA g5) (by omega)]at e1;exact absurd e1 (h4 hk)
  ·rw[if_pos (by omega),zp6 (zoA g5) (by omega)]at e1;have hcd:c=d:=Prod.ext heq e1;subst hcd;congr 1
   refine zoD hk l m c.1 c.2 h5 g5 (fun t ht ht2=>?_);have:=hv t (by omega) ht2;rwa [zp0,zp0,if_pos (by omega)]at this
  ·rw[if_neg (by omega),zp6 (zoA h5) (by omega)]at e2;exact absurd e2.symm (g4 hk)
theorem zoI {k n:Int} {l:List Ch}:sv k n l=true↔vt k n=true∧l.length≤4096∧svGo k n (-1) (vi k n) l=true:=by
 unfold sv;rw[Bool.and_eq_true,Bool.and_eq_true,decide_eq_true_iff,and_assoc]
theorem zoO {k n:Int} (hk:k≠3) {l m:List Ch} (h:sv k n l=true) (h':sv k n m=true) (hv:∀t,0≤t→t≤1099511627776→val (vi k n) l t=val (vi k n) m t):l=m:=
 zoD hk l m (-1) (vi k n) (zoI.1 h).2.2 (zoI.1 h').2.2 (fun t h1 h2=>hv t (by omega) h2)
theorem zoK {k n:Int} {l:List Ch} (h:sv k n l=true):zan 0 l:=zoA (zoI.1 h).2.2
theorem zoJ {k n:Int} {l:List Ch} (h:sv k n l=true):∀c∈l,0≤c.1∧c.1≤1099511627776∧vv k n c.2=true:=fun c hc=>by
 have:=zoz (zoI.1 h).2.2 c hc;exact⟨by omega,this.2⟩
theorem zoL {k n:Int} {l:List Ch} (h:sv k n l=true):zi2 k n l=l:=ziT (zoI.1 h).2.2
def Nrm (k n:Int) (l:List Ch):Prop:=vt k n=true∧l.length≤4096∧zan 0 l∧∀c∈l,c.1≤1099511627776∧vv k n c.2=true
theorem Nrm.made {k n:Int} {l:List Ch} (h:Nrm k n l):zhZ k n l=((k,n,zi2 k n l),0):=by
 unfold zhZ;have:=ziV k l (vi k n);have:=h.2.1;rw[if_neg (by unfold zi2;omega)]
theorem Nrm.sv {k n:Int} {l:List Ch} (h:Nrm k n l):sv k n (zi2 k n l)=true:=
 zoI.2 ⟨h.1,by have:=ziV k l (vi k n);have:=h.2.1;unfold zi2;omega,zoB k n l _ _ h.2.2.1 h.2.2.2⟩
theorem Nrm.val {k n:Int} {l:List Ch} (h:Nrm k n l) (t:Int):val (vi k n) (zi2 k n l) t=val (vi k n) l t:=zp9 k t l _ 0 h.2.2.1
theorem zoF {k n:Int} {l:List Ch} (h:Go.Proofs.YtbiadennhnokhaaGreatDoor.sv k n l=true):Nrm k n l:=⟨(zoI.1 h).1,(zoI.1 h).2.1,zoK h,fun c hc=>(zoJ h c hc).2⟩
theorem zhL {c:Ch} {l:List Ch} {t:Int} (h:c.1<t):lo (c::l) t=lo l t+1:=by
 unfold lo;rw[List.takeWhile_cons_of_pos (by simpa using h)];rfl
theorem zhK {c:Ch} {l:List Ch} {t:Int} (h:t≤c.1):lo (c::l) t=0:=by
 unfold lo;rw[List.takeWhile_cons_of_neg (by simp;omega)];rfl
theorem zpS (t:Int):∀(l:List Ch) (v:ByteArray) (a:Int),zan a l→(match lo l (t+1)with|0=>v|j+1=>(l.getD j (0,⟨#[]⟩)).2)=val v l t
 | [],v,a,_=>rfl
 |c::l,v,a,⟨h1,h2⟩=>by
  by_cases hc:c.1≤t
  ·rw[zhL (by omega),zp0,if_pos hc,←zpS t l c.2 c.1 h2];cases lo l (t+1)with
   |zero=>rfl
   |succ j=>rfl
  ·rw[zhK (by omega),zp0,if_neg hc,zp6 h2 (by omega)]
theorem vv3 {n:Int} {s:ByteArray} (h:vv 3 n s=true):s=⟨#[]⟩:=by
 unfold vv at h
 have:nilB s=true:=by
  revert h
  simp
 unfold nilB at this;have h0:s.size=0:=by simpa using this
 obtain⟨a⟩:=s;have:a=#[]:=Array.eq_empty_of_size_eq_zero h0;rw[this]
theorem vi3 {n:Int}:vi 3 n=⟨#[]⟩:=by unfold vi;simp
theorem zpR {k n:Int} {l:List Ch} (h:sv k n l=true) (t:Int):zpQ k n l t=val (vi k n) l t:=by
 unfold zpQ;split
 ·rename_i hk
  subst hk;have:=zp8 (t:=t) (fun s=>s=⟨#[]⟩) (l:=l) (v:=vi 3 n) vi3 (fun c hc=>vv3 (zoJ h c hc).2.2);rw[this,vi3]
 ·exact zpS t l _ 0 (zoK h)
theorem zbk {k n:Int} {l:List Ch} (h:sv k n l=true) {t:Int} (h0:0≤t) (h1:t≤1099511627776):atR k n l t=(val (vi k n) l t,0):=by
 unfold atR;rw[if_neg (by rw[h];simp),if_neg (by omega),zpR h]
theorem zhM {t:Int} {l:List Ch} {a:Int} (h:zan a l) (ht:t≤a):lo l t=0:=by
 cases l with
 |nil=>rfl
 |cons c l=>exact zhK (by have:=h.1;omega)
theorem zhQ (t:Int):∀(l:List Ch) (a:Int),zan a l→(∀c∈l.take (lo l t),c.1<t)∧zan t (l.drop (lo l t))
 | [],_,_=>⟨fun c h=>by simp[lo]at h,trivial⟩
 |c::l,a,⟨h1,h2⟩=>by
  by_cases hc:c.1<t
  ·rw[zhL hc,List.take_succ_cons,List.drop_succ_cons];obtain⟨h3,h4⟩:=zhQ t l c.1 h2;refine⟨fun d hd=>?_,h4⟩;rcases List.mem_cons.1 hd with rfl|hd
   ·exact hc
   ·exact h3 d hd
  ·rw[zhK (by omega)];exact⟨fun d hd=>by simp at hd,⟨by omega,h2⟩⟩
theorem zqq {a t f:Int} {l:List Ch} {v:ByteArray} (h:zan a l) (ht:t<f):val v (l.take (lo l f)) t=val v l t:=by
 have h1:=(zhQ f l a h).2;conv=>rhs;rw[←List.take_append_drop (lo l f) l,zpY]
 rw[zp6 h1 ht]
theorem zq2 {k n:Int} {s:ByteArray} (h:vv k n s=true):vt k n=true:=by
 unfold vv at h;exact(Bool.and_eq_true _ _▸h).1
theorem zq1 {k n:Int} (h:vt k n=true):vv k n (vi k n)=true:=by
 have hv:=h;unfold vt at hv;unfold vv vi;rw[if_pos h,h,Bool.true_and];by_cases h0:k=0
 ·subst h0;have h1:1≤n∧n≤128:=by simpa using hv
  obtain⟨j,rfl⟩:=Int.eq_ofNat_of_zero_le (show 0≤n by omega);have hc:zc0 120=2:=by decide
  have hr:allR (j:Int) 120=⟨(List.replicate j 120).toArray⟩:=by unfold allR;rw[if_neg (by rw[hc];omega),Int.toNat_natCast]
  rw[if_pos rfl,if_pos rfl,hr];have hs:(⟨(List.replicate j (120:UInt8)).toArray⟩:ByteArray).size=j:=by simp[ByteArray.size]
  have hb:bvIs ⟨(List.replicate j (120:UInt8)).toArray⟩=true:=by
   unfold bvIs;rw[hs];simp only[Bool.and_eq_true,decide_eq_true_iff,List.all_eq_true];refine⟨⟨by omega,by omega⟩,fun c hcm=>?_⟩
   have:c=120:=by
    have:c∈List.replicate j (120:UInt8):=by simpa using hcm
    exact(List.mem_replicate.1 this).2
   rw[this,hc];decide
  rw[hb,hs];simp
 ·rw[if_neg h0,if_neg h0];by_cases h1:k=1
  ·subst h1;rw[if_pos rfl,if_pos rfl];decide+kernel
  ·rw[if_neg h1,if_neg h1];split
   ·decide
   ·decide
theorem zqr {k n:Int} {l:List Ch} (h:sv k n l=true) (t:Int):vv k n (val (vi k n) l t)=true:=
 zp8 (fun s=>vv k n s=true) (zq1 (zoI.1 h).1) (fun c hc=>(zoJ h c hc).2.2)
theorem zqZ {k n:Int} {s:ByteArray} (h:vv k n s=true):s.size≤1000:=by
 unfold vv at h;have h:=(Bool.and_eq_true _ _▸h).2;split at h
 ·unfold bvIs at h;simp only[Bool.and_eq_true,decide_eq_true_iff]at h;omega
 ·split at h
  ·unfold zdo zl8 at h;by_cases hs:64<s.size
   ·rw[if_pos hs]at h;cases h
   ·omega
  ·split at h
   ·have:=of_decide_eq_true h;omega
   ·unfold nilB at h;have:=of_decide_eq_true h;omega
theorem zoH {k n:Int} {l:List Ch} (h:sv k n l=true):Fit l:=⟨by have:=(zoI.1 h).2.1;omega,fun c hc=>by have:=zqZ (zoJ h c hc).2.2;omega⟩
open Go.RowKit
structure ShSt (w W:World) (k n:Int) (a:Option Addr) (len cap:Nat) (yv:Value):Prop where
 s:zas W w.heap.size [.int .i64 k,.int .i64 n,.slice a len cap]
 y:zas W (w.heap.size+1) [yv]
 r:zas W (w.heap.size+1+1) [.int .i64 0,.int .i64 0,.slice none 0 0]
 b:Below w.heap.size w W
 z:w.heap.size+1+1<W.heap.size
theorem ShSt.start (w:World) (k n:Int) (a:Option Addr) (len cap:Nat) (yv:Value) (S T:TypeId):ShSt w (((w.alloc (.cells #[.int .i64 k,.int .i64 n,.slice a len cap] S)).alloc (.cells #[yv] T)).alloc (.cells #[.int .i64 0,.int .i64 0,.slice none 0 0] S)) k n a len cap yv:=by
 refine⟨?_,?_,?_,(((Below.refl _ _).alloc (Nat.le_refl _) _).alloc (by simp) _).alloc (by simp;omega) _,by simp⟩
 ·exact((zas.fresh w #[.int .i64 k,.int .i64 n,.slice a len cap] _).alloc (by simp) _).alloc (by simp;omega) _
 ·have h:=zas.fresh (w.alloc (.cells #[.int .i64 k,.int .i64 n,.slice a len cap] S)) #[yv] T;simp only[World.size_alloc]at h;exact h.alloc (by simp) _
 ·have h:=zas.fresh ((w.alloc (.cells #[.int .i64 k,.int .i64 n,.slice a len cap] S)).alloc (.cells #[yv] T)) #[.int .i64 0,.int .i64 0,.slice none 0 0] S;simp only[World.size_alloc]at h;exact h
theorem ShSt.later {w W W':World} {k n:Int} {a:Option Addr} {len cap:Nat} {yv:Value} (h:ShSt w W k n a len cap yv) {B:Nat} (hb:Below B W W') (hB:w.heap.size+1+1<B):ShSt w W' k n a len cap yv:=
 ⟨h.s.below hb (by omega),h.y.below hb (by omega),h.r.below hb hB,h.b.trans (hb.mono (by omega)),by have:=hb.size;have:=h.z;omega⟩
theorem ShSt.facts {w W:World} {k n:Int} {a:Option Addr} {len cap:Nat} {yv:Value} (h:ShSt w W k n a len cap yv):
 (W.cell? ⟨w.heap.size,0,none⟩=some (.int .i64 k)∧W.cell? ⟨w.heap.size,1,none⟩=some (.int .i64 n)∧W.cell? ⟨w.heap.size,2,none⟩=some (.slice a len cap))∧W.cell? ⟨w.heap.size+1,0,none⟩=some yv∧
 (W.cell? ⟨w.heap.size+1+1,0,none⟩=some (.int .i64 0)∧W.cell? ⟨w.heap.size+1+1,1,none⟩=some (.int .i64 0)∧W.cell? ⟨w.heap.size+1+1,2,none⟩=some (.slice none 0 0))∧
 (W.frozen? ⟨w.heap.size+1+1,0,none⟩=false∧W.frozen? ⟨w.heap.size+1+1,1,none⟩=false∧W.frozen? ⟨w.heap.size+1+1,2,none⟩=false):=
 ⟨⟨h.s.cell (j:=0) rfl,h.s.cell (j:=1) rfl,h.s.cell (j:=2) rfl⟩,h.y.cell (j:=0) rfl,⟨h.r.cell (j:=0) rfl,h.r.cell (j:=1) rfl,h.r.cell (j:=2) rfl⟩,⟨h.r.free (j:=0) (by simp),h.r.free (j:=1) (by simp),h.r.free (j:=2) (by simp)⟩⟩
theorem ShSt.drewN {w W:World} {k n:Int} {a:Option Addr} {len cap:Nat} {yv:Value} (h:ShSt w W k n a len cap yv) (m:Nat):ShSt w (W.drewN m) k n a len cap yv:=⟨h.s,h.y,h.r,zbz h.b m,h.z⟩
theorem ShSt.fin {w W:World} {k n:Int} {a:Option Addr} {len cap:Nat} {yv:Value} (h:ShSt w W k n a len cap yv) (x y z:Value):
 (((((W.setCell ⟨w.heap.size+1+1,0,none⟩ x).setCell ⟨w.heap.size+1+1,1,none⟩ y).setCell ⟨w.heap.size+1+1,2,none⟩ z).cell? ⟨w.heap.size+1+1,0,none⟩=some x∧(((W.setCell ⟨w.heap.size+1+1,0,none⟩ x).setCell ⟨w.heap.size+1+1,1,none⟩ y).setCell ⟨w.heap.size+1+1,2,none⟩ z).cell? ⟨w.heap.size+1+1,1,none⟩=some y∧(((W.setCell ⟨w.heap.size+1+1,0,none⟩ x).setCell ⟨w.heap.size+1+1,1,none⟩ y).setCell ⟨w.heap.size+1+1,2,none⟩ z).cell? ⟨w.heap.size+1+1,2,none⟩=some z))∧
  Below w.heap.size w (((W.setCell ⟨w.heap.size+1+1,0,none⟩ x).setCell ⟨w.heap.size+1+1,1,none⟩ y).setCell ⟨w.heap.size+1+1,2,none⟩ z):=
 ⟨set3 (h.r.cell (j:=0) rfl) (h.r.cell (j:=1) rfl) (h.r.cell (j:=2) rfl) x y z,zbI h.b (by omega) _ _ _⟩
theorem zm1 (fo:Fn) (fx fy:Array Value) (g:Ch→Ch×Bool) (k n width:Int) (v:Value) (l:List Ch) (w:World) (hs:SlR w v l.length (chs l)) (hl:l.length≤1000000)
 (hF:∀c∈l,∀W p,W.cell? ⟨p,0,none⟩=some (.func fo fx fy)→Below w.heap.size w W→Calls Tryz.prog 249 #[.agg #[.int .i64 c.1,.string c.2],.pointer (some ⟨p,0,none⟩)] W fun e w'=>e=.returned (.tuple #[.agg #[.int .i64 (g c).1.1,.string (g c).1.2],.bool (g c).2])∧Below W.heap.size W w'):
 Calls Tryz.prog 185 #[.agg #[.int .i64 k,.int .i64 n,v],.int .i64 width,.func fo fx fy] w (zax (zhZ k width (zd7 g l)) w):=by
 obtain⟨a,cap,rfl,hc,hm⟩:=hs.shape;have hst:=ShSt.start w k n a l.length cap (.func fo fx fy) 45 184;have HE:=lhd (zm5 (w.heap.size+1) g k n width _ l _ (hs.below hst.b) hl (fun c hc W hW=>hF c hc W (w.heap.size+1) ((hW.cell (p:=⟨w.heap.size+1,0,none⟩) (by have:=hst.z;show w.heap.size+1<_;omega)).trans hst.facts.2.1) (hst.b.trans (hW.mono (by have:=hst.z;omega)))));obtain⟨⟨c0,c1,c2⟩,y0,⟨r0,r1,r2⟩,q0,q1,q2⟩:=hst.facts;have HST:=lhd hst;clear hs hF hst;go_enter Tryz.func185,Tryz.ntmps185;go_wp2_with fail;refine HE.out.mono ?_;rintro e w9 ⟨v9,rfl,ho9,hb9⟩;obtain⟨a9,c9,rfl,-,-⟩:=(SlR.of_own ho9).shape;have H9:=lhd (HST.out.later hb9 HST.out.z);obtain⟨⟨z0,z1,z2⟩,zy,⟨t0,t1,t2⟩,u0,u1,u2⟩:=H9.out.facts;have HO9:=lhd ho9;clear ho9 hb9;go_wp2_with fail;obtain⟨⟨e0,e1,e2⟩,hb9⟩:=H9.out.fin (.int .i64 (zhZ k width (zd7 g l)).1.1) (.int .i64 (zhZ k width (zd7 g l)).1.2.1) (.slice a9 (zhZ k width (zd7 g l)).1.2.2.length c9);refine bodyPost_ret (v:=.tuple #[.agg #[.int .i64 (zhZ k width (zd7 g l)).1.1,.int .i64 (zhZ k width (zd7 g l)).1.2.1,.slice a9 (zhZ k width (zd7 g l)).1.2.2.length c9],.int .i64 (zhZ k width (zd7 g l)).2]) (by simp[results,Tryz.results185,go_sem,e0,e1,e2]) rfl ?_;exact⟨_,rfl,zko (zkq HO9.out HST.out.z _ _ _) (by have:=HST.out.z;omega),hb9⟩
theorem zqC (k n:Int):(vi k n).size≤128:=by
 unfold vi;split
 ·split
  ·unfold allR;split
   ·simp[ByteArray.size]
   ·simp[ByteArray.size];omega
  ·split
   ·simp[ByteArray.size]
   ·simp[ByteArray.size]
 ·simp[ByteArray.size]
def invR (k n:Int) (l:List Ch):SigR:=if sv k n l=false then((0,0,[]),1)else if k≠0 then((0,0,[]),7)else zhZ k n (zd7 (btG zb9) l)
theorem zmS (k n:Int) (v:Value) (l:List Ch) (w:World) (hg:Glob w) (hs:SlR w v l.length (chs l)) (hf:Fit l):
 Calls Tryz.prog 156 #[.agg #[.int .i64 k,.int .i64 n,v]] w (zax (invR k n l) w):=by
 obtain⟨a,cap,rfl,hc,hm⟩:=hs.shape;have hbw:Below w.heap.size w ((w.alloc (.cells #[.int .i64 k,.int .i64 n,.slice a l.length cap] 45)).alloc (.cells #[.int .i64 0,.int .i64 0,.slice none 0 0] 45)):=((Below.refl _ _).alloc (Nat.le_refl _) _).alloc (by simp) _;have HV:=lhd (zmY k n _ l _ (hg.below hbw) (hs.below hbw) hf);have HS:=lhd hs;have hln:=hf.1;have HF:=lhd hf.2;unfold maxLen at hm;clear hg hs hf hbw;go_enter Tryz.func156,Tryz.ntmps156;go_wp2_with fail;refine HV.out.mono ?_;rintro e w1 ⟨rfl,hb⟩;have hb0:Below (w.alloc (.cells #[.int .i64 k,.int .i64 n,.slice a l.length cap] 45)).heap.size (w.alloc (.cells #[.int .i64 k,.int .i64 n,.slice a l.length cap] 45)) w1:=zeF hb;obtain⟨c0,c1,c2⟩:=box3 hb0;obtain⟨⟨p0,p1,p2⟩,q0,q1,q2⟩:=zbX hb;have HB:=lhd (zeF hb0);have hsz:w.heap.size+1<w1.heap.size:=by have:=hb.size;simp at this;omega
 clear hb hb0;cases hv:sv k n l
 ·have HR:=lhd (show invR k n l=((0,0,[]),1)by unfold invR;rw[if_pos hv]);clear hv;go_wp2_with fail;refine bodyPost_ret (v:=.tuple #[.agg #[.int .i64 0,.int .i64 0,.slice none 0 0],.int .i64 1]) (by simp[results,Tryz.results156,go_sem,p0,p1,p2]) rfl ?_;rw[HR.out];exact zax.zero 1 (zbI HB.out (by omega) _ _ _)
 by_cases hk:k≠0
 ·have HR:=lhd (show invR k n l=((0,0,[]),7)by unfold invR;rw[if_neg (by rw[hv];simp),if_pos hk]);have hkb:(k !=0)=true:=by rw[bne_iff_ne];exact hk
  clear hv hk;go_wp2_with fail;refine bodyPost_ret (v:=.tuple #[.agg #[.int .i64 0,.int .i64 0,.slice none 0 0],.int .i64 7]) (by simp[results,Tryz.results156,go_sem,p0,p1,p2]) rfl ?_;rw[HR.out];exact zax.zero 7 (zbI HB.out (by omega) _ _ _)
 ·have HR:=lhd (show invR k n l=zhZ k n (zd7 (btG zb9) l)by unfold invR;rw[if_neg (by rw[hv];simp),if_neg hk]);have hkb:(k !=0)=false:=by rw[bne_eq_false_iff_eq];omega
  have HE:=lhd (zm1 (.func 153) #[] #[] (btG zb9) k n n _ l w1 (HS.out.below HB.out) hln (fun c hc W p hp hW=>zm2 p c W hp (by have:=HF.out c hc;unfold maxLen;omega)));clear hv hk;go_wp2_with fail;refine HE.out.mono ?_;rintro e w9 ⟨v9,rfl,ho9,hb9⟩;obtain⟨a9,c9,rfl,-,-⟩:=(SlR.of_own ho9).shape;obtain⟨x0,x1,x2,y0,y1,y2⟩:=zbY hb9 (zcn p0) p0 p1 p2 q0 q1 q2;have HO9:=lhd ho9;have HB9:=lhd (zeG HB.out hb9);clear ho9 hb9 p0 p1 p2 q0 q1 q2 c0 c1 c2;go_wp2_with fail;obtain⟨g0,g1,g2⟩:=set3 x0 x1 x2 (.int .i64 (zhZ k n (zd7 (btG zb9) l)).1.1) (.int .i64 (zhZ k n (zd7 (btG zb9) l)).1.2.1) (.slice a9 (zhZ k n (zd7 (btG zb9) l)).1.2.2.length c9);refine bodyPost_ret (v:=.tuple #[.agg #[.int .i64 (zhZ k n (zd7 (btG zb9) l)).1.1,.int .i64 (zhZ k n (zd7 (btG zb9) l)).1.2.1,.slice a9 (zhZ k n (zd7 (btG zb9) l)).1.2.2.length c9],.int .i64 (zhZ k n (zd7 (btG zb9) l)).2]) (by simp[results,Tryz.results156,go_sem,g0,g1,g2]) rfl ?_;rw[HR.out];exact⟨_,rfl,zko (zkq HO9.out (by omega) _ _ _) (by omega),zbI HB9.out (by omega) _ _ _⟩
structure SlSt (w W:World) (k n:Int) (a:Option Addr) (len cap:Nat) (x y:Value):Prop where
 s:zas W w.heap.size [.int .i64 k,.int .i64 n,.slice a len cap]
 x:zas W (w.heap.size+1) [x]
 y:zas W (w.heap.size+1+1) [y]
 r:zas W (w.heap.size+1+1+1) [.int .i64 0,.int .i64 0,.slice none 0 0]
 b:Below w.heap.size w W
 z:w.heap.size+1+1+1<W.heap.size
theorem SlSt.start (w:World) (k n:Int) (a:Option Addr) (len cap:Nat) (x y:Value) (S T U:TypeId):SlSt w ((((w.alloc (.cells #[.int .i64 k,.int .i64 n,.slice a len cap] S)).alloc (.cells #[x] T)).alloc (.cells #[y] U)).alloc (.cells #[.int .i64 0,.int .i64 0,.slice none 0 0] S)) k n a len cap x y:=by
 refine⟨?_,?_,?_,?_,((((Below.refl _ _).alloc (Nat.le_refl _) _).alloc (by simp) _).alloc (by simp;omega) _).alloc (by simp;omega) _,by simp⟩
 ·exact(((zas.fresh w #[.int .i64 k,.int .i64 n,.slice a len cap] _).alloc (by simp) _).alloc (by simp;omega) _).alloc (by simp;omega) _
 ·have h:=zas.fresh (w.alloc (.cells #[.int .i64 k,.int .i64 n,.slice a len cap] S)) #[x] T;simp only[World.size_alloc]at h;exact(h.alloc (by simp) _).alloc (by simp) _
 ·have h:=zas.fresh ((w.alloc (.cells #[.int .i64 k,.int .i64 n,.slice a len cap] S)).alloc (.cells #[x] T)) #[y] U;simp only[World.size_alloc]at h;exact h.alloc (by simp) _
 ·have h:=zas.fresh (((w.alloc (.cells #[.int .i64 k,.int .i64 n,.slice a len cap] S)).alloc (.cells #[x] T)).alloc (.cells #[y] U)) #[.int .i64 0,.int .i64 0,.slice none 0 0] S;simp only[World.size_alloc]at h;exact h
theorem SlSt.later {w W W':World} {k n:Int} {a:Option Addr} {len cap:Nat} {x y:Value} (h:SlSt w W k n a len cap x y) {B:Nat} (hb:Below B W W') (hB:w.heap.size+1+1+1<B):SlSt w W' k n a len cap x y:=
 ⟨h.s.below hb (by omega),h.x.below hb (by omega),h.y.below hb (by omega),h.r.below hb hB,h.b.trans (hb.mono (by omega)),by have:=hb.size;have:=h.z;omega⟩
theorem SlSt.facts {w W:World} {k n:Int} {a:Option Addr} {len cap:Nat} {x y:Value} (h:SlSt w W k n a len cap x y):
 (W.cell? ⟨w.heap.size,0,none⟩=some (.int .i64 k)∧W.cell? ⟨w.heap.size,1,none⟩=some (.int .i64 n)∧W.cell? ⟨w.heap.size,2,none⟩=some (.slice a len cap))∧(W.cell? ⟨w.heap.size+1,0,none⟩=some x∧W.cell? ⟨w.heap.size+1+1,0,none⟩=some y)∧
 (W.cell? ⟨w.heap.size+1+1+1,0,none⟩=some (.int .i64 0)∧W.cell? ⟨w.heap.size+1+1+1,1,none⟩=some (.int .i64 0)∧W.cell? ⟨w.heap.size+1+1+1,2,none⟩=some (.slice none 0 0))∧
 (W.frozen? ⟨w.heap.size+1+1+1,0,none⟩=false∧W.frozen? ⟨w.heap.size+1+1+1,1,none⟩=false∧W.frozen? ⟨w.heap.size+1+1+1,2,none⟩=false):=
 ⟨⟨h.s.cell (j:=0) rfl,h.s.cell (j:=1) rfl,h.s.cell (j:=2) rfl⟩,⟨h.x.cell (j:=0) rfl,h.y.cell (j:=0) rfl⟩,⟨h.r.cell (j:=0) rfl,h.r.cell (j:=1) rfl,h.r.cell (j:=2) rfl⟩,⟨h.r.free (j:=0) (by simp),h.r.free (j:=1) (by simp),h.r.free (j:=2) (by simp)⟩⟩
theorem SlSt.fin {w W:World} {k n:Int} {a:Option Addr} {len cap:Nat} {xv yv:Value} (h:SlSt w W k n a len cap xv yv) (x y z:Value):
 (((((W.setCell ⟨w.heap.size+1+1+1,0,none⟩ x).setCell ⟨w.heap.size+1+1+1,1,none⟩ y).setCell ⟨w.heap.size+1+1+1,2,none⟩ z).cell? ⟨w.heap.size+1+1+1,0,none⟩=some x∧(((W.setCell ⟨w.heap.size+1+1+1,0,none⟩ x).setCell ⟨w.heap.size+1+1+1,1,none⟩ y).setCell ⟨w.heap.size+1+1+1,2,none⟩ z).cell? ⟨w.heap.size+1+1+1,1,none⟩=some y∧(((W.setCell ⟨w.heap.size+1+1+1,0,none⟩ x).setCell ⟨w.heap.size+1+1+1,1,none⟩ y).setCell ⟨w.heap.size+1+1+1,2,none⟩ z).cell? ⟨w.heap.size+1+1+1,2,none⟩=some z))∧
  Below w.heap.size w (((W.setCell ⟨w.heap.size+1+1+1,0,none⟩ x).setCell ⟨w.heap.size+1+1+1,1,none⟩ y).setCell ⟨w.heap.size+1+1+1,2,none⟩ z):=
 ⟨set3 (h.r.cell (j:=0) rfl) (h.r.cell (j:=1) rfl) (h.r.cell (j:=2) rfl) x y z,zbI h.b (by omega) _ _ _⟩
def znh (k n:Int) (l:List Ch) (from_ width:Int):SigR:=
 if sv k n l=false then((0,0,[]),1)else if k≠0 then((0,0,[]),7)else if(slR (vi k n) from_ width).2≠0 then((0,0,[]),2)else zhZ k width (zd7 (btG (slB from_ width)) l)
theorem zmW (k n:Int) (v:Value) (l:List Ch) (from_ width:Int) (w:World) (hg:Glob w) (hs:SlR w v l.length (chs l)) (hf:Fit l):
 Calls Tryz.prog 155 #[.agg #[.int .i64 k,.int .i64 n,v],.int .i64 from_,.int .i64 width] w (zax (znh k n l from_ width) w):=by
 obtain⟨a,cap,rfl,hc,hm⟩:=hs.shape;have hst:=SlSt.start w k n a l.length cap (.int .i64 from_) (.int .i64 width) 45 3 3;have HV:=lhd (zmY k n _ l _ (hg.below hst.b) (hs.below hst.b) hf);have HST:=lhd hst;have HS:=lhd hs;have hln:=hf.1;have HF:=lhd hf.2;unfold maxLen at hm;clear hg hs hf hst;go_enter Tryz.func155,Tryz.ntmps155;go_wp2_with fail;refine HV.out.mono ?_;rintro e w1 ⟨rfl,hb⟩;have h1:=HST.out.later hb HST.out.z;obtain⟨⟨c0,c1,c2⟩,⟨x0,y0⟩,⟨r0,r1,r2⟩,q0,q1,q2⟩:=h1.facts;have H1:=lhd h1;have hz1:=h1.z;clear hb h1 HST;cases hv:sv k n l
 ·have HR:=lhd (show znh k n l from_ width=((0,0,[]),1)by unfold znh;rw[if_pos hv]);clear hv;go_wp2_with fail;obtain⟨⟨e0,e1,e2⟩,hb⟩:=H1.out.fin (.int .i64 0) (.int .i64 0) (.slice none 0 0);refine bodyPost_ret (v:=.tuple #[.agg #[.int .i64 0,.int .i64 0,.slice none 0 0],.int .i64 1]) (by simp[results,Tryz.results155,go_sem,e0,e1,e2]) rfl ?_;rw[HR.out];exact zax.zero 1 hb
 by_cases hk:k≠0
 ·have HR:=lhd (show znh k n l from_ width=((0,0,[]),7)by unfold znh;rw[if_neg (by rw[hv];simp),if_pos hk]);have hkb:(k !=0)=true:=by rw[bne_iff_ne];exact hk
  clear hv hk;go_wp2_with fail;obtain⟨⟨e0,e1,e2⟩,hb⟩:=H1.out.fin (.int .i64 0) (.int .i64 0) (.slice none 0 0);refine bodyPost_ret (v:=.tuple #[.agg #[.int .i64 0,.int .i64 0,.slice none 0 0],.int .i64 7]) (by simp[results,Tryz.results155,go_sem,e0,e1,e2]) rfl ?_;rw[HR.out];exact zax.zero 7 hb
 have HR0:=lhd (show znh k n l from_ width=if(slR (vi k n) from_ width).2≠0 then((0,0,[]),2)else zhZ k width (zd7 (btG (slB from_ width)) l)by unfold znh;rw[if_neg (by rw[hv];simp),if_neg hk]);have hkb:(k !=0)=false:=by rw[bne_eq_false_iff_eq];omega
 have hvs:=zqC k n;clear hv hk;have HI:=lhd (zpT k n w1.drew);generalize vi k n=s0 at HR0 hvs HI;go_upto_region 5 with fail
 go_region_held3 (fun w'=>w'.cell? ⟨w.heap.size,0,none⟩=some (.int .i64 k)∧w'.cell? ⟨w.heap.size,1,none⟩=some (.int .i64 n)∧w'.cell? ⟨w.heap.size+1,0,none⟩=some (.int .i64 from_)∧w'.cell? ⟨w.heap.size+1+1,0,none⟩=some (.int .i64 width))
  (first|exact⟨v0,v1,vx,vy⟩|exact⟨u0,u1,ux,uy⟩|go_keep)
  (first
    |(go_at_call 109;(with_reducible refine HI.out.mono ?_);rintro e w2 ⟨rfl,hb2⟩;have h2:=H1.out.later (zbL hb2) H1.out.z;obtain⟨⟨u0,u1,u2⟩,⟨ux,uy⟩,-⟩:=h2.facts;have H2:=lhd h2;clear hb2 h2)
    |(go_at_call 152;(with_reducible refine(zbP s0 from_ width _ ?_).mono ?_);(unfold maxLen;omega);rintro e w3 ⟨rfl,hb3⟩;have h3:=H2.out.later hb3 H2.out.z;obtain⟨⟨v0,v1,v2⟩,⟨vx,vy⟩,⟨t0,t1,t2⟩,s0',s1',s2'⟩:=h3.facts;have H3:=lhd h3;clear hb3 h3))
 by_cases he:(slR s0 from_ width).2≠0
 ·have HR:=lhd (HR0.out.trans (if_pos he));have heb:((slR s0 from_ width).2 !=0)=true:=by rw[bne_iff_ne];exact he
  clear he;go_wp2_with fail;obtain⟨⟨e0,e1,e2⟩,hb⟩:=H3.out.fin (.int .i64 0) (.int .i64 0) (.slice none 0 0);refine bodyPost_ret (v:=.tuple #[.agg #[.int .i64 0,.int .i64 0,.slice none 0 0],.int .i64 2]) (by simp[results,Tryz.results155,go_sem,e0,e1,e2]) rfl ?_;rw[HR.out];exact zax.zero 2 hb
 ·have HR:=lhd (HR0.out.trans (if_neg he));have heb:((slR s0 from_ width).2 !=0)=false:=by rw[bne_eq_false_iff_eq];omega
  clear he
  have HE:=lhd (zm1 (.func 186) #[] #[.pointer (some ⟨w.heap.size+1,0,none⟩),.pointer (some ⟨w.heap.size+1+1,0,none⟩)] (btG (slB from_ width)) k n width _ l w3 (HS.out.below H3.out.b) hln (fun c hc W p hp hW=>zm3 (w.heap.size+1) (w.heap.size+1+1) from_ width p c W hp
   ((hW.cell (p:=⟨w.heap.size+1,0,none⟩) (zcn vx)).trans vx) ((hW.cell (p:=⟨w.heap.size+1+1,0,none⟩) (zcn vy)).trans vy) (by have:=HF.out c hc;unfold maxLen;omega)))
  go_wp2_with fail;refine HE.out.mono ?_;rintro e w9 ⟨v9,rfl,ho9,hb9⟩;obtain⟨a9,c9,rfl,-,-⟩:=(SlR.of_own ho9).shape;have H9:=lhd (H3.out.later hb9 H3.out.z);clear t0 t1 t2 s0' s1' s2';obtain⟨-,-,⟨t0,t1,t2⟩,s0',s1',s2'⟩:=H9.out.facts;have HO9:=lhd ho9;have hz3:=H3.out.z;clear ho9 hb9;go_wp2_with fail;generalize hmd:zhZ k width (zd7 (btG (slB from_ width)) l)=R at*;obtain⟨⟨e0,e1,e2⟩,hb9⟩:=H9.out.fin (.int .i64 R.1.1) (.int .i64 R.1.2.1) (.slice a9 R.1.2.2.length c9);refine bodyPost_ret (v:=.tuple #[.agg #[.int .i64 R.1.1,.int .i64 R.1.2.1,.slice a9 R.1.2.2.length c9],.int .i64 R.2]) (by simp[results,Tryz.results155,go_sem,e0,e1,e2]) rfl ?_;rw[HR.out];exact⟨_,rfl,zko (zkq HO9.out hz3 _ _ _) (by omega),hb9⟩
def sgC (x:Sg×Value):List Value:=[.int .i64 x.1.1,.int .i64 x.1.2.1,x.2]
def sgs (L:List (Sg×Value)):List Value:=L.flatMap sgC
theorem zmI (x:Sg×Value) (L:List (Sg×Value)):sgs (x::L)=.int .i64 x.1.1::.int .i64 x.1.2.1::x.2::sgs L:=rfl
theorem zmG (L M:List (Sg×Value)):sgs (L++M)=sgs L++sgs M:=by simp[sgs]
theorem zmJ (L:List (Sg×Value)):(sgs L).length=3*L.length:=by
 induction L with
 |nil=>rfl
 |cons x L ih=>rw[zmI,List.length_cons,List.length_cons,List.length_cons,List.length_cons,ih];omega
theorem zmH:∀(L:List (Sg×Value)) (k:Nat) (h:k<L.length),(sgs L)[3*k]? =some (.int .i64 L[k].1.1)∧(sgs L)[3*k+1]? =some (.int .i64 L[k].1.2.1)∧(sgs L)[3*k+2]? =some L[k].2
 |x::L,0,_=>⟨rfl,rfl,rfl⟩
 |x::L,k+1,h=>by
  have:=zmH L k (by simpa using h);rw[zmI,show 3*(k+1)=3*k+1+1+1 by omega];simpa using this
structure Sigs (w:World) (v:Value) (L:List (Sg×Value)):Prop where
 s:SlR w v L.length (sgs L)
 m:∀x∈L,SlR w x.2 x.1.2.2.length (chs x.1.2.2)
theorem Sigs.below {w W:World} {v:Value} {L:List (Sg×Value)} (h:Sigs w v L) (hb:Below w.heap.size w W):Sigs W v L:=⟨h.s.below hb,fun x hx=>(h.m x hx).below hb⟩
theorem Sigs.at {w:World} {a:Option Addr} {cap:Nat} {L:List (Sg×Value)} (h:Sigs w (.slice a L.length cap) L) {j:Nat} (hj:j<L.length):
 ∃b o,a=some ⟨b,o,none⟩∧w.cell? ⟨b,o+j*3,none⟩=some (.int .i64 L[j].1.1)∧w.cell? ⟨b,o+j*3+1,none⟩=some (.int .i64 L[j].1.2.1)∧w.cell? ⟨b,o+j*3+2,none⟩=some L[j].2∧SlR w L[j].2 L[j].1.2.2.length (chs L[j].1.2.2):=by
 obtain⟨b,o,cap',hv,-,-,hcell⟩:=h.s.at (by omega);injection hv with e1 _ _;obtain⟨h0,h1,h2⟩:=zmH L j hj;refine⟨b,o,e1,?_,?_,?_,h.m _ (List.getElem_mem hj)⟩
 ·have:=hcell _ _ h0;rwa [Nat.mul_comm 3 j]at this
 ·have:=hcell _ _ h1;rwa [Nat.mul_comm 3 j,←Nat.add_assoc]at this
 ·have:=hcell _ _ h2;rwa [Nat.mul_comm 3 j,←Nat.add_assoc]at this
def FitS (L:List (Sg×Value)):Prop:=L.length≤1000000∧∀x∈L,Fit x.1.2.2
abbrev Gp:=Int×Int
structure Tr where
 sc:Int
 dt:Bs
 vn:Bs
 cm:Bs
 S:List Sc
 V:List Vr
 G:List Sg
 P:List Gp
 en:Int
def tr0:Tr:=⟨0,[],[],[],[],[],[],[],0⟩
def zhd (t:Int):Int:=if t=3∨t=4 then 1 else if t=6 then 2 else if t=0 then 3 else 0
def spl:Bs→Bs→List Bs
 | [],cur=> [cur]
 |c::t,cur=>if c=32 then cur::spl t []else spl t (cur++ [c])
def zrf (w:Bs):Bool:=!decide (w=[])&&!decide (w.head? =some 36)&&w.all prn
def zrg (s:Bs):Bool:=decide (s=[])||((spl s []).all zrf&&decide (s.length≤200))
def zpa (t:Tr):Int:=if t.sc< -15∨2<t.sc then 2 else if(zrg t.dt&&zrg t.vn&&zrg t.cm)=true then 0 else 3
def sgI (G:List Sg) (n:Int):Sg:=G.getD n.toNat (0,0,[])
def zdA (t:Tr):Int:=
 if(zj2 t.S t.V).2.2.2≠0 then(zj2 t.S t.V).2.2.2
 else if(zj2 t.S t.V).2.2.1.any (fun n=>decide ((t.G.length:Int)≤n))=true then 1
 else if 64<(zj2 t.S t.V).2.2.1.length then 9 else 0
def sig1 (t:Tr):List Sg:=(zj2 t.S t.V).2.2.1.map (sgI t.G)
def ze0 {α:Type} (f:α→Int):List α→Int
 | []=>0
 |x::l=>if f x≠0 then f x else ze0 f l
def fitE (G:List Sg) (v:Vr):Int:=
 if(sgI G v.sg).1≠zhd v.ty∨(v.rg=true∧(sgI G v.sg).1≠0)then 7
 else if v.rg=true∧(sgI G v.sg).2.1≠zq9 v.mb v.lb then 8 else 0
def ziR (G:List Sg):Int:=ze0 (fun s=>(zi4 s.1 s.2.1 s.2.2).2) G
def ziY (G:List Sg):List Sg:=G.map fun s=>(zi4 s.1 s.2.1 s.2.2).1
def zaD (acc:List Gp) (g:Gp):List Gp:=match acc.getLast? with
 |none=> [g]
 |some h=>if g.1≤h.2 then acc.dropLast++ [(h.1,max h.2 g.2)]else acc++ [g]
def zfm:Int→List Gp→Int→List Gp→Option (List Gp×Int)
 |_,acc,en,[]=>some (acc,en)
 |b,acc,en,g::t=>if g.1<b∨g.1<0∨g.2≤g.1∨1099511627777<g.2 then none else zfm g.1 (zaD acc g) (max en (g.2-1)) t
def zhv (G:List Sg) (en:Int):Int:=G.foldl (fun e s=>match s.2.2.getLast? with
 |none=>e
 |some c=>max e c.1) en
def zpc (t:Tr) (G:List Sg):Option (List Gp×Int):=
 if t.en<0∨1099511627776<t.en then none else(zfm 0 [] t.en t.P).map fun r=>(r.1,zhv G r.2)
def zfj (en:Int) (g:Gp):Int:=if en<g.2 then 1099511627777 else g.2
def offL (x:ByteArray) (at_:Int→ByteArray) (en:Int):List Gp→List Ch→List Ch
 | [],cs=>cs
 |g::t,cs=>cs.takeWhile (fun c=>decide (c.1<g.1))++((g.1,x)::((if zfj en g≤1099511627776 then [(zfj en g,at_ (zfj en g))]else [])++
   offL x at_ en t ((cs.dropWhile fun c=>decide (c.1<g.1)).dropWhile fun c=>decide (c.1≤zfj en g))))
def offF (P:List Gp) (en:Int) (s:Sg):SigR:=zi4 s.1 s.2.1 (offL (vi s.1 s.2.1) (fun t=>(atR s.1 s.2.1 s.2.2 t).1) en P s.2.2)
def clrE (P:List Gp) (en:Int) (G:List Sg):Int:=ze0 (fun s=>if s.1=0 then(offF P en s).2 else 0) G
def clrL (P:List Gp) (en:Int) (G:List Sg):List Sg:=G.map fun s=>if s.1=0 then(offF P en s).1 else s
def zda (G:List Sg):Nat:=(G.map fun s=>s.2.2.length).sum
def zcN (P:List Gp) (en:Int) (G:List Sg):Int:=
 if 16<P.length then 9 else if clrE P en G≠0 then clrE P en G else if 4096<zda (clrL P en G)then 9 else 0
def zb4 (t:Tr):Tr×Int:=
 if zpa t≠0 then(tr0,zpa t)
 else if zdA t≠0 then(tr0,zdA t)
 else if ze0 (fitE (sig1 t)) (zj2 t.S t.V).2.1≠0 then(tr0,ze0 (fitE (sig1 t)) (zj2 t.S t.V).2.1)
 else if ziR (sig1 t)≠0 then(tr0,ziR (sig1 t))
 else match zpc t (ziY (sig1 t))with
  |none=>(tr0,2)
  |some (P,en)=>if zcN P en (ziY (sig1 t))≠0 then(tr0,zcN P en (ziY (sig1 t)))
   else(⟨t.sc,t.dt,t.vn,t.cm,(zj2 t.S t.V).1,(zj2 t.S t.V).2.1,clrL P en (ziY (sig1 t)),P,en⟩,0)
def zqu (t:Tr):Prop:=zb4 t=(t,0)
set_option linter.unusedSimpArgs false
structure TP where
 vs:Value
 vv:Value
 vg:Value
 vp:Value
 M:List (Sg×Value)
def TP.v (p:TP) (t:Tr):Value:=.agg #[.int .i64 t.sc,.string (bsB t.dt),.string (bsB t.vn),.string (bsB t.cm),p.vs,p.vv,p.vg,p.vp,.int .i64 t.en]
structure TrM (w:World) (t:Tr) (p:TP):Prop where
 s:SlR w p.vs t.S.length (scs t.S)
 v:SlR w p.vv t.V.length (vrs t.V)
 g:Sigs w p.vg p.M
 q:SlR w p.vp t.P.length (gps t.P)
 m:p.M.map Prod.fst=t.G
theorem TrM.below {w W:World} {t:Tr} {p:TP} (h:TrM w t p) (hb:Below w.heap.size w W):TrM W t p:=⟨h.s.below hb,h.v.below hb,h.g.below hb,h.q.below hb,h.m⟩
theorem TrM.len {w:World} {t:Tr} {p:TP} (h:TrM w t p):p.M.length=t.G.length:=by rw[←h.m,List.length_map]
theorem zpl (n:Int) (w:World):Calls Tryz.prog 16 #[.int .i64 n] w fun e w'=>e=.returned (.int .i64 (zhd n))∧w=w':=by
 by_cases h3:n=3
 ·subst h3;go_enter Tryz.func16,Tryz.ntmps16;go_wp2_with fail;go_ret;exact⟨rfl,rfl⟩
 ·have b3:(n==3)=false:=by simpa using h3
  by_cases h4:n=4
  ·subst h4;go_enter Tryz.func16,Tryz.ntmps16;go_wp2_with fail;go_ret;exact⟨rfl,rfl⟩
  ·have b4:(n==4)=false:=by simpa using h4
   by_cases h6:n=6
   ·subst h6;go_enter Tryz.func16,Tryz.ntmps16;go_wp2_with fail;go_ret;exact⟨rfl,rfl⟩
   ·have b6:(n==6)=false:=by simpa using h6
    by_cases h0:n=0
    ·subst h0;go_enter Tryz.func16,Tryz.ntmps16;go_wp2_with fail;go_ret;exact⟨rfl,rfl⟩
    ·have b0:(n==0)=false:=by simpa using h0
     have HR:=lhd (show 0=zhd n by unfold zhd;rw[if_neg (by omega),if_neg h6,if_neg h0]);clear h3 h4 h6 h0;go_enter Tryz.func16,Tryz.ntmps16;go_wp2_with fail;go_ret;exact⟨zlF HR.out,rfl⟩
theorem zlX (x y:Sg):sEq x.1 x.2.1 x.2.2 y.1 y.2.1 y.2.2=decide (x=y):=by
 obtain⟨k,n,l⟩:=x;obtain⟨k2,n2,m⟩:=y;unfold sEq zlY;rw[Bool.eq_iff_iff];simp only[Bool.and_eq_true,decide_eq_true_iff,Prod.mk.injEq]
theorem zeq (v u:Value) (L M:List (Sg×Value)) (w:World) (hs:Sigs w v L) (ht:Sigs w u M):
 Calls Tryz.prog 75 #[v,u,(.func (.func 76) #[] #[])] w fun e w'=>e=.returned (.bool (decide (L.map Prod.fst=M.map Prod.fst)))∧Below w.heap.size w w':=by
 obtain⟨a,cap,rfl,hc,hm⟩:=hs.s.shape;obtain⟨a2,cap2,rfl,hc2,hm2⟩:=ht.s.shape;unfold maxLen at hm hm2;have HS:=lhd hs;have HT:=lhd ht;clear hs ht;obtain⟨R,hR⟩:∃R,R=decide (L.map Prod.fst=M.map Prod.fst):=⟨_,rfl⟩;rw[←hR];by_cases hne:L.length≠M.length
 ·have E:=lhd (show R=false by rw[hR,decide_eq_false_iff_not];intro h;exact hne (by have:=congrArg List.length h;simpa using this));have hb:((L.length:Int) !=(M.length:Int))=true:=by rw[bne_iff_ne];omega
  clear hne hR;go_enter Tryz.func75,Tryz.ntmps75;go_wp2_with fail;go_ret;exact⟨zlE E.out.symm,Below.refl _ _⟩
 have hlen:L.length=M.length:=by omega
 have HLEN:=lhd hlen;have HR:=lhd hR;have hb:((L.length:Int) !=(M.length:Int))=false:=by rw[hlen];simp
 clear hne hlen hR;go_enter Tryz.func75,Tryz.ntmps75;go_wp2_with fail
 go_loopw [17] (fun i wr=>∃(j:Nat),j≤L.length∧i=.int .i64 j∧(L.map Prod.fst).take j=(M.map Prod.fst).take j∧Below w.heap.size w wr)
  (fun i _=>L.length-(intOf i).toNat)
 case atStart=>exact⟨0,Nat.zero_le _,rfl,rfl,Below.refl _ _⟩
 case round=>
  obtain⟨j,hj,rfl,hgo,hbw⟩:=hrel;have HGO:=lhd hgo;have HB:=lhd hbw;clear hgo hbw;by_cases hlt:j<L.length
  ·have hlt2:j<M.length:=by have:=HLEN.out;omega
   obtain⟨b,o,rfl,d0,d1,d2,hd⟩:=(HS.out.below HB.out).at hlt;obtain⟨b2,o2,rfl,g0,g1,g2,hg⟩:=(HT.out.below HB.out).at hlt2
   have HGO2:=lhd (fun(h:L[j].1=M[j].1)=>(show(L.map Prod.fst).take (j+1)=(M.map Prod.fst).take (j+1)by
    rw[List.take_succ_eq_append_getElem (by simpa using hlt),List.take_succ_eq_append_getElem (by simpa using hlt2),HGO.out];simp[h]))
   have HNO:=lhd (fun(h:¬L[j].1=M[j].1)=>(show R=false by
    rw[HR.out,decide_eq_false_iff_not];intro h2;have h3:(L.map Prod.fst)[j]'(by simpa using hlt)=(M.map Prod.fst)[j]'(by simpa using hlt2):=by simp only[h2]
    simp at h3;exact h h3))
   have zb2:b2<wr.heap.size:=zcn g0;generalize L[j]=x at d0 d1 d2 hd HGO2 HNO;generalize M[j]=y at g0 g1 g2 hg HGO2 HNO;obtain⟨⟨k,n,l⟩,xv⟩:=x;obtain⟨⟨k2,n2,m⟩,yv⟩:=y;dsimp only at d0 d1 d2 hd g0 g1 g2 hg HGO2 HNO;obtain⟨xa,xc,rfl,-,-⟩:=hd.shape;obtain⟨ya,yc,rfl,-,-⟩:=hg.shape;have hb2:Below wr.heap.size wr ((wr.alloc (.cells #[.int .i64 k,.int .i64 n,.slice xa l.length xc] 45)).alloc (.cells #[.int .i64 k2,.int .i64 n2,.slice ya m.length yc] 45)):=((Below.refl _ _).alloc (Nat.le_refl _) _).alloc (by simp) _;have HE:=lhd (zmR k n k2 n2 _ _ l m _ (hd.below hb2) (hg.below hb2));have HB2:=lhd (HB.out.trans (hb2.mono HB.out.size));rw[show sEq k n l k2 n2 m=decide ((k,n,l)=(k2,n2,m))from zlX (k,n,l) (k2,n2,m)]at HE;clear hd hg hb2;by_cases he:((k,n,l):Sg)=(k2,n2,m)
   ·have HG3:=lhd (HGO2.out he);rw[decide_eq_true he]at HE;clear he;go_wp2_with fail;refine HE.out.mono ?_;rintro e w1 ⟨rfl,hb1⟩;have HB3:=lhd (HB2.out.trans (hb1.mono HB2.out.size));clear hb1 d0 d1 d2 g0 g1 g2;go_wp2_with fail;go_roundw;case rel=>exact⟨j+1,by omega,by go_num,HG3.out,HB3.out⟩
    case measure=>simp[intOf];omega
   ·have HG3:=lhd (HNO.out he);rw[decide_eq_false he]at HE;clear he;go_wp2_with fail;refine HE.out.mono ?_;rintro e w1 ⟨rfl,hb1⟩;have HB3:=lhd (HB2.out.trans (hb1.mono HB2.out.size));clear hb1 d0 d1 d2 g0 g1 g2;go_wp2_with fail;go_ret;exact⟨zlE HG3.out.symm,HB3.out⟩
  ·have hj':j=L.length:=by omega
   subst hj'
   have E2:=lhd (show R=true by
    rw[HR.out,decide_eq_true_iff];have:=HGO.out;rwa [List.take_of_length_le (by simp),List.take_of_length_le (by simp[HLEN.out])]at this)
   clear hlt;go_wp2_with fail;go_ret;exact⟨zlE E2.out.symm,HB.out⟩
def eqT (t u:Tr):Bool:=decide (t.sc=u.sc)&&(decide (t.dt=u.dt)&&(decide (t.vn=u.vn)&&(decide (t.cm=u.cm)&&(decide (t.en=u.en)&&(decide (t.S=u.S)&&(decide (t.V=u.V)&&(decide (t.P=u.P)&&decide (t.G=u.G))))))))
theorem zel {t u:Tr}:eqT t u=true↔t=u:=by
 unfold eqT;simp only[Bool.and_eq_true,decide_eq_true_iff];obtain⟨a1,a2,a3,a4,a5,a6,a7,a8,a9⟩:=t;obtain⟨b1,b2,b3,b4,b5,b6,b7,b8,b9⟩:=u;dsimp only;constructor
 ·rintro⟨rfl,rfl,rfl,rfl,rfl,rfl,rfl,rfl,rfl⟩;rfl
 ·intro h;injection h with h1 h2 h3 h4 h5 h6 h7 h8 h9;exact⟨h1,h2,h3,h4,h9,h5,h6,h8,h7⟩
theorem zpk (t u:Tr) (p q:TP) (w:World) (ht:TrM w t p) (hu:TrM w u q):Calls Tryz.prog 21 #[p.v t,q.v u] w fun e w'=>e=.returned (.bool (eqT t u))∧Below w.heap.size w w':=by
 obtain⟨hs,hv,hg,hq,hm⟩:=ht;obtain⟨hs2,hv2,hg2,hq2,hm2⟩:=hu;obtain⟨sc,dt,vn,cm,S,V,G,P,en⟩:=t;obtain⟨sc2,dt2,vn2,cm2,S2,V2,G2,P2,en2⟩:=u;obtain⟨ps,pv,pg,pp,M⟩:=p;obtain⟨qs,qv,qg,qp,M2⟩:=q;unfold TP.v;dsimp only at*;obtain⟨a1,c1,rfl,-,-⟩:=hs.shape;obtain⟨a2,c2,rfl,-,-⟩:=hv.shape;obtain⟨a3,c3,rfl,-,-⟩:=hg.s.shape;obtain⟨a4,c4,rfl,-,-⟩:=hq.shape;obtain⟨b1,e1,rfl,-,-⟩:=hs2.shape;obtain⟨b2,e2,rfl,-,-⟩:=hv2.shape;obtain⟨b3,e3,rfl,-,-⟩:=hg2.s.shape;obtain⟨b4,e4,rfl,-,-⟩:=hq2.shape;have hbw:Below w.heap.size w ((w.alloc (.cells #[.int .i64 sc,.string (bsB dt),.string (bsB vn),.string (bsB cm),.slice a1 S.length c1,.slice a2 V.length c2,.slice a3 M.length c3,.slice a4 P.length c4,.int .i64 en] 27)).alloc (.cells #[.int .i64 sc2,.string (bsB dt2),.string (bsB vn2),.string (bsB cm2),.slice b1 S2.length e1,.slice b2 V2.length e2,.slice b3 M2.length e3,.slice b4 P2.length e4,.int .i64 en2] 27)):=((Below.refl _ _).alloc (Nat.le_refl _) _).alloc (by simp) _;have HB:=lhd hbw;have HE:=lhd (show(decide (sc=sc2)&&(decide (dt=dt2)&&(decide (vn=vn2)&&(decide (cm=cm2)&&(decide (en=en2)&&(decide (S=S2)&&(decide (V=V2)&&(decide (P=P2)&&decide (G=G2)))))))))=eqT ⟨sc,dt,vn,cm,S,V,G,P,en⟩ ⟨sc2,dt2,vn2,cm2,S2,V2,G2,P2,en2⟩from rfl);generalize eqT ⟨sc,dt,vn,cm,S,V,G,P,en⟩ ⟨sc2,dt2,vn2,cm2,S2,V2,G2,P2,en2⟩=R at*;by_cases h1:sc=sc2
 rotate_left
 ·have b1:(sc==sc2)=false:=by simpa using h1
  have HR:=lhd (show false=R by rw[←HE.out,decide_eq_false h1];rfl);clear h1 hs hv hg hq hm hs2 hv2 hg2 hq2 hm2 hbw;go_enter Tryz.func21,Tryz.ntmps21;go_wp2_with fail;go_ret;exact⟨zlE HR.out,HB.out⟩
 subst h1;by_cases h2:dt=dt2
 rotate_left
 ·have b2:=zbo (zb3 h2);have HR:=lhd (show false=R by rw[←HE.out,decide_eq_false h2];simp);clear h2 hs hv hg hq hm hs2 hv2 hg2 hq2 hm2 hbw;go_enter Tryz.func21,Tryz.ntmps21;go_wp2_with fail;go_ret;exact⟨zlE HR.out,HB.out⟩
 subst h2;by_cases h3:vn=vn2
 rotate_left
 ·have b2:=zbo (zb3 h3);have HR:=lhd (show false=R by rw[←HE.out,decide_eq_false h3];simp);clear h3 hs hv hg hq hm hs2 hv2 hg2 hq2 hm2 hbw;go_enter Tryz.func21,Tryz.ntmps21;go_wp2_with fail;go_ret;exact⟨zlE HR.out,HB.out⟩
 subst h3;by_cases h4:cm=cm2
 rotate_left
 ·have b2:=zbo (zb3 h4);have HR:=lhd (show false=R by rw[←HE.out,decide_eq_false h4];simp);clear h4 hs hv hg hq hm hs2 hv2 hg2 hq2 hm2 hbw;go_enter Tryz.func21,Tryz.ntmps21;go_wp2_with fail;go_ret;exact⟨zlE HR.out,HB.out⟩
 subst h4;by_cases h5:en=en2
 rotate_left
 ·have b1:(en==en2)=false:=by simpa using h5
  have HR:=lhd (show false=R by rw[←HE.out,decide_eq_false h5];simp);clear h5 hs hv hg hq hm hs2 hv2 hg2 hq2 hm2 hbw;go_enter Tryz.func21,Tryz.ntmps21;go_wp2_with fail;go_ret;exact⟨zlE HR.out,HB.out⟩
 subst h5;have HE2:=lhd (show(decide (S=S2)&&(decide (V=V2)&&(decide (P=P2)&&decide (G=G2))))=R by rw[←HE.out];simp);have H6:=lhd (fun W hW=>zeo _ _ S S2 W (hs.below (HB.out.trans (hW:Below w.heap.size _ W))) (hs2.below (HB.out.trans hW)));have H7:=lhd (fun W hW=>zep _ _ V V2 W (hv.below (HB.out.trans (hW:Below w.heap.size _ W))) (hv2.below (HB.out.trans hW)));have H8:=lhd (fun W hW=>zen _ _ P P2 W (hq.below (HB.out.trans (hW:Below w.heap.size _ W))) (hq2.below (HB.out.trans hW)));have H9:=lhd (fun W hW=>zeq _ _ M M2 W (hg.below (HB.out.trans (hW:Below w.heap.size _ W))) (hg2.below (HB.out.trans hW)));rw[hm,hm2]at H9;clear hs hv hg hq hm hs2 hv2 hg2 hq2 hm2 hbw HE;generalize decide (S=S2)=r6 at*;generalize decide (V=V2)=r7 at*;generalize decide (P=P2)=r8 at*;generalize decide (G=G2)=r9 at*;have X1:=lhd ((zas.fresh w #[.int .i64 sc,.string (bsB dt),.string (bsB vn),.string (bsB cm),.slice a1 S.length c1,.slice a2 V.length c2,.slice a3 M.length c3,.slice a4 P.length c4,.int .i64 en] 27).below ((Below.refl _ _).alloc (Nat.le_refl _) (.cells #[.int .i64 sc,.string (bsB dt),.string (bsB vn),.string (bsB cm),.slice b1 S2.length e1,.slice b2 V2.length e2,.slice b3 M2.length e3,.slice b4 P2.length e4,.int .i64 en] 27)) (by simp));have Y1:=zas.fresh (w.alloc (.cells #[.int .i64 sc,.string (bsB dt),.string (bsB vn),.string (bsB cm),.slice a1 S.length c1,.slice a2 V.length c2,.slice a3 M.length c3,.slice a4 P.length c4,.int .i64 en] 27)) #[.int .i64 sc,.string (bsB dt),.string (bsB vn),.string (bsB cm),.slice b1 S2.length e1,.slice b2 V2.length e2,.slice b3 M2.length e3,.slice b4 P2.length e4,.int .i64 en] 27;rw[World.size_alloc]at Y1;have Y1:=lhd Y1;obtain⟨Wb,hWb⟩:∃X,(w.alloc (.cells #[.int .i64 sc,.string (bsB dt),.string (bsB vn),.string (bsB cm),.slice a1 S.length c1,.slice a2 V.length c2,.slice a3 M.length c3,.slice a4 P.length c4,.int .i64 en] 27)).alloc (.cells #[.int .i64 sc,.string (bsB dt),.string (bsB vn),.string (bsB cm),.slice b1 S2.length e1,.slice b2 V2.length e2,.slice b3 M2.length e3,.slice b4 P2.length e4,.int .i64 en] 27)=X:=⟨_,rfl⟩;have HZ:=lhd (show w.heap.size+1<Wb.heap.size by rw[←hWb];simp);rw[hWb]at X1 Y1 HB H6 H7 H8 H9;have HW:=lhd hWb;clear hWb;have H0:=lhd (Below.refl w.heap.size Wb);have c5:=X1.out.cell (j:=5) rfl;have c6:=X1.out.cell (j:=6) rfl;have c7:=X1.out.cell (j:=7) rfl;have g5:=Y1.out.cell (j:=5) rfl;have g6:=Y1.out.cell (j:=6) rfl;have g7:=Y1.out.cell (j:=7) rfl;go_enter Tryz.func21,Tryz.ntmps21;go_wp2_with fail;rw[HW.out];refine(H6.out _ H0.out).mono ?_;rintro e w6 ⟨rfl,hb8⟩;have HB6:=lhd ((show Below w.heap.size _ _ from H0.out).trans (hb8.mono (by have:=H0.out.size;have:=HZ.out;omega)));have X8:=lhd (X1.out.below hb8 (by have:=HZ.out;have:=H0.out.size;omega));have Y8:=lhd (Y1.out.below hb8 (by have:=HZ.out;have:=H0.out.size;omega));clear X1 Y1 c5 c6 c7 g5 g6 g7;have X1:=X8;have Y1:=Y8;clear X8 Y8 hb8;have c5:=X1.out.cell (j:=5) rfl;have c6:=X1.out.cell (j:=6) rfl;have c7:=X1.out.cell (j:=7) rfl;have g5:=Y1.out.cell (j:=5) rfl;have g6:=Y1.out.cell (j:=6) rfl;have g7:=Y1.out.cell (j:=7) rfl;cases r6
 ·have HR:=lhd (show false=R by rw[←HE2.out];rfl);go_wp2_with fail;go_ret;exact⟨zlE HR.out,HB.out.trans HB6.out⟩
 go_wp2_with fail;refine(H7.out _ HB6.out).mono ?_;rintro e w7 ⟨rfl,hb8⟩;have HB7:=lhd ((show Below w.heap.size _ _ from HB6.out).trans (hb8.mono (by have:=HB6.out.size;have:=HZ.out;omega)));have X8:=lhd (X1.out.below hb8 (by have:=HZ.out;have:=HB6.out.size;omega));have Y8:=lhd (Y1.out.below hb8 (by have:=HZ.out;have:=HB6.out.size;omega));clear X1 Y1 c5 c6 c7 g5 g6 g7;have X1:=X8;have Y1:=Y8;clear X8 Y8 hb8;have c5:=X1.out.cell (j:=5) rfl;have c6:=X1.out.cell (j:=6) rfl;have c7:=X1.out.cell (j:=7) rfl;have g5:=Y1.out.cell (j:=5) rfl;have g6:=Y1.out.cell (j:=6) rfl;have g7:=Y1.out.cell (j:=7) rfl;cases r7
 ·have HR:=lhd (show false=R by rw[←HE2.out];rfl);go_wp2_with fail;go_ret;exact⟨zlE HR.out,HB.out.trans HB7.out⟩
 go_wp2_with fail;refine(H8.out _ HB7.out).mono ?_;rintro e w8 ⟨rfl,hb8⟩;have HB8:=lhd ((show Below w.heap.size _ _ from HB7.out).trans (hb8.mono (by have:=HB7.out.size;have:=HZ.out;omega)));have X8:=lhd (X1.out.below hb8 (by have:=HZ.out;have:=HB7.out.size;omega));have Y8:=lhd (Y1.out.below hb8 (by have:=HZ.out;have:=HB7.out.size;omega));clear X1 Y1 c5 c6 c7 g5 g6 g7;have X1:=X8;have Y1:=Y8;clear X8 Y8 hb8;have c5:=X1.out.cell (j:=5) rfl;have c6:=X1.out.cell (j:=6) rfl;have c7:=X1.out.cell (j:=7) rfl;have g5:=Y1.out.cell (j:=5) rfl;have g6:=Y1.out.cell (j:=6) rfl;have g7:=Y1.out.cell (j:=7) rfl;cases r8
 ·have HR:=lhd (show false=R by rw[←HE2.out];rfl);go_wp2_with fail;go_ret;exact⟨zlE HR.out,HB.out.trans HB8.out⟩
 go_wp2_with fail;refine(H9.out _ HB8.out).mono ?_;rintro e w9 ⟨rfl,hb8⟩;have HB9:=lhd ((show Below w.heap.size _ _ from HB8.out).trans (hb8.mono (by have:=HB8.out.size;have:=HZ.out;omega)));have X8:=lhd (X1.out.below hb8 (by have:=HZ.out;have:=HB8.out.size;omega));have Y8:=lhd (Y1.out.below hb8 (by have:=HZ.out;have:=HB8.out.size;omega));clear X1 Y1 c5 c6 c7 g5 g6 g7;have X1:=X8;have Y1:=Y8;clear X8 Y8 hb8;have c5:=X1.out.cell (j:=5) rfl;have c6:=X1.out.cell (j:=6) rfl;have c7:=X1.out.cell (j:=7) rfl;have g5:=Y1.out.cell (j:=5) rfl;have g6:=Y1.out.cell (j:=6) rfl;have g7:=Y1.out.cell (j:=7) rfl;have HR:=lhd (show r9=R by rw[←HE2.out];simp);go_wp2_with fail;go_ret;exact⟨zlE HR.out,HB.out.trans HB9.out⟩
theorem zmE:(Tryz.prog.info? 45).map (fun i=>(i.zero,i.size,i.bytes))=some (some (.agg #[.int .i64 0,.int .i64 0,.slice none 0 0]),3,40):=by kernel_rfl
theorem zmL:∀(l:List (Sg×Value)),(∀x∈l,x.2.oneCell'=true)→∀u∈sgs l,u.oneCell'=true
 | [],_,u,hu=>by simp[sgs]at hu
 |x::l,h,u,hu=>by
  rw[zmI]at hu;rcases List.mem_cons.1 hu with rfl|hu
  ·rfl
  rcases List.mem_cons.1 hu with rfl|hu
  ·rfl
  rcases List.mem_cons.1 hu with rfl|hu
  ·exact h x (by simp)
  ·exact zmL l (fun y hy=>h y (List.mem_cons_of_mem _ hy)) u hu
theorem zmn (l:List Sc) (h:l.length=0):scs l=[]:=by rw[List.length_eq_zero_iff.1 h];rfl
theorem zqP (l:List Vr) (h:l.length=0):vrs l=[]:=by rw[List.length_eq_zero_iff.1 h];rfl
theorem zfF (l:List (Int×Int)) (h:l.length=0):gps l=[]:=by rw[List.length_eq_zero_iff.1 h];rfl
theorem zmK (l:List (Sg×Value)) (h:l.length=0):sgs l=[]:=by rw[List.length_eq_zero_iff.1 h];rfl
theorem znl {w:World} {v:Value} {n:Nat} {xs:List Value} (h:SlR w v n xs):v.oneCell'=true:=by
 obtain⟨a,cap,rfl,-,-⟩:=h.shape;rfl
theorem zdg (v:Value) (l:List (Sc)) (w:World) (hs:SlR w v l.length (scs l)) (hn:l.length≤1000000) (ho1:∀u∈scs l,u.oneCell'=true):
 Calls Tryz.prog 92 #[v] w fun e w'=>∃v',e=.returned v'∧w'.ownsRow w.heap.size 55 3 v' l.length (scs l)∧Below w.heap.size w w':=by
 obtain⟨a,cap,rfl,hc,hm,hz,hat⟩:=hs;have hs:SlR w (.slice a l.length cap) l.length (scs l):=⟨a,cap,rfl,hc,hm,hz,hat⟩;have HONE:=lhd ho1;clear ho1;cases a with
 |none=>
  have hcap:=hz rfl;subst hcap;have h0:l.length=0:=by omega
  have HL:=lhd (zmn l h0);have H0:=lhd h0;clear hs hz hat h0;go_enter Tryz.func92,Tryz.ntmps92;rw[H0.out];go_wp2_with fail;go_ret;exact⟨_,rfl,by rw[HL.out];exact World.ownsRow_nil _ _ _ _,Below.refl _ _⟩
 |some ad=>
  obtain⟨i0,hi,iz0,iz1,iz2⟩:=info_parts (P:=Tryz.prog) zl7;have HN:=lhd (hs.news (zmn l));have HOWN:=lhd (World.ownsRow_nil w w.heap.size 55 3);clear hs hz hat;go_enter Tryz.func92,Tryz.ntmps92;go_wp2_with (at_builtin;refine wpList_append_own _ rfl _ _ 22 rfl w.heap.size 55 i0 (.agg #[.string ⟨#[]⟩,.int .i64 0,.int .i64 0]) 3 32 Tryz.underlying22 hi iz0 iz1 iz2 rfl (by decide) _ _ _ rfl HOWN.out ad l.length cap (scs l) rfl (by rw[zmm];omega) HN.out HONE.out (by unfold maxLen;omega) (by omega) (by simp) ?_)
  intro v' w' ho hg _;have HO:=lhd ho;have HG:=lhd hg;clear ho hg;go_wp2_with fail;go_ret;exact⟨_,rfl,by have:=HO.out;simpa using this,(Below.refl _ _).grown HG.out (by simp) (by intro k hk;simp[Value.ownBlock]at hk)⟩
theorem zdi (v:Value) (l:List (Vr)) (w:World) (hs:SlR w v l.length (vrs l)) (hn:l.length≤1000000) (ho1:∀u∈vrs l,u.oneCell'=true):
 Calls Tryz.prog 93 #[v] w fun e w'=>∃v',e=.returned v'∧w'.ownsRow w.heap.size 42 7 v' l.length (vrs l)∧Below w.heap.size w w':=by
 obtain⟨a,cap,rfl,hc,hm,hz,hat⟩:=hs;have hs:SlR w (.slice a l.length cap) l.length (vrs l):=⟨a,cap,rfl,hc,hm,hz,hat⟩;have HONE:=lhd ho1;clear ho1;cases a with
 |none=>
  have hcap:=hz rfl;subst hcap;have h0:l.length=0:=by omega
  have HL:=lhd (zqP l h0);have H0:=lhd h0;clear hs hz hat h0;go_enter Tryz.func93,Tryz.ntmps93;rw[H0.out];go_wp2_with fail;go_ret;exact⟨_,rfl,by rw[HL.out];exact World.ownsRow_nil _ _ _ _,Below.refl _ _⟩
 |some ad=>
  obtain⟨i0,hi,iz0,iz1,iz2⟩:=info_parts (P:=Tryz.prog) zqF;have HN:=lhd (hs.news (zqP l));have HOWN:=lhd (World.ownsRow_nil w w.heap.size 42 7);clear hs hz hat;go_enter Tryz.func93,Tryz.ntmps93;go_wp2_with (at_builtin;refine wpList_append_own _ rfl _ _ 23 rfl w.heap.size 42 i0 (.agg #[.string ⟨#[]⟩,.int .i64 0,.int .i64 0,.int .i64 0,.bool false,.int .i64 0,.int .i64 0]) 7 64 Tryz.underlying23 hi iz0 iz1 iz2 rfl (by decide) _ _ _ rfl HOWN.out ad l.length cap (vrs l) rfl (by rw[zqN];omega) HN.out HONE.out (by unfold maxLen;omega) (by omega) (by simp) ?_)
  intro v' w' ho hg _;have HO:=lhd ho;have HG:=lhd hg;clear ho hg;go_wp2_with fail;go_ret;exact⟨_,rfl,by have:=HO.out;simpa using this,(Below.refl _ _).grown HG.out (by simp) (by intro k hk;simp[Value.ownBlock]at hk)⟩
theorem zdf (v:Value) (l:List (Int×Int)) (w:World) (hs:SlR w v l.length (gps l)) (hn:l.length≤1000000) (ho1:∀u∈gps l,u.oneCell'=true):
 Calls Tryz.prog 95 #[v] w fun e w'=>∃v',e=.returned v'∧w'.ownsRow w.heap.size 57 2 v' l.length (gps l)∧Below w.heap.size w w':=by
 obtain⟨a,cap,rfl,hc,hm,hz,hat⟩:=hs;have hs:SlR w (.slice a l.length cap) l.length (gps l):=⟨a,cap,rfl,hc,hm,hz,hat⟩;have HONE:=lhd ho1;clear ho1;cases a with
 |none=>
  have hcap:=hz rfl;subst hcap;have h0:l.length=0:=by omega
  have HL:=lhd (zfF l h0);have H0:=lhd h0;clear hs hz hat h0;go_enter Tryz.func95,Tryz.ntmps95;rw[H0.out];go_wp2_with fail;go_ret;exact⟨_,rfl,by rw[HL.out];exact World.ownsRow_nil _ _ _ _,Below.refl _ _⟩
 |some ad=>
  obtain⟨i0,hi,iz0,iz1,iz2⟩:=info_parts (P:=Tryz.prog) zfA;have HN:=lhd (hs.news (zfF l));have HOWN:=lhd (World.ownsRow_nil w w.heap.size 57 2);clear hs hz hat;go_enter Tryz.func95,Tryz.ntmps95;go_wp2_with (at_builtin;refine wpList_append_own _ rfl _ _ 25 rfl w.heap.size 57 i0 (.agg #[.int .i64 0,.int .i64 0]) 2 16 Tryz.underlying25 hi iz0 iz1 iz2 rfl (by decide) _ _ _ rfl HOWN.out ad l.length cap (gps l) rfl (by rw[zfE];omega) HN.out HONE.out (by unfold maxLen;omega) (by omega) (by simp) ?_)
  intro v' w' ho hg _;have HO:=lhd ho;have HG:=lhd hg;clear ho hg;go_wp2_with fail;go_ret;exact⟨_,rfl,by have:=HO.out;simpa using this,(Below.refl _ _).grown HG.out (by simp) (by intro k hk;simp[Value.ownBlock]at hk)⟩
theorem zde (v:Value) (l:List (Ch)) (w:World) (hs:SlR w v l.length (chs l)) (hn:l.length≤1000000) (ho1:∀u∈chs l,u.oneCell'=true):
 Calls Tryz.prog 96 #[v] w fun e w'=>∃v',e=.returned v'∧w'.ownsRow w.heap.size 53 2 v' l.length (chs l)∧Below w.heap.size w w':=by
 obtain⟨a,cap,rfl,hc,hm,hz,hat⟩:=hs;have hs:SlR w (.slice a l.length cap) l.length (chs l):=⟨a,cap,rfl,hc,hm,hz,hat⟩;have HONE:=lhd ho1;clear ho1;cases a with
 |none=>
  have hcap:=hz rfl;subst hcap;have h0:l.length=0:=by omega
  have HL:=lhd (zcL l h0);have H0:=lhd h0;clear hs hz hat h0;go_enter Tryz.func96,Tryz.ntmps96;rw[H0.out];go_wp2_with fail;go_ret;exact⟨_,rfl,by rw[HL.out];exact World.ownsRow_nil _ _ _ _,Below.refl _ _⟩
 |some ad=>
  obtain⟨i0,hi,iz0,iz1,iz2⟩:=info_parts (P:=Tryz.prog) zcv;have HN:=lhd (hs.news (zcL l));have HOWN:=lhd (World.ownsRow_nil w w.heap.size 53 2);clear hs hz hat;go_enter Tryz.func96,Tryz.ntmps96;go_wp2_with (at_builtin;refine wpList_append_own _ rfl _ _ 43 rfl w.heap.size 53 i0 (.agg #[.int .i64 0,.string ⟨#[]⟩]) 2 24 Tryz.underlying43 hi iz0 iz1 iz2 rfl (by decide) _ _ _ rfl HOWN.out ad l.length cap (chs l) rfl (by rw[zcK];omega) HN.out HONE.out (by unfold maxLen;omega) (by omega) (by simp) ?_)
  intro v' w' ho hg _;have HO:=lhd ho;have HG:=lhd hg;clear ho hg;go_wp2_with fail;go_ret;exact⟨_,rfl,by have:=HO.out;simpa using this,(Below.refl _ _).grown HG.out (by simp) (by intro k hk;simp[Value.ownBlock]at hk)⟩
theorem zdh (v:Value) (l:List (Sg×Value)) (w:World) (hs:SlR w v l.length (sgs l)) (hn:l.length≤1000000) (ho1:∀u∈sgs l,u.oneCell'=true):
 Calls Tryz.prog 94 #[v] w fun e w'=>∃v',e=.returned v'∧w'.ownsRow w.heap.size 45 3 v' l.length (sgs l)∧Below w.heap.size w w':=by
 obtain⟨a,cap,rfl,hc,hm,hz,hat⟩:=hs;have hs:SlR w (.slice a l.length cap) l.length (sgs l):=⟨a,cap,rfl,hc,hm,hz,hat⟩;have HONE:=lhd ho1;clear ho1;cases a with
 |none=>
  have hcap:=hz rfl;subst hcap;have h0:l.length=0:=by omega
  have HL:=lhd (zmK l h0);have H0:=lhd h0;clear hs hz hat h0;go_enter Tryz.func94,Tryz.ntmps94;rw[H0.out];go_wp2_with fail;go_ret;exact⟨_,rfl,by rw[HL.out];exact World.ownsRow_nil _ _ _ _,Below.refl _ _⟩
 |some ad=>
  obtain⟨i0,hi,iz0,iz1,iz2⟩:=info_parts (P:=Tryz.prog) zmE;have HN:=lhd (hs.news (zmK l));have HOWN:=lhd (World.ownsRow_nil w w.heap.size 45 3);clear hs hz hat;go_enter Tryz.func94,Tryz.ntmps94;go_wp2_with (at_builtin;refine wpList_append_own _ rfl _ _ 24 rfl w.heap.size 45 i0 (.agg #[.int .i64 0,.int .i64 0,.slice none 0 0]) 3 40 Tryz.underlying24 hi iz0 iz1 iz2 rfl (by decide) _ _ _ rfl HOWN.out ad l.length cap (sgs l) rfl (by rw[zmJ];omega) HN.out HONE.out (by unfold maxLen;omega) (by omega) (by simp) ?_)
  intro v' w' ho hg _;have HO:=lhd ho;have HG:=lhd hg;clear ho hg;go_wp2_with fail;go_ret;exact⟨_,rfl,by have:=HO.out;simpa using this,(Below.refl _ _).grown HG.out (by simp) (by intro k hk;simp[Value.ownBlock]at hk)⟩
theorem znt:∀(s:Bs),∃a r,spl s []=a::r∧(∀cur,spl s cur=(cur++a)::r)∧a++Lib.joinTail [32] r=s
 | []=>⟨[],[],rfl,fun cur=>by simp[spl],rfl⟩
 |c::t=>by
  obtain⟨a,r,h1,h2,h3⟩:=znt t;by_cases hc:c=32
  ·subst hc;refine⟨[],a::r,by rw[spl,if_pos rfl,h1],fun cur=>by rw[spl,if_pos rfl,h1,List.append_nil],?_⟩;show []++(32::a++Lib.joinTail [32] r)=_;simp[h3]
  ·refine⟨c::a,r,by rw[spl,if_neg hc,h2];rfl,fun cur=>by rw[spl,if_neg hc,h2,List.append_assoc];rfl,?_⟩;rw[List.cons_append,h3]
theorem znu (s:Bs):Lib.join (spl s []) [32]=s:=by
 obtain⟨a,r,h1,-,h3⟩:=znt s;rw[h1,Lib.join_cons,h3]
theorem zgU (t:Bs):Lib.index (32::t) [32]=0:=by rw[Lib.index_one];rfl
theorem zgV {c:UInt8} (hc:c≠32) (t:Bs):Lib.index (c::t) [32]=if Lib.index t [32]= -1 then-1 else Lib.index t [32]+1:=by
 rw[Lib.index_one,Lib.index_one,Lib.indexByte,if_neg (by simpa using hc)];simp
theorem zgY {t:Bs} (h:t.count 32≠0):0≤Lib.index t [32]:=by
 induction t with
 |nil=>simp at h
 |cons c t ih=>
  by_cases hc:c=32
  ·subst hc;rw[zgU];omega
  ·rw[List.count_cons_of_ne (by simpa using hc)]at h;have:=ih h;rw[zgV hc,if_neg (by omega)];omega
theorem znz:∀(s:Bs),Lib.splitK [32] 0 (s.count 32) s=spl s []
 | []=>rfl
 |c::t=>by
  have ih:=znz t;obtain⟨a,r,h1,h2,-⟩:=znt t;by_cases hc:c=32
  ·subst hc;rw[List.count_cons_self,Lib.splitK,if_neg (by rw[zgU];decide),zgU,spl,if_pos rfl,←ih];rfl
  ·rw[List.count_cons_of_ne (by simpa using hc),spl,if_neg hc,h2];rw[h1]at ih;cases hk:t.count 32 with
   |zero=>
    rw[hk,Lib.splitK]at ih;injection ih with e1 e2;subst e1 e2;rfl
   |succ k=>
    have hi:=zgY (t:=t) (by omega);rw[hk,Lib.splitK,if_neg (by rw[beq_iff_eq];omega)]at ih;injection ih with e1 e2;have hx:Lib.index (c::t) [32]=Lib.index t [32]+1:=by rw[zgV hc,if_neg (by omega)]
    rw[Lib.splitK,hx,if_neg (by rw[beq_iff_eq];omega)];obtain⟨i,hi2⟩:=Int.eq_ofNat_of_zero_le hi;rw[hi2]at e1 e2⊢;subst e1 e2;rw[show((i:Int)+1).toNat=i+1 by omega,Int.toNat_natCast];show(c::t).take (i+1)::Lib.splitK [32] 0 k ((c::t).drop (i+1+1))=_;rw[List.take_succ_cons,List.drop_succ_cons];rfl
theorem zny (s:Bs):(Lib.splitB ⟨#[32]⟩ 0 (Lib.countB (bsB s) ⟨#[32]⟩) (bsB s)).map (fun x=>x.data.toList)=spl s []:=by
 rw[Lib.splitB_data]
 have e1:Lib.countB (bsB s) ⟨#[32]⟩=s.count 32:=by
  show Lib.count (bsB s).data.toList [32]=_;rw[Lib.count_one];simp[bsB]
 rw[e1];show Lib.splitK [32] 0 (s.count 32) (bsB s).data.toList=_;rw[show(bsB s).data.toList=s by simp[bsB],znz]
theorem znx (s:Bs):(Lib.splitB ⟨#[32]⟩ 0 (Lib.countB (bsB s) ⟨#[32]⟩) (bsB s))=(spl s []).map bsB:=by
 rw[←zny,List.map_map];conv=>lhs;rw[←List.map_id (Lib.splitB ⟨#[32]⟩ 0 (Lib.countB (bsB s) ⟨#[32]⟩) (bsB s))]
 exact List.map_congr_left fun x _=>by
  obtain⟨⟨l⟩⟩:=x;rfl
theorem znw (s:Bs):(spl s []).length=s.count 32+1:=by
 have:=Lib.splitB_all ⟨#[32]⟩ (by decide) 0 _ (bsB s) rfl;rw[znx,List.length_map]at this;rw[this];congr 1
 show Lib.count (bsB s).data.toList [32]=_;rw[Lib.count_one];simp[bsB]
theorem zjr {k n:Int} {l:List Ch} (h:(zi4 k n l).2=0):zi4 k n l=((k,n,zi2 k n l),0)∧vt k n=true∧zan 0 l∧(∀c∈l,c.1≤1099511627776∧vv k n c.2=true)∧(zi2 k n l).length≤4096:=by
 unfold zi4 at h⊢;split at h
 ·simp at h
 ·rename_i h1
  split at h
  ·rename_i h2;exact absurd h h2
  ·rename_i h2
   have h3:nzGo k n 0 l=0:=by simpa using h2
   obtain⟨h4,h5⟩:=zjn.1 h3;unfold zhZ at h⊢;split at h
   ·simp at h
   ·rename_i h6
    rw[if_neg h1,if_neg h2,if_neg h6];exact⟨rfl,by simpa using h1,h4,h5,by omega⟩
theorem zjq {k n:Int} {l:List Ch} (h1:vt k n=true) (h2:zan 0 l) (h3:∀c∈l,c.1≤1099511627776∧vv k n c.2=true) (h4:(zi2 k n l).length≤4096):zi4 k n l=((k,n,zi2 k n l),0):=by
 unfold zi4 zhZ;rw[if_neg (by simp[h1]),if_neg (by rw[zjn.2 ⟨h2,h3⟩];simp),if_neg (by omega)]
theorem zjs {k n:Int} {l:List Ch} (h:(zi4 k n l).2=0):sv k n (zi2 k n l)=true:=by
 obtain⟨-,h1,h2,h3,h4⟩:=zjr h;exact zoI.2 ⟨h1,h4,zoB k n l _ _ h2 h3⟩
theorem zjo {k n:Int} {l:List Ch} (h:sv k n l=true):zi4 k n l=((k,n,l),0):=by
 have:=zoF h;rw[zjq this.1 this.2.2.1 this.2.2.2 (by rw[zoL h];exact this.2.1),zoL h]
def zai:Int→List Gp→Prop
 |_,[]=>True
 |b,g::t=>b≤g.1∧g.1<g.2∧zai (g.2+1) t
def endG:Int→List Gp→Int
 |b,[]=>b
 |_,g::t=>endG (g.2+1) t
def inP (P:List Gp) (t:Int):Bool:=P.any fun g=>decide (g.1≤t)&&decide (t<g.2)
theorem zai.mono {a b:Int} (h:b≤a):∀{P:List Gp},zai a P→zai b P
 | [],_=>trivial
 |_::_,⟨h1,h2,h3⟩=>⟨by omega,h2,h3⟩
theorem zai.app {Q:List Gp}:∀{P:List Gp} {b:Int},zai b (P++Q)↔zai b P∧zai (endG b P) Q
 | [],_=>⟨fun h=>⟨trivial,h⟩,fun h=>h.2⟩
 |_::_,_=>⟨fun⟨h1,h2,h3⟩=>⟨⟨h1,h2,(zai.app.1 h3).1⟩,(zai.app.1 h3).2⟩,fun⟨⟨h1,h2,h3⟩,h4⟩=>⟨h1,h2,zai.app.2 ⟨h3,h4⟩⟩⟩
theorem zed (h:Gp):∀(P:List Gp) (b:Int),endG b (P++ [h])=h.2+1
 | [],_=>rfl
 |_::t,_=>zed h t _
theorem zai.mem:∀{P:List Gp} {b:Int},zai b P→∀g∈P,b≤g.1∧g.1<g.2
 | [],_,_,g,h=>by cases h
 |k::t,b,⟨h1,h2,h3⟩,g,h=>by
  rcases List.mem_cons.1 h with rfl|h
  ·exact⟨h1,h2⟩
  ·have:=zai.mem h3 g h;exact⟨by omega,this.2⟩
theorem zaG (g:Gp):zaD [] g=[g]:=rfl
theorem zaH (A:List Gp) (h g:Gp):zaD (A++ [h]) g=if g.1≤h.2 then A++ [(h.1,max h.2 g.2)]else A++ [h]++ [g]:=by
 unfold zaD;simp
theorem zno {α:Type} (l:List α):l=[]∨∃A h,l=A++ [h]:=by
 rcases List.eq_nil_or_concat l with h|⟨A,h,e⟩
 ·exact .inl h
 ·exact .inr ⟨A,h,by simpa using e⟩
structure Accd (b:Int) (acc:List Gp):Prop where
 ok:zai 0 acc
 low:∀g∈acc,g.1≤b
 most:∀g∈acc,g.2≤1099511627777
theorem Accd.add {b:Int} {acc:List Gp} (h:Accd b acc) {g:Gp} (h1:b≤g.1) (h0:0≤g.1) (h2:g.1<g.2) (h3:g.2≤1099511627777):Accd g.1 (zaD acc g)∧∀t,inP (zaD acc g) t=(inP acc t||(decide (g.1≤t)&&decide (t<g.2))):=by
 rcases zno acc with rfl|⟨A,k,rfl⟩
 ·rw[zaG];refine⟨⟨⟨h0,h2,trivial⟩,fun x hx=>?_,fun x hx=>?_⟩,fun t=>?_⟩
  ·rw[List.mem_singleton]at hx;subst hx;omega
  ·rw[List.mem_singleton]at hx;subst hx;omega
  ·simp[inP]
 ·obtain⟨ho,hl,hm⟩:=h;obtain⟨ho1,ho2,ho3,-⟩:=zai.app.1 ho;have hk1:=hl k (by simp);have hk2:=hm k (by simp);rw[zaH];split
  ·rename_i hc
   refine⟨⟨zai.app.2 ⟨ho1,ho2,by show k.1<max k.2 g.2;omega,trivial⟩,fun x hx=>?_,fun x hx=>?_⟩,fun t=>?_⟩
   ·rcases List.mem_append.1 hx with hx|hx
    ·have:=hl x (List.mem_append_left _ hx);omega
    ·rw[List.mem_singleton]at hx;subst hx;show k.1≤g.1;omega
   ·rcases List.mem_append.1 hx with hx|hx
    ·exact hm x (List.mem_append_left _ hx)
    ·rw[List.mem_singleton]at hx;subst hx;show max k.2 g.2≤_;omega
   ·unfold inP;rw[List.any_append,List.any_append];simp only[List.any_cons,List.any_nil,Bool.or_false,Bool.or_assoc];congr 1
    rw[Bool.eq_iff_iff];simp only[Bool.and_eq_true,Bool.or_eq_true,decide_eq_true_iff];omega
  ·rename_i hc
   refine⟨⟨zai.app.2 ⟨ho,by rw[zed];omega,h2,trivial⟩,fun x hx=>?_,fun x hx=>?_⟩,fun t=>?_⟩
   ·rcases List.mem_append.1 hx with hx|hx
    ·have:=hl x hx;omega
    ·rw[List.mem_singleton]at hx;subst hx;omega
   ·rcases List.mem_append.1 hx with hx|hx
    ·exact hm x hx
    ·rw[List.mem_singleton]at hx;subst hx;omega
   ·unfold inP;rw[List.any_append];simp
theorem zaE {acc:List Gp} {g:Gp} {en:Int} (h:∀x∈acc,x.2-1≤en):∀x∈zaD acc g,x.2-1≤max en (g.2-1):=by
 intro x hx;rcases zno acc with rfl|⟨A,k,rfl⟩
 ·rw[zaG,List.mem_singleton]at hx;subst hx;omega
 ·have hk:=h k (by simp);rw[zaH]at hx;split at hx
  ·rcases List.mem_append.1 hx with hx|hx
   ·have:=h x (List.mem_append_left _ hx);omega
   ·rw[List.mem_singleton]at hx;subst hx;show max k.2 g.2-1≤_;omega
  ·rcases List.mem_append.1 hx with hx|hx
   ·have:=h x hx;omega
   ·rw[List.mem_singleton]at hx;subst hx;omega
theorem zfn (b:Int) (acc:List Gp) (en:Int) (g:Gp) (t:List Gp):zfm b acc en (g::t)=if g.1<b∨g.1<0∨g.2≤g.1∨1099511627777<g.2 then none else zfm g.1 (zaD acc g) (max en (g.2-1)) t:=rfl
theorem zfq:∀(l:List Gp) (b:Int) (acc:List Gp) (en:Int) (P:List Gp) (en':Int),zfm b acc en l=some (P,en')→Accd b acc→(∀x∈acc,x.2-1≤en)→
 (∃c,Accd c P)∧(∀x∈P,x.2-1≤en')∧en≤en'∧(en'=en∨en'≤1099511627776)∧∀t,inP P t=(inP acc t||inP l t)
 | [],b,acc,en,P,en',h,ha,he=>by
   injection h with h;injection h with h1 h2;subst h1 h2;exact⟨⟨b,ha⟩,he,Int.le_refl _,.inl rfl,fun t=>by simp[inP]⟩
 |g::t,b,acc,en,P,en',h,ha,he=>by
  rw[zfn]at h;split at h
  ·cases h
  ·rename_i hc
   obtain⟨ha1,ha2⟩:=ha.add (g:=g) (by omega) (by omega) (by omega) (by omega);obtain⟨q1,q2,q3,q4,q5⟩:=zfq t _ _ _ _ _ h ha1 (zaE he);refine⟨q1,q2,by omega,by omega,fun u=>?_⟩;rw[q5,ha2,Bool.or_assoc];rfl
theorem zfo:∀(l:List Gp) (b:Int) (acc:List Gp) (en:Int),0≤b→zai b l→(∀x∈acc,x.2<b)→(∀x∈l,x.2-1≤en∧x.2≤1099511627777)→∀a,a≤b→zfm a acc en l=some (acc++l,en)
 | [],b,acc,en,_,_,_,_,a,_=>by simp[zfm]
 |g::t,b,acc,en,hb,⟨h1,h2,h3⟩,ha,he,a,hab=>by
  have hg:=he g (by simp);rw[zfn,if_neg (by omega)]
  have e:zaD acc g=acc++ [g]:=by
   rcases zno acc with rfl|⟨A,k,rfl⟩
   ·rfl
   ·have:=ha k (by simp);rw[zaH,if_neg (by omega)]
  rw[e,show max en (g.2-1)=en by omega,zfo t (g.2+1) (acc++ [g]) en (by omega) h3 (fun x hx=>?_) (fun x hx=>he x (List.mem_cons_of_mem _ hx)) g.1 (by omega)]
  ·simp
  ·rcases List.mem_append.1 hx with hx|hx
   ·have:=ha x hx;omega
   ·rw[List.mem_singleton]at hx;subst hx;omega
def inG (en:Int) (P:List Gp) (t:Int):Bool:=P.any fun g=>decide (g.1≤t)&&decide (t<zfj en g)
theorem ziF {a u:Int} {cs:List Ch} (h:zan a cs):zan a (cs.takeWhile fun c=>decide (c.1<u)):=h.sub (List.takeWhile_sublist _)
theorem ziA {a:Int} {p:Ch→Bool}:∀{cs:List Ch},zan a cs→zan a (cs.dropWhile p):=fun h=>h.sub (List.dropWhile_sublist _)
theorem ziC {a u:Int}:∀{cs:List Ch},zan a cs→zan u (cs.dropWhile fun c=>decide (c.1<u))
 | [],_=>trivial
 |c::cs,h=>by
  rw[List.dropWhile_cons];split
  ·exact ziC h.2
  ·rename_i hc;exact⟨by simpa using hc,h.2⟩
theorem ziB {a u:Int}:∀{cs:List Ch},zan a cs→zan (u+1) (cs.dropWhile fun c=>decide (c.1≤u))
 | [],_=>trivial
 |c::cs,h=>by
  rw[List.dropWhile_cons];split
  ·exact ziB h.2
  ·rename_i hc
   have:¬c.1≤u:=by simpa using hc
   exact⟨by omega,h.2⟩
theorem zo0 {u:Int} {cs:List Ch}:∀c∈cs.takeWhile (fun c=>decide (c.1<u)),c.1<u:=fun c hc=>by
 have:=List.all_eq_true.1 List.all_takeWhile c hc;simpa using this
theorem zoZ {u:Int} {cs:List Ch}:∀c∈cs.takeWhile (fun c=>decide (c.1≤u)),c.1≤u:=fun c hc=>by
 have:=List.all_eq_true.1 List.all_takeWhile c hc;simpa using this
theorem zh6 {p:Ch→Bool} {cs:List Ch} {c:Ch} (h:c∈cs.takeWhile p):c∈cs:=(List.takeWhile_sublist _).subset h
theorem zh5 {p:Ch→Bool} {cs:List Ch} {c:Ch} (h:c∈cs.dropWhile p):c∈cs:=(List.dropWhile_sublist _).subset h
theorem zp1 {v:ByteArray} {t u:Int} {cs:List Ch} {a:Int} (h:zan a cs) (ht:t<u):val v (cs.takeWhile fun c=>decide (c.1<u)) t=val v cs t:=by
 have e:cs=cs.takeWhile (fun c=>decide (c.1<u))++cs.dropWhile (fun c=>decide (c.1<u)):=by rw[List.takeWhile_append_dropWhile]
 conv=>rhs;rw[e]
 rw[zpY,zp6 (ziC h) ht]
theorem zpW {v:ByteArray} {t u w:Int} {cs:List Ch} {a:Int} (h:zan a cs) (hu:w≤u) (ht:u≤t):val (val v cs u) (((cs.dropWhile fun c=>decide (c.1<w))).dropWhile fun c=>decide (c.1≤u)) t=val v cs t:=by
 have e:cs=cs.takeWhile (fun c=>decide (c.1<w))++cs.dropWhile (fun c=>decide (c.1<w)):=by rw[List.takeWhile_append_dropWhile]
 generalize hA:cs.takeWhile (fun c=>decide (c.1<w))=A at e;have hA1:∀c∈A,c.1<w:=by subst hA;exact zo0
 have hnd:=ziA (p:=fun c=>decide (c.1<w)) h;generalize cs.dropWhile (fun c=>decide (c.1<w))=B at e hnd⊢;have e2:B=B.takeWhile (fun c=>decide (c.1≤u))++B.dropWhile (fun c=>decide (c.1≤u)):=by rw[List.takeWhile_append_dropWhile]
 have hnd2:=ziB (u:=u) hnd;generalize hC:B.takeWhile (fun c=>decide (c.1≤u))=C at e2;have hC1:∀c∈C,c.1≤u:=by subst hC;exact zoZ
 generalize B.dropWhile (fun c=>decide (c.1≤u))=D at e2 hnd2⊢;subst e2 e;have e1:val v (A++(C++D)) u=val v (A++C) u:=by rw[←List.append_assoc,zpY,zp6 hnd2 (by omega)]
 have e2:val v (A++C) t=val v (A++C) u:=zpX _ (fun c hc=>by
  rcases List.mem_append.1 hc with hc|hc
  ·have:=hA1 c hc;omega
  ·exact hC1 c hc) ht
 rw[e1,←e2,←List.append_assoc,←zpY]
theorem zjv (x:ByteArray) (at_:Int→ByteArray) (en:Int) (g:Gp) (P:List Gp) (cs:List Ch):offL x at_ en (g::P) cs=cs.takeWhile (fun c=>decide (c.1<g.1))++((g.1,x)::((if zfj en g≤1099511627776 then [(zfj en g,at_ (zfj en g))]else [])++
 offL x at_ en P ((cs.dropWhile fun c=>decide (c.1<g.1)).dropWhile fun c=>decide (c.1≤zfj en g)))):=rfl
theorem zfk {en:Int} {g:Gp} (h:g.1<g.2) (h2:g.2≤1099511627777):g.1<zfj en g∧g.2≤zfj en g:=by unfold zfj;split<;>omega
theorem ziE {a:Int} {c:Ch} {l:List Ch} (h1:a≤c.1) (h2:zan c.1 l):zan a (c::l):=⟨h1,h2⟩
theorem zjz (x:ByteArray) (at_:Int→ByteArray) (en:Int) (hen:en≤1099511627776):∀(P:List Gp) (cs:List Ch) (a b:Int),a≤b→zai b P→(∀g∈P,g.2≤1099511627777∧g.2-1≤en)→zan a cs→zan a (offL x at_ en P cs)
 | [],cs,a,b,_,_,_,h=>h
 |g::P,cs,a,b,hab,⟨h1,h2,h3⟩,hm,h=>by
  have hg:=hm g (by simp);obtain⟨hg1,hg2⟩:=zfk (en:=en) h2 hg.1;rw[zjv];refine zan.append (b:=g.1) (ziF h) (fun c hc=>by have:=zo0 c hc;omega) (by omega) ⟨Int.le_refl _,?_⟩
  have hr:zan (zfj en g) (offL x at_ en P ((cs.dropWhile fun c=>decide (c.1<g.1)).dropWhile fun c=>decide (c.1≤zfj en g))):=by
   rcases(show zfj en g=g.2∨(zfj en g=1099511627777∧g.2=en+1)by unfold zfj;split<;>omega)with e|⟨e1,e2⟩
   ·exact zjz x at_ en hen P _ (zfj en g) (g.2+1) (by omega) h3 (fun k hk=>hm k (List.mem_cons_of_mem _ hk)) ((ziB (ziA h)).mono (by omega))
   ·cases P with
    |nil=>exact(ziB (ziA h)).mono (by omega)
    |cons k P=>
     have hk:=hm k (by simp);have:=h3.1;have:=h3.2.1;omega
  split
  ·exact⟨by show g.1≤zfj en g;omega,hr⟩
  ·exact hr.mono (by omega)
theorem zjy (x:ByteArray) (at_:Int→ByteArray) (en:Int) (hen:en≤1099511627776):∀(P:List Gp) (cs:List Ch) (c:Ch),c∈offL x at_ en P cs→c∈cs∨(∃g∈P,c=(g.1,x))∨∃g∈P,c=(zfj en g,at_ (zfj en g))∧zfj en g≤1099511627776
 | [],_,_,h=> .inl h
 |g::P,cs,c,h=>by
  rw[zjv]at h;rcases List.mem_append.1 h with h|h
  ·exact .inl (zh6 h)
  rcases List.mem_cons.1 h with h|h
  ·exact .inr (.inl ⟨g,by simp,h⟩)
  rcases List.mem_append.1 h with h|h
  ·split at h
   ·rename_i h6
    rw[List.mem_singleton]at h;exact .inr (.inr ⟨g,by simp,h,h6⟩)
   ·cases h
  ·rcases zjy x at_ en hen P _ c h with h|⟨k,hk,e⟩|⟨k,hk,e⟩
   ·exact .inl (zh5 (zh5 h))
   ·exact .inr (.inl ⟨k,List.mem_cons_of_mem _ hk,e⟩)
   ·exact .inr (.inr ⟨k,List.mem_cons_of_mem _ hk,e⟩)
theorem zgf (en:Int) (g:Gp) (P:List Gp) (t:Int):inG en (g::P) t=((decide (g.1≤t)&&decide (t<zfj en g))||inG en P t):=rfl
theorem zgg {en t b:Int} (h:t<b):∀{P:List Gp},zai b P→inG en P t=false:=fun{P} hP=>by
 unfold inG;rw[List.any_eq_false];intro g hg;have:=hP.mem g hg;simp;omega
theorem zjC (x:ByteArray) (at_:Int→ByteArray) (en:Int) (hen:en≤1099511627776) (t:Int) (ht:t≤1099511627776):∀(P:List Gp) (cs:List Ch) (v:ByteArray) (a b:Int),a≤b→zai b P→(∀g∈P,g.2≤1099511627777∧g.2-1≤en)→zan a cs→
 (∀g∈P,zfj en g≤1099511627776→at_ (zfj en g)=val v cs (zfj en g))→val v (offL x at_ en P cs) t=if inG en P t=true then x else val v cs t
 | [],_,_,_,_,_,_,_,_,_=>rfl
 |g::P,cs,v,a,b,hab,⟨h1,h2,h3⟩,hm,h,hat=>by
  have hg:=hm g (by simp);obtain⟨hg1,hg2⟩:=zfk (en:=en) h2 hg.1
  have hP:zfj en g=g.2∨(zfj en g=1099511627777∧P=[]):=by
   rcases(show zfj en g=g.2∨(zfj en g=1099511627777∧g.2=en+1)by unfold zfj;split<;>omega)with e|⟨e1,e2⟩
   ·exact .inl e
   ·cases P with
    |nil=>exact .inr ⟨e1,rfl⟩
    |cons k P=>
     have hk:=hm k (by simp);have:=h3.1;have:=h3.2.1;omega
  have hC:zan (zfj en g) ((cs.dropWhile fun c=>decide (c.1<g.1)).dropWhile fun c=>decide (c.1≤zfj en g)):=(ziB (ziA h)).mono (by omega)
  have hr:zan (zfj en g) (offL x at_ en P ((cs.dropWhile fun c=>decide (c.1<g.1)).dropWhile fun c=>decide (c.1≤zfj en g))):=by
   rcases hP with e|⟨e1,rfl⟩
   ·exact zjz x at_ en hen P _ (zfj en g) (g.2+1) (by omega) h3 (fun k hk=>hm k (List.mem_cons_of_mem _ hk)) hC
   ·exact hC
  rw[zjv,zpY,zgf]
  have hmid:zan (zfj en g) ((if zfj en g≤1099511627776 then [(zfj en g,at_ (zfj en g))]else [])++offL x at_ en P ((cs.dropWhile fun c=>decide (c.1<g.1)).dropWhile fun c=>decide (c.1≤zfj en g))):=by
   split
   ·exact⟨Int.le_refl _,hr⟩
   ·exact hr
  by_cases q1:t<g.1
  ·rw[zp6 (a:=g.1) (ziE (c:=(g.1,x)) (Int.le_refl _) (hmid.mono (show(g.1,x).1≤zfj en g by show g.1≤zfj en g;omega))) q1,zp1 h q1,show decide (g.1≤t)=false by simp;omega,Bool.false_and,Bool.false_or,zgg (b:=g.2+1) (by omega) h3];rfl
  ·rw[zp0,if_pos (show(g.1,x).1≤t by show g.1≤t;omega)];by_cases q2:t<zfj en g
   ·rw[zp6 hmid q2,show decide (g.1≤t)=true by simp;omega,show decide (t<zfj en g)=true by simp;omega];rfl
   ·have e:zfj en g=g.2:=by rcases hP with e|⟨e1,-⟩<;>omega
    rw[if_pos (by omega),List.cons_append,List.nil_append,zp0,if_pos (show(zfj en g,at_ (zfj en g)).1≤t by show zfj en g≤t;omega),hat g (by simp) (by omega),show decide (t<zfj en g)=false by simp;omega,Bool.and_false,Bool.false_or];rw[zjC x at_ en hen t ht P _ (val v cs (zfj en g)) (zfj en g) (g.2+1) (by omega) h3 (fun k hk=>hm k (List.mem_cons_of_mem _ hk)) hC ?_]
    ·rw[zpW h (by omega) (by omega)]
    ·intro k hk hk6;have hk0:=hm k (List.mem_cons_of_mem _ hk);have hk1:=h3.mem k hk;have hk2:=(zfk (en:=en) hk1.2 hk0.1).1;rw[hat k (List.mem_cons_of_mem _ hk) hk6,zpW h (by omega) (by omega)]
def zku (l:List Ch) (from_ to_:Int):List Ch:=l.filter fun c=>decide (from_≤c.1)&&decide (c.1≤to_)
end Go.Proofs.YtbiadennhnokhaaGreatDoor
