import Derived.Test.YtcdekelomkcahaaGreatDoorZ00
import Derived.Test.YtcdekelomkcahaaGreatDoorZ21
set_option maxRecDepth 100000
set_option maxHeartbeats 16000000
namespace Go.Proofs.YtcdekelomkcahaaGreatDoor
def dKey (x:Dcl):Int×Bs×Bool×Int×Int:=(x.sc,x.nm,x.rg,x.mb,x.lb)
structure VV (n:Nat) (x:Dcl):Prop where
 sc: -1≤x.sc∧x.sc<(n:Int)
 nm:zhz x.nm=true
 ty:0≤x.ty∧x.ty≤18
 sg:x.sg=0
 r0:x.rg=false→x.mb=0∧x.lb=0
 r1:x.rg=true→x.kind=0∧zba x.mb=true∧zba x.lb=true∧zpX x.mb x.lb=x.width
 cd:zb1 x.code=true
 kd:x.kind=zgo x.ty
 w0:x.kind=0→1≤x.width∧x.width≤128
 w1:x.kind≠0→x.width=0
structure VD (d:DD):Prop where
 sc: -15≤d.sc∧d.sc≤2
 dt:zp2 d.dt=true
 vn:zp2 d.vn=true
 cm:zp2 d.cm=true
 sn:d.S.length≤32
 sm:∀s∈d.S,zhz s.1=true∧0≤s.2.1∧s.2.1≤4
 sk:(d.S.map zlM).Nodup
 sp:preS d.S=List.range d.S.length
 sf:Fst (parS d.S) d.S.length
 su:∀i,i<d.S.length→(upL d.S (i+1) (i:Int)).length≤8
 dn:d.D.length≤128
 dk:(d.D.map dKey).Nodup
 ds:d.D.Pairwise fun x y=>x.sc≤y.sc
 dc:zb5 d.D []≤64
 dv:∀x∈d.D,VV d.S.length x
 dm:∀x∈d.D,∀y∈d.D,x.code=y.code→x.kind=y.kind∧x.width=y.width
def zmr:List Dcl→List Bs→List Bs
 | [],s=>s
 |x::l,s=>zmr l (if x.code∈s then s else s++ [x.code])
theorem zb6:∀(l:List Dcl) (s:List Bs),zb5 l s=(zmr l s).length
 | [],_=>rfl
 |_::l,_=>zb6 l _
theorem zmv:∀(l m:List Dcl) (s:List Bs),zmr (l++m) s=zmr m (zmr l s)
 | [],_,_=>rfl
 |_::l,m,_=>zmv l m _
theorem zmz:∀{l:List Dcl} {s:List Bs} {c:Bs},c∈zmr l s↔c∈s∨∃x∈l,x.code=c
 | [],s,c=>by simp[zmr]
 |x::l,s,c=>by
  show c∈zmr l (if x.code∈s then s else s++ [x.code])↔_;rw[zmz];split
  ·rename_i h
   constructor
   ·rintro(h1|⟨y,h1,h2⟩)
    ·exact .inl h1
    ·exact .inr ⟨y,List.mem_cons_of_mem _ h1,h2⟩
   ·rintro(h1|⟨y,h1,h2⟩)
    ·exact .inl h1
    ·rcases List.mem_cons.1 h1 with rfl|h1
     ·exact .inl (h2▸h)
     ·exact .inr ⟨y,h1,h2⟩
  ·rw[List.mem_append,List.mem_singleton];constructor
   ·rintro((h1|rfl)|⟨y,h1,h2⟩)
    ·exact .inl h1
    ·exact .inr ⟨x,List.mem_cons_self,rfl⟩
    ·exact .inr ⟨y,List.mem_cons_of_mem _ h1,h2⟩
   ·rintro(h1|⟨y,h1,h2⟩)
    ·exact .inl (.inl h1)
    ·rcases List.mem_cons.1 h1 with rfl|h1
     ·exact .inl (.inr h2.symm)
     ·exact .inr ⟨y,h1,h2⟩
theorem zn2 (c:List Wd):(txt c).length=c.length:=by unfold txt;rw[List.length_map]
theorem zoo {S:List Sc} (hF:Fst (parS S) S.length) {a:Nat} (ha:a≤S.length):∀(f:Nat) (q:Int),q<(a:Int)→upL (S.take a) f q=upL S f q
 |0,_,_=>rfl
 |f+1,q,h=>by
  unfold upL;by_cases h0:q<0
  ·rw[if_pos h0,if_pos h0]
  ·rw[if_neg h0,if_neg h0];have hq:q.toNat<a:=by omega
   have e:(S.take a)[q.toNat]? =S[q.toNat]? :=List.getElem?_take_of_lt hq;rw[e];have hql:q.toNat<S.length:=by omega
   rw[List.getElem?_eq_getElem hql];dsimp only;have hp:=(hF q.toNat hql).2
   have:parS S q.toNat=S[q.toNat].2.2:=by
    unfold parS List.getD;rw[List.getElem?_eq_getElem hql];rfl
   rw[this]at hp;rw[zoo hF ha f _ (by omega)]
theorem zjD {S:List Sc} {a:Nat} (h:a<S.length):parS S a=S[a].2.2:=by
 unfold parS List.getD;rw[List.getElem?_eq_getElem h];rfl
theorem zlZ:∀i:Fin 18,zgc (zp1 (zlV.getD i.val []))=zlV.getD i.val []∧zlR (zlV.getD i.val [])=((i.val:Int)-15,0)∧zlV.getD i.val []≠ []∧∀w∈zp1 (zlV.getD i.val []),w≠sEnd:=by decide+kernel
theorem zlW {n:Int} (h: -15≤n∧n≤2):zgc (zp1 (zlU n))=zlU n∧zlR (zlU n)=(n,0)∧zlU n≠ []∧∀w∈zp1 (zlU n),w≠sEnd:=by
 have:=zlZ ⟨(n+15).toNat,by omega⟩;dsimp only at this;unfold zlU;rw[if_neg (by omega)];rwa [show(((n+15).toNat:Nat):Int)-15=n by omega]at this
def zmp (s:List Bs) (c:Bs):List Bs:=if c∈s then s else s++ [c]
theorem zmq (s:List Bs) (c:Bs):c∈zmp s c:=by
 unfold zmp;split
 ·assumption
 ·simp
def vrD (x:Dcl) (k:Int):Vr:=⟨x.nm,x.ty,x.sc,k,x.rg,x.mb,x.lb⟩
def zoY:List Dcl→List Bs→List Vr
 | [],_=> []
 |x::l,s=>vrD x ((zmp s x.code).idxOf x.code:Nat)::zoY l (zmp s x.code)
theorem zo0:∀(l:List Dcl) (s:List Bs),(zoY l s).length=l.length
 | [],_=>rfl
 |x::l,s=>by rw[zoY,List.length_cons,List.length_cons,zo0 l]
theorem zo1 {β:Type} (g:Vr→β) (g':Dcl→β) (hg:∀x k,g (vrD x k)=g' x):∀(l:List Dcl) (s:List Bs),(zoY l s).map g=l.map g'
 | [],_=>rfl
 |x::l,s=>by rw[zoY,List.map_cons,List.map_cons,hg,zo1 g g' hg l]
theorem zo3:∀(l:List Dcl) (s:List Bs),∀v∈zoY l s,0≤v.sg
 | [],_,v,h=>by cases h
 |x::l,s,v,h=>by
  rcases List.mem_cons.1 h with rfl|h
  ·exact Int.natCast_nonneg _
  ·exact zo3 l _ v h
theorem zo2:∀(l:List Dcl) (s:List Bs),seqN s.length (zoY l s)=some (zmr l s).length
 | [],_=>rfl
 |x::l,s=>by
  have ih:=zo2 l (zmp s x.code);show(if(s.length:Int)<((zmp s x.code).idxOf x.code:Nat)then none else if(((zmp s x.code).idxOf x.code:Nat):Int)=(s.length:Int)then seqN (s.length+1) (zoY l (zmp s x.code))else seqN s.length (zoY l (zmp s x.code)))=some (zmr l (zmp s x.code)).length;by_cases h:x.code∈s
  ·have e:zmp s x.code=s:=if_pos h;rw[e]at ih⊢;have:=List.idxOf_lt_length_of_mem h;rw[if_neg (by omega),if_neg (by omega)];exact ih
  ·have e:zmp s x.code=s++ [x.code]:=if_neg h;rw[e]at ih⊢
   have:(s++ [x.code]).idxOf x.code=s.length:=by
    rw[List.idxOf_append,if_neg h];simp
   rw[this,if_neg (by omega),if_pos rfl];rw[List.length_append]at ih;exact ih
def oldD (D:List Dcl) (x:Dcl):Dcl:=(D.find? fun y=>decide (y.code=x.code)).getD x
def okV (o x:Dcl):Bool:=decide (x.sg=0)&&zb1 x.code&&decide (x.kind=zgo x.ty)&&vt x.kind x.width&&(!x.rg||(decide (x.kind=0)&&decide (zpX x.mb x.lb=x.width)))&&decide (o.kind=x.kind)&&decide (o.width=x.width)
def hOk (S:List Sc) (V:List Vr):Bool:=decide (zbF S V=0)&&decide (scF S=S)&&decide ((vrF S V).1=V)
def zoN (d:DD):Bool:=decide (-15≤d.sc)&&decide (d.sc≤2)&&zp2 d.dt&&zp2 d.vn&&zp2 d.cm&&d.D.all (fun x=>okV (oldD d.D x) x)&&decide ((zmr d.D []).length≤64)&&hOk d.S (zoY d.D [])
theorem ziB {D:List Dcl} {x:Dcl} (hx:x∈D):oldD D x∈D∧(oldD D x).code=x.code:=by
 unfold oldD;cases h:D.find? fun y=>decide (y.code=x.code)with
 |none=>exact⟨hx,rfl⟩
 |some y=>exact⟨List.mem_of_find?_eq_some h,of_decide_eq_true (List.find?_some (p:=fun y:Dcl=>decide (y.code=x.code)) h)⟩
theorem ziA {D:List Dcl} {x y:Dcl} (hx:x∈D) (h:x.code=y.code):oldD D x=oldD D y:=by
 unfold oldD;rw[h];cases hf:D.find? fun z=>decide (z.code=y.code)with
 |some z=>rfl
 |none=>exact absurd (List.find?_eq_none.1 hf x hx) (by simp[h])
theorem zeD {S:List Sc} {V:List Vr}:hOk S V=true↔ ∃m,HierR S V m:=by
 unfold hOk;rw[Bool.and_eq_true,Bool.and_eq_true,decide_eq_true_iff,decide_eq_true_iff,decide_eq_true_iff];constructor
 ·rintro⟨⟨h1,h2⟩,h3⟩;have h4:=(zi9 h1).2.2;rw[h2,h3]at h4;refine⟨(vrF S V).2.length,ze5.2 ?_⟩;unfold zi8;rw[if_neg (by rw[h1];simp),h2,h4,zli]
 ·rintro⟨m,h⟩;have h0:=h.c;have h1:=ze5.1 h;unfold zi8 at h1;rw[if_neg (by rw[h0];simp)]at h1;injection h1 with h1 h2;injection h2 with h2 _;exact⟨⟨h0,h1⟩,h2⟩
theorem zpA {k n:Int}:vt k n=true↔(k=0∧1≤n∧n≤128)∨((k=1∨k=2∨k=3)∧n=0):=by
 unfold vt;simp only[Bool.or_eq_true,Bool.and_eq_true,decide_eq_true_iff];omega
theorem zgp (t:Int):zgo t=0∨zgo t=1∨zgo t=2∨zgo t=3:=by
 unfold zgo;split
 ·simp
 ·split
  ·simp
  ·split<;>simp
theorem ziz {o x:Dcl}:okV o x=true↔x.sg=0∧zb1 x.code=true∧x.kind=zgo x.ty∧vt x.kind x.width=true∧(x.rg=true→x.kind=0∧zpX x.mb x.lb=x.width)∧o.kind=x.kind∧o.width=x.width:=by
 unfold okV;simp only[Bool.or_eq_true,Bool.and_eq_true,decide_eq_true_iff,Bool.not_eq_true'];constructor
 ·rintro⟨⟨⟨⟨⟨⟨h1,h2⟩,h3⟩,h4⟩,h5⟩,h6⟩,h7⟩;refine⟨h1,h2,h3,h4,fun h=>?_,h6,h7⟩;rcases h5 with h5|h5
  ·rw[h5]at h;cases h
  ·exact h5
 ·rintro⟨h1,h2,h3,h4,h5,h6,h7⟩;refine⟨⟨⟨⟨⟨⟨h1,h2⟩,h3⟩,h4⟩,?_⟩,h6⟩,h7⟩;cases h:x.rg with
  |false=>exact .inl rfl
  |true=>exact .inr (h5 h)
theorem zpY {m l:Int} (h:zpX m l≠0):zba m=true∧zba l=true:=by
 unfold zpX at h;by_cases hb:(zba m&&zba l)=true
 ·rwa [Bool.and_eq_true]at hb
 ·rw[if_neg hb]at h;exact absurd rfl h
theorem zoP {d:DD}:zoN d=true↔VD d:=by
 unfold zoN;simp only[Bool.and_eq_true,decide_eq_true_iff,List.all_eq_true,ziz,zeD];have key:(zoY d.D []).map zpk=d.D.map dKey:=zo1 _ _ (fun _ _=>rfl) _ _;constructor
 ·rintro⟨⟨⟨⟨⟨⟨⟨h1,h2⟩,h3⟩,h4⟩,h5⟩,h6⟩,h7⟩,m,h8⟩;have hc:=zbN.1 h8.c;have hF:=zc0 hc.d;have hV:=zc6 hc.d
  have hp:preS d.S=List.range d.S.length:=by
   have h9:=ze5.1 h8;unfold zi8 at h9;rw[if_neg (by rw[h8.c];simp)]at h9;injection h9 with h9 _;have:=zkc hF;rwa [h9]at this
  have fromV:∀{p:Dcl→Prop} (q:Vr→Prop),(∀v∈zoY d.D [],q v)→(∀x k,q (vrD x k)→p x)→∀x∈d.D,p x:=fun{p} q hq hpq x hx=>by
   have e:(zoY d.D []).map (fun v=>(v.nm,v.ty,v.sc,v.rg,v.mb,v.lb))=d.D.map (fun x=>(x.nm,x.ty,x.sc,x.rg,x.mb,x.lb)):=zo1 _ _ (fun _ _=>rfl) _ _
   have hx':(x.nm,x.ty,x.sc,x.rg,x.mb,x.lb)∈(zoY d.D []).map (fun v=>(v.nm,v.ty,v.sc,v.rg,v.mb,v.lb)):=by
    rw[e];exact List.mem_map.2 ⟨x,hx,rfl⟩
   obtain⟨v,hv,he⟩:=List.mem_map.1 hx';simp only[Prod.mk.injEq]at he;obtain⟨e1,e2,e3,e4,e5,e6⟩:=he;have:=hq v hv;refine hpq x v.sg ?_
   have ev:v=vrD x v.sg:=by
    obtain⟨a1,a2,a3,a4,a5,a6,a7⟩:=v;dsimp only at e1 e2 e3 e4 e5 e6;subst e1 e2 e3 e4 e5 e6;rfl
   rwa [←ev]
  have g1:∀x∈d.D,-1≤x.sc∧x.sc<(d.S.length:Int):=fromV (fun v=> -1≤v.sc∧v.sc<(d.S.length:Int)∧0≤v.sg) hV fun x k h=>⟨h.1,h.2.1⟩;have g2:∀x∈d.D,zhz x.nm=true:=fromV (fun v=>zhz v.nm=true) hc.nv fun x k h=>h;have g3:∀x∈d.D,0≤x.ty∧x.ty≤18:=fromV (fun v=>0≤v.ty∧v.ty≤18) hc.tv fun x k h=>h;have g4:∀x∈d.D,zkJ (vrD x 0)=false:=fromV (fun v=>zkJ v=false) hc.r fun x k h=>h;refine{sc:=⟨h1,h2⟩,dt:=h3,vn:=h4,cm:=h5,sn:=hc.n,sm:=fun s hs=>⟨hc.ns s hs,hc.ts s hs⟩,sk:=hc.ks,sp:=hp,sf:=hF,su:=hc.u,dn:=?_,dk:=?_,ds:=?_,dc:=?_,dv:=fun x hx=>?_,dm:=fun x hx y hy hxy=>?_}
  ·have:=hc.m;rwa [zo0]at this
  ·have:=hc.kv;rwa [key]at this
  ·have h9:=h8.s;unfold Srt at h9;have:=(List.pairwise_map (f:=fun v:Vr=>v.sc) (R:=fun a b:Int=>a≤b)).2 h9;rw[zo1 (fun v:Vr=>v.sc) (fun x:Dcl=>x.sc) (fun _ _=>rfl)]at this;exact List.pairwise_map.1 this
  ·rw[zb6];exact h7
  ·obtain⟨t1,t2,t3,t4,t5,t6,t7⟩:=h6 x hx;have t8:=g4 x hx;unfold zkJ vrD at t8;dsimp only at t8;refine{sc:=g1 x hx,nm:=g2 x hx,ty:=g3 x hx,sg:=t1,r0:=fun hr=>?_,r1:=fun hr=>?_,cd:=t2,kd:=t3,w0:=fun hk=>?_,w1:=fun hk=>?_}
   ·rw[hr,if_neg (by simp)]at t8;simpa using t8
   ·rw[if_pos hr]at t8;obtain⟨b1,b2⟩:=zpY (of_decide_eq_false t8);exact⟨(t5 hr).1,b1,b2,(t5 hr).2⟩
   ·have:=zpA.1 t4;omega
   ·have:=zpA.1 t4;omega
  ·have a:=(h6 x hx).2.2.2.2.2;have b:=(h6 y hy).2.2.2.2.2;rw[ziA hx hxy]at a;exact⟨a.1.symm.trans b.1,a.2.symm.trans b.2⟩
 ·intro h
  have toV:∀{q:Vr→Prop} (p:Dcl→Prop),(∀x∈d.D,p x)→(∀x k,p x→q (vrD x k))→∀v∈zoY d.D [],q v:=fun{q} p hp hpq=>by
   have:∀(l:List Dcl) (s:List Bs),(∀x∈l,p x)→∀v∈zoY l s,q v:=fun l=>by
    induction l with
    |nil=>intro s _ v hv;cases hv
    |cons x l ih=>
     intro s hl v hv;rcases List.mem_cons.1 hv with rfl|hv
     ·exact hpq _ _ (hl x List.mem_cons_self)
     ·exact ih _ (fun y hy=>hl y (List.mem_cons_of_mem _ hy)) v hv
   exact this d.D [] hp
  refine⟨⟨⟨⟨⟨⟨⟨h.sc.1,h.sc.2⟩,h.dt⟩,h.vn⟩,h.cm⟩,fun x hx=>?_⟩,?_⟩,(zmr d.D []).length,?_⟩
  ·have v:=h.dv x hx;obtain⟨o1,o2⟩:=ziB hx;have o3:=h.dm _ o1 x hx o2;refine⟨v.sg,v.cd,v.kd,zpA.2 ?_,fun hr=>⟨(v.r1 hr).1,(v.r1 hr).2.2.2⟩,o3.1,o3.2⟩;by_cases hk:x.kind=0
   ·have:=v.w0 hk;omega
   ·have:=v.w1 hk;have:=zgp x.ty;rw[←v.kd]at this;omega
  ·have:=h.dc;rwa [zb6]at this
  ·have hV:∀v∈zoY d.D [],-1≤v.sc∧v.sc<(d.S.length:Int):=toV (fun x=>VV d.S.length x) h.dv fun x k v=>v.sc
   have hC:zbF d.S (zoY d.D [])=0:=zbN.2
    {n:=h.sn,m:=by rw[zo0];exact h.dn,d:=zc2 h.sf fun v hv=>⟨(hV v hv).1,(hV v hv).2,zo3 _ _ v hv⟩,u:=h.su
     ns:=fun s hs=>(h.sm s hs).1,nv:=toV (fun x=>VV d.S.length x) h.dv fun x k v=>v.nm
     ts:=fun s hs=>(h.sm s hs).2,tv:=toV (fun x=>VV d.S.length x) h.dv fun x k v=>v.ty
     r:=toV (fun x=>VV d.S.length x) h.dv fun x k v=>by
      unfold zkJ vrD;dsimp only;cases hr:x.rg with
      |false=>
       rw[if_neg (by simp),(v.r0 hr).1,(v.r0 hr).2];rfl
      |true=>
       have t:=v.r1 hr;have t2:=v.w0 t.1;rw[if_pos rfl,decide_eq_false];omega
     ks:=h.sk,kv:=by rw[key];exact h.dk}
   refine ze5.2 ?_;have e1:=zlJ h.sf h.sp;have e2:=zpj (fun v hv=>(hV v hv).2) h.sp;have e3:=zmE (zoY d.D []) 0 (zmr d.D []).length (zo3 _ _) (zo2 d.D [])
   have e4:Srt (fun v:Vr=>v.sc) (zoY d.D []):=by
    unfold Srt;have:=(List.pairwise_map (f:=fun x:Dcl=>x.sc) (R:=fun a b:Int=>a≤b)).2 h.ds;rw[←zo1 (fun v:Vr=>v.sc) (fun x:Dcl=>x.sc) (fun _ _=>rfl) d.D []]at this;exact List.pairwise_map.1 this
   unfold zi8 vrF vr2;rw[if_neg (by rw[hC];simp),e1,e2,zfN e4];rw[show rgI 0=[]from rfl]at e3;rw[e3]
open Go.RowKit
set_option linter.unusedSimpArgs false
theorem zcb (n:Int) (w:World) (hg:Glob w) (h: -32768≤n∧n≤999999999):Calls Tryz.prog 73 #[.int .i64 n] w fun e w'=>e=.returned (.string (bsB (Lib.itoa n)))∧Below w.heap.size w w':=by
 refine(Tryz.strconv_Itoa n (by omega) (by omega) w hg).mono ?_;rintro e w' ⟨rfl,kk,os,rfl⟩;exact⟨rfl,Lib.below_grow _ _ (Nat.le_refl _) kk os⟩
theorem zfY (n:Int) (h: -32768≤n∧n≤999999999):(bsB (Lib.itoa n)).size≤100:=by
 rw[zbk];have:=Lib.itoa_length_le n (by omega) (by omega);omega
theorem zhO (m l:Int) (w:World) (hg:Glob w):Calls Tryz.prog 128 #[.int .i64 m,.int .i64 l] w fun e w'=>e=.returned (.string (bsB (if(zba m&&zba l)=true then rngT m l else [])))∧Below w.heap.size w w':=by
 have HM:=lhd (zhX m w);have HL:=lhd (zhX l w);cases h1:zba m
 ·rw[h1]at HM;rw[Bool.false_and,if_neg (by simp)];go_enter Tryz.func128,Tryz.ntmps128;go_wp2_with fail;refine HM.out.mono ?_;rintro e w' ⟨rfl,rfl⟩;go_wp2_with fail;go_ret;exact⟨rfl,Below.refl _ _⟩
 cases h2:zba l
 ·rw[h1]at HM;rw[h2]at HL;rw[Bool.and_false,if_neg (by simp)];go_enter Tryz.func128,Tryz.ntmps128;go_wp2_with fail;refine HM.out.mono ?_;rintro e w' ⟨rfl,rfl⟩;go_wp2_with fail;refine HL.out.mono ?_;rintro e w' ⟨rfl,rfl⟩;go_wp2_with fail;go_ret;exact⟨rfl,Below.refl _ _⟩
 have b1:=zbc h1;have b2:=zbc h2;rw[h1]at HM;rw[h2]at HL;have HI:=lhd (zcb m w hg (by omega));have z1:=zfY m (by omega);have z2:=zfY l (by omega);have HI2:=lhd (fun(W:World) (hb:Below w.heap.size w W)=>zcb l W (hg.below hb) (by omega));rw[Bool.true_and,if_pos rfl];by_cases h3:m=l
 ·subst h3
  have HR:=lhd (show(⟨#[91]⟩++bsB (Lib.itoa m)++⟨#[93]⟩:ByteArray)=bsB (rngT m m)by
   unfold rngT;rw[if_pos rfl];apply zaV;simp[bsB,ByteArray.data_append])
  generalize bsB (Lib.itoa m)=z at*;clear h1 h2;go_enter Tryz.func128,Tryz.ntmps128;go_wp2_with fail;refine HM.out.mono ?_;rintro e w' ⟨rfl,rfl⟩;go_wp2_with fail;refine HL.out.mono ?_;rintro e w' ⟨rfl,rfl⟩;go_wp2_with fail;refine HI.out.mono ?_;rintro e w' ⟨rfl,hb⟩;have HB:=lhd hb;clear hb;go_wp2_with fail;go_ret;exact⟨by rw[←HR.out];rfl,HB.out⟩
 ·have hb3:(m==l)=false:=by rw[beq_eq_false_iff_ne];exact h3
  have HR:=lhd (show(⟨#[91]⟩++bsB (Lib.itoa m)++⟨#[58]⟩++bsB (Lib.itoa l)++⟨#[93]⟩:ByteArray)=bsB (rngT m l)by
   unfold rngT;rw[if_neg h3];apply zaV;simp[bsB,ByteArray.data_append])
  generalize bsB (Lib.itoa m)=z at*;generalize bsB (Lib.itoa l)=y at*;clear h1 h2 h3;go_enter Tryz.func128,Tryz.ntmps128;go_wp2_with fail;refine HM.out.mono ?_;rintro e w' ⟨rfl,rfl⟩;go_wp2_with fail;refine HL.out.mono ?_;rintro e w' ⟨rfl,rfl⟩;go_wp2_with fail;refine HI.out.mono ?_;rintro e w' ⟨rfl,hb⟩;have HB:=lhd hb;clear hb;go_wp2_with fail;refine(HI2.out _ HB.out).mono ?_;rintro e w' ⟨rfl,hb⟩;have HB2:=lhd (zd5 HB.out hb);clear hb;go_wp2_with fail;go_ret;exact⟨by rw[←HR.out];rfl,HB2.out⟩
def zoe:List (Bs×Int):=[([115],0),([109,115],-3),([117,115],-6),([110,115],-9),([112,115],-12),([102,115],-15)]
def unC:List Value:=zoe.flatMap fun u=> [.string (bsB u.1),.int .i64 u.2]
theorem znY (w:World):Calls Tryz.prog 155 #[] w fun e w'=>e=.returned (.slice (some ⟨w.heap.size,0,none⟩) 6 6)∧w'=w.alloc (.cells unC.toArray 167):=by
 go_enter Tryz.func155,Tryz.ntmps155;go_wp2_with fail;go_ret;exact⟨rfl,rfl⟩
def unI (n:Int):Nat:=5-((n+15)/3).toNat
theorem zoa (n:Int):unI n≤5:=by unfold unI;omega
theorem zod {j:Nat} (hj:j≤5):∃u,zoe[j]? =some u∧u.2= -3*(j:Int):=by
 rcases(by omega:j=0∨j=1∨j=2∨j=3∨j=4∨j=5)with rfl|rfl|rfl|rfl|rfl|rfl<;>exact⟨_,rfl,rfl⟩
theorem zn9 {j:Nat} (hj:j≤5):unC[j*2]? =some (.string (bsB (zoe.getD j ([],0)).1))∧unC[j*2+1]? =some (.int .i64 (-3*(j:Int))):=by
 rcases(by omega:j=0∨j=1∨j=2∨j=3∨j=4∨j=5)with rfl|rfl|rfl|rfl|rfl|rfl<;>exact⟨rfl,rfl⟩
theorem znX (n:Int) (w:World) (hn: -15≤n∧n≤2):Calls Tryz.prog 123 #[.int .i64 n] w fun e w'=>e=.returned (.agg #[.string (bsB (zoe.getD (unI n) ([],0)).1),.int .i64 (-3*((unI n:Nat):Int))])∧Below w.heap.size w w':=by
 have hal:Below w.heap.size w (w.alloc (.cells #[.string ⟨#[]⟩,.int .i64 0] 167)):=(Below.refl _ _).alloc (Nat.le_refl _) _;have HR0:=lhd (zaq.fresh w #[.string ⟨#[]⟩,.int .i64 0] 167);have hz1:(w.alloc (.cells #[.string ⟨#[]⟩,.int .i64 0] 167)).heap.size=w.heap.size+1:=by simp
 have HRU:=lhd (zaq.fresh (w.alloc (.cells #[.string ⟨#[]⟩,.int .i64 0] 167)) unC.toArray 167);have HN:=lhd hn;have HLE:=lhd (zoa n);go_enter Tryz.func123,Tryz.ntmps123;go_wp2_with fail;refine(znY _).mono ?_;rintro e w2 ⟨rfl,rfl⟩;have HB2:=lhd (hal.trans ((Below.refl _ _).alloc (by rw[hz1];omega) (.cells unC.toArray 167)));have HR2:=lhd (HR0.out.below ((Below.refl _ _).alloc (Nat.le_refl _) (.cells unC.toArray 167)) (by rw[hz1];omega));rw[hz1]at HRU;have hz2:w.heap.size+1<((w.alloc (.cells #[.string ⟨#[]⟩,.int .i64 0] 167)).alloc (.cells unC.toArray 167)).heap.size:=by simp
 rw[hz1];generalize (w.alloc (.cells #[.string ⟨#[]⟩,.int .i64 0] 167)).alloc (.cells unC.toArray 167)=w2 at*;clear HR0 hal hz1;go_wp2_with fail;go_loopw [7] (fun u wr=>∃k:Nat,k≤unI n∧u=.int .i64 k∧zaq wr w.heap.size [.string ⟨#[]⟩,.int .i64 0]∧zaq wr (w.heap.size+1) unC∧w.heap.size+1<wr.heap.size∧Below w.heap.size w wr) (fun u _=>6-(intOf u).toNat)
 case atStart=>exact⟨0,Nat.zero_le _,rfl,HR2.out,by simpa using HRU.out,hz2,HB2.out⟩
 case round=>
  obtain⟨k,hk,rfl,hr0,hru,hz,hb⟩:=hrel;have HB:=lhd hb;have HR:=lhd hr0;have HU:=lhd hru;have hk5:k≤5:=Nat.le_trans hk HLE.out;obtain⟨e0,e1⟩:=zn9 hk5;have d0:=hru.cell e0;have d1:=hru.cell e1;clear e0 e1 hb hr0 hru;have hlo:w.heap.size<wr.heap.size:=by omega
  generalize hnm:(zoe.getD k ([],0)).1=nm at d0;have HNM:=lhd hnm;clear hnm;by_cases hlt:k<unI n
  ·have hp:¬(-3*(k:Int))≤n:=by have:=HN.out;unfold unI at hlt;omega
   have HNX:=lhd (show Below w.heap.size w (wr.alloc (.cells #[.string (bsB nm),.int .i64 (-3*(k:Int))] 167))∧zaq (wr.alloc (.cells #[.string (bsB nm),.int .i64 (-3*(k:Int))] 167)) w.heap.size [.string ⟨#[]⟩,.int .i64 0]∧zaq (wr.alloc (.cells #[.string (bsB nm),.int .i64 (-3*(k:Int))] 167)) (w.heap.size+1) unC from
    ⟨HB.out.alloc (by omega) _,HR.out.below ((Below.refl _ _).alloc (Nat.le_refl _) _) hlo,HU.out.below ((Below.refl _ _).alloc (Nat.le_refl _) _) hz⟩)
   generalize hpw: -3*(k:Int)=pw at*;clear hpw;go_wp2_with fail;go_roundw;case rel=>exact⟨k+1,hlt,by go_num,HNX.out.2.1,HNX.out.2.2,by simp;omega,HNX.out.1⟩
   case measure=>simp[intOf];omega
  ·obtain rfl:k=unI n:=by omega
   have hp:(-3*((unI n:Nat):Int))≤n:=by have:=HN.out;unfold unI;omega
   have HP:=lhd hp;generalize hpw: -3*((unI n:Nat):Int)=pw at*;have q0:=HR.out.cell (j:=0) rfl;have q1:=HR.out.cell (j:=1) rfl;have f0:=HR.out.free (j:=0) (by simp);have f1:=HR.out.free (j:=1) (by simp);clear hlt;have HQ:=lhd hpw;have HF:=lhd (((HR.out.set (j:=0) (by simp) (.string (bsB nm))).set (j:=1) (by simp) (.int .i64 pw)).alloc (by simpa using hlo) (.cells #[.string (bsB nm),.int .i64 pw] 167));clear hpw;go_wp2_with fail;have t0:=HF.out.cell (j:=0) rfl;have t1:=HF.out.cell (j:=1) rfl;refine bodyPost_ret (v:=.agg #[.string (bsB nm),.int .i64 pw]) (by simp[results,Tryz.results123,go_sem,t0,t1]) rfl ⟨?_,((HB.out.setCell (Nat.le_refl _) _).setCell (Nat.le_refl _) _).alloc (by simp;omega) _⟩;rw[HQ.out,HNM.out]
theorem zmH:∀k:Fin 18,bsB (Lib.itoa ((10^((k.val:Int)-15+3*((unI ((k.val:Int)-15):Nat):Int)).toNat:Nat):Int))++⟨#[32]⟩++bsB (zoe.getD (unI ((k.val:Int)-15)) ([],0)).1=bsB (zlU ((k.val:Int)-15)):=by decide+kernel
theorem zmI {n:Int} (hn: -15≤n∧n≤2) {d:Nat} (hd:n+3*((unI n:Nat):Int)=(d:Int)):bsB (Lib.itoa ((10^d:Nat):Int))++⟨#[32]⟩++bsB (zoe.getD (unI n) ([],0)).1=bsB (zlU n):=by
 have h:=zmH ⟨(n+15).toNat,by omega⟩;dsimp only at h;have e:(((n+15).toNat:Nat):Int)-15=n:=by omega
 rw[e]at h;rwa [show(n+3*((unI n:Nat):Int)).toNat=d by omega]at h
theorem znS (n:Int) (w:World) (hn: -15≤n∧n≤2) (hg:Glob w):Calls Tryz.prog 70 #[.int .i64 1,.int .i64 n] w fun e w'=>e=.returned (.string (bsB (zlU n)))∧Below w.heap.size w w':=by
 obtain⟨d,hd⟩:∃d:Nat,n+3*((unI n:Nat):Int)=(d:Int):=⟨(n+3*((unI n:Nat):Int)).toNat,by unfold unI;omega⟩;have hd2:d≤2:=by unfold unI at hd;omega
 have HT:=lhd (zmI hn hd);have b1:decide (-15≤n)=true:=by simpa using hn.1
 have b2:decide (n≤2)=true:=by simpa using hn.2
 have HV:=lhd (znT n w);rw[b1,b2,Bool.and_self]at HV;have HU:=lhd (znX n w hn);obtain⟨pw,hpw⟩:∃pw:Int,pw= -3*((unI n:Nat):Int):=⟨_,rfl⟩;rw[←hpw]at HU;have hw1:IntKind.i64.wrap (n-pw)=(d:Int):=by rw[show n-pw=(d:Int)by omega];exact IntWalk.i64_in _ (by omega)
 have hp:=zjY (k:=d) (by omega);have HTEN:=lhd (fun(W:World)=>znU d W (by omega));obtain⟨y,hy⟩:∃y:Int,y=((10^d:Nat):Int):=⟨_,rfl⟩;rw[←hy]at HT hp;have HTEN:=lhd (show ∀W:World,Calls Tryz.prog 124 #[.int .i64 (d:Int)] W fun e w'=>e=.returned (.int .i64 y)∧Below W.heap.size W w' by rw[hy];exact HTEN.out)
 have hy2:y≤1000:=by
  rcases(by omega:d=0∨d=1∨d=2)with rfl|rfl|rfl<;>(rw[hy];decide)
 have hw2:IntKind.i64.wrap y=y:=IntWalk.i64_in _ (by omega);have HI:=lhd (fun(W:World) (h:Below w.heap.size w W)=>zcb y W (hg.below h) (by omega));have z1:=zfY y (by omega);generalize bsB (Lib.itoa y)=z at*
 have hnl:(bsB (zoe.getD (unI n) ([],0)).1).size≤10:=by
  rw[zbk];obtain⟨u,hu,-⟩:=zod (zoa n);rw[List.getD_eq_getElem?_getD,hu];have:=List.mem_of_getElem? hu;simp[zoe]at this;rcases this with rfl|rfl|rfl|rfl|rfl|rfl<;>decide
 generalize bsB (zoe.getD (unI n) ([],0)).1=nm at*;generalize bsB (zlU n)=R at*;have hq1:¬9223372036854775807<z.size+1:=by omega
 have hq2:¬9223372036854775807<z.size+1+nm.size:=by omega
 clear hpw hd b1 b2 hg hy hn;go_enter Tryz.func70,Tryz.ntmps70;go_wp2_with fail;refine HV.out.mono ?_;rintro e w1 ⟨rfl,rfl⟩;go_wp2_with fail;refine HU.out.mono ?_;rintro e w2 ⟨rfl,hb2⟩;have hal:Below w.heap.size w (w2.alloc (.cells #[.string nm,.int .i64 pw] 167)):=hb2.alloc hb2.size _;have HX:=lhd (zaq.fresh w2 #[.string nm,.int .i64 pw] 167);have HZ:=lhd (show w2.heap.size<(w2.alloc (.cells #[.string nm,.int .i64 pw] 167)).heap.size by simp);have HB:=lhd hal;clear hb2 hal;go_upto_region 4 with fail;generalize hw3:w2.alloc (.cells #[.string nm,.int .i64 pw] 167)=w3 at*;have x0:=HX.out.cell (j:=0) rfl;have x1:=HX.out.cell (j:=1) rfl;refine wp_region_held_drew (S:=(fun w'=>w'.cell? ⟨w2.heap.size,0,none⟩=some (.string nm)∧w'.cell? ⟨w2.heap.size,1,none⟩=some (.int .i64 pw))) (by kernel_rfl) ⟨x0,x1⟩ (fun hHeld=>?_);refine tkH 0 hHeld (v:=?_) ?_;simp only[tkS];refine tkH 1 hHeld (v:=?_) ?_;simp only[tkS];refine tkH 2 hHeld (v:=?_) ?_;simp only[tkS];refine tkH 3 hHeld (v:=?_) ?_;simp only[tkS];refine tkH 4 hHeld (v:=?_) ?_;simp only[tkS];refine tkH 9 hHeld (v:=?_) ?_;simp only[tkS];refine tkH 10 hHeld (v:=?_) ?_;simp only[tkS];have hbq:Below w3.heap.size w3 w3.drew:=(Below.refl _ _).drew;have SF:=lhd (fun W (hW:Below w3.heap.size w3 W)=>And.intro ((HX.out.below hW HZ.out).cell (j:=0) (v:=.string nm) rfl) ((HX.out.below hW HZ.out).cell (j:=1) (v:=.int .i64 pw) rfl));generalize w3.drew=w4 at*;refine oneH 5 (fun K hK=>?_);go_simp;refine(HTEN.out w4).mono ?_;rintro e w5 ⟨rfl,hb⟩;have hbq:=zd5 hbq hb;clear hHeld hb;go_wp2_with fail;refine hK.out _ _ (SF.out _ hbq) (fun hHeld=>?_);clear hK;try simp only[tkS]
 refine tkH 6 hHeld (v:=?_) ?_;simp only[tkS];refine oneH 7 (fun K hK=>?_);go_simp;refine(HI.out w5 (zd5 HB.out hbq)).mono ?_;rintro e w6 ⟨rfl,hb⟩;have hbq:=zd5 hbq hb;clear hHeld hb;go_wp2_with fail;refine hK.out _ _ (SF.out _ hbq) (fun hHeld=>?_);clear hK;try simp only[tkS]
 refine tkH 8 hHeld (v:=?_) ?_;simp only[tkS];refine tkH 11 hHeld (v:=?_) ?_;simp only[tkS];refine oneH 12 (fun K hK=>?_);go_simp;refine hK.out _ _ (SF.out _ hbq) (fun hHeld=>?_);clear hK;try simp only[tkS]
 refine wpAnyH_done (by kernel_rfl) ?_ _;have HBQ:=lhd (zd5 HB.out hbq);clear hHeld hbq;go_wp2_with fail;go_ret;exact⟨by rw[HT.out];rfl,HBQ.out⟩
theorem znQ (n:Int) (w:World) (hg:Glob w):Calls Tryz.prog 38 #[.int .i64 n] w fun e w'=>e=.returned (.string (bsB (zlU n)))∧Below w.heap.size w w':=by
 have HV:=lhd (znT n w);by_cases hn: -15≤n∧n≤2
 ·have HS:=lhd (znS n w hn hg);have b1:decide (-15≤n)=true:=by simpa using hn.1
  have b2:decide (n≤2)=true:=by simpa using hn.2
  rw[b1,b2,Bool.and_self]at HV;generalize bsB (zlU n)=R at*;clear b1 b2 hn;go_enter Tryz.func38,Tryz.ntmps38;go_wp2_with fail;refine HV.out.mono ?_;rintro e w1 ⟨rfl,rfl⟩;go_wp2_with fail;refine HS.out.mono ?_;rintro e w2 ⟨rfl,hb⟩;have HB:=lhd hb;clear hb;go_wp2_with fail;go_ret;exact⟨rfl,HB.out⟩
 ·have hz:zlU n=[]:=by
   unfold zlU;rw[if_pos (by omega)]
  have b1:(decide (-15≤n)&&decide (n≤2))=false:=by
   rw[←Bool.decide_and,decide_eq_false_iff_not];exact hn
  rw[b1]at HV;rw[hz];clear b1 hn hz;go_enter Tryz.func38,Tryz.ntmps38;go_wp2_with fail;refine HV.out.mono ?_;rintro e w1 ⟨rfl,rfl⟩;go_wp2_with fail;go_ret;exact⟨rfl,Below.refl _ _⟩
theorem znI:∀k:Fin 18,Lib.replace (zlU ((k.val:Int)-15)) [32] [] 1=znH (zlU ((k.val:Int)-15))∧(zlU ((k.val:Int)-15)).length≤6∧Lib.countB (bsB (zlU ((k.val:Int)-15))) ⟨#[32]⟩=1∧zlV[k.val]? =some (zlU ((k.val:Int)-15)):=by decide+kernel
theorem znV (k:Nat) (hk:k<18) (w:World) (hg:Glm w):Calls Tryz.prog 170 #[.string (bsB (zlU ((k:Int)-15))),.string ⟨#[32]⟩,.string ⟨#[]⟩,.int .i64 1] w fun e w'=>e=.returned (.string (bsB (znH (zlU ((k:Int)-15)))))∧Below w.heap.size w w':=by
 obtain⟨m,hm⟩:=hg;obtain⟨h1,h2,h3,-⟩:=znI ⟨k,hk⟩;dsimp only at h1 h2 h3;have hq:=Tryz.strings_Replace (bsB (zlU ((k:Int)-15))) ⟨#[32]⟩ ⟨#[]⟩ 1 m w (by rw[zbk];omega) hm (by decide) (by rw[zbk,h3];show _+1*0≤_;omega);rw[zbh,show(⟨#[32]⟩:ByteArray).data.toList=[32]from rfl,show(⟨#[]⟩:ByteArray).data.toList=[]from rfl,h1]at hq;exact hq
def hitS (x:Bs) (k:Nat):Bool:=decide (x=zlU ((k:Int)-15))||decide (x=znH (zlU ((k:Int)-15)))
theorem zlS {x:Bs} {k:Nat} (hk:k<18) (h:hitS x k=true) (hn:∀j,j<k→hitS x j=false):zlR x=((k:Int)-15,0):=by
 have e:zlV.findIdx? (fun s=>decide (x=s)||decide (x=znH s))=some k:=by
  rw[List.findIdx?_eq_some_iff_getElem];have hl:zlV.length=18:=rfl;refine⟨by omega,?_,fun j hj=>?_⟩
  ·have h4:=(znI ⟨k,hk⟩).2.2.2;dsimp only at h4;rw[List.getElem?_eq_getElem (by omega)]at h4;rw[Option.some.inj h4];exact h
  ·have h4:=(znI ⟨j,by omega⟩).2.2.2;dsimp only at h4;rw[List.getElem?_eq_getElem (by omega)]at h4;rw[Option.some.inj h4];have:=hn j hj;unfold hitS at this;rw[this];simp
 unfold zlR;rw[e]
theorem zlT {x:Bs} (hn:∀j,j<18→hitS x j=false):zlR x=(0,3):=by
 have e:zlV.findIdx? (fun s=>decide (x=s)||decide (x=znH s))=none:=by
  rw[List.findIdx?_eq_none_iff];intro s hs;obtain⟨j,hj,rfl⟩:=List.mem_iff_getElem.1 hs;have hl:zlV.length=18:=rfl;have h4:=(znI ⟨j,by omega⟩).2.2.2;dsimp only at h4;rw[List.getElem?_eq_getElem (by omega)]at h4;rw[Option.some.inj h4];exact hn j (by omega)
 unfold zlR;rw[e]
theorem znR (x:Bs) (w:World) (hg:Glob w) (hm:Glm w):Calls Tryz.prog 140 #[.string (bsB x)] w fun e w'=>e=.returned (.tuple #[.int .i64 (zlR x).1,.int .i64 (zlR x).2])∧Below w.heap.size w w':=by
 have HG:=lhd hg;have HM:=lhd hm;clear hg hm;go_enter Tryz.func140,Tryz.ntmps140;go_wp2_with fail;go_loopw [4] (fun u wr=>∃k:Nat,k≤18∧u=.int .i64 ((k:Int)-15)∧(∀j,j<k→hitS x j=false)∧Below w.heap.size w wr) (fun u _=>(18-(intOf u+15)).toNat)
 case atStart=>exact⟨0,Nat.zero_le _,rfl,fun j hj=>absurd hj (Nat.not_lt_zero _),Below.refl _ _⟩
 case round=>
  obtain⟨k,hk,rfl,hgo,hb⟩:=hrel;have HGO:=lhd hgo;have HB:=lhd hb;clear hgo hb;by_cases hlt:k<18
  ·have hle:(k:Int)-15≤2:=by omega
   have HF:=lhd (znQ ((k:Int)-15) wr (HG.out.below HB.out));have HT:=lhd (fun(W:World) (hW:Below w.heap.size w W)=>znV k hlt W (HM.out.below hW));have hw1:IntKind.i64.wrap ((k:Int)-15+1)=(k:Int)-15+1:=IntWalk.i64_in _ (by omega);by_cases h1:x=zlU ((k:Int)-15)
   ·have HR:=lhd (zlS hlt (by unfold hitS;rw[decide_eq_true h1];rfl) HGO.out);rw[←h1]at HF;generalize (k:Int)-15=kk at*;go_wp2_with fail;refine HF.out.mono ?_;rintro e w1 ⟨rfl,hb1⟩;have HB1:=lhd (zd5 HB.out hb1);clear hb1;go_wp2_with fail;exact bodyPost_ret (v:=.tuple #[.int .i64 kk,.int .i64 0]) (by simp[results,Tryz.results140,go_sem]) rfl ⟨by rw[HR.out],HB1.out⟩
   ·have hb1:=zbi h1;by_cases h2:x=znH (zlU ((k:Int)-15))
    ·have HR:=lhd (zlS hlt (by unfold hitS;rw[decide_eq_true h2,Bool.or_true]) HGO.out);rw[←h2]at HT;generalize bsB (zlU ((k:Int)-15))=sc at*;generalize (k:Int)-15=kk at*;clear h1 h2;go_wp2_with fail;refine HF.out.mono ?_;rintro e w1 ⟨rfl,hb1⟩;have HB1:=lhd (zd5 HB.out hb1);clear hb1;go_wp2_with fail;refine(HT.out _ HB1.out).mono ?_;rintro e w2 ⟨rfl,hb2⟩;have HB2:=lhd (zd5 HB1.out hb2);clear hb2;go_wp2_with fail;exact bodyPost_ret (v:=.tuple #[.int .i64 kk,.int .i64 0]) (by simp[results,Tryz.results140,go_sem]) rfl ⟨by rw[HR.out],HB2.out⟩
    ·have hb2:=zbi h2
     have HN:=lhd (show ∀j,j<k+1→hitS x j=false from fun j hj=>by
      rcases Nat.lt_or_ge j k with h|h
      ·exact HGO.out j h
      ·obtain rfl:j=k:=by omega
       unfold hitS;rw[decide_eq_false h1,decide_eq_false h2];rfl)
     generalize bsB (zlU ((k:Int)-15))=sc at*;generalize bsB (znH (zlU ((k:Int)-15)))=sd at*;clear h1 h2;go_wp2_with fail;refine HF.out.mono ?_;rintro e w1 ⟨rfl,hb1⟩;have HB1:=lhd (zd5 HB.out hb1);clear hb1;go_wp2_with fail;refine(HT.out _ HB1.out).mono ?_;rintro e w2 ⟨rfl,hb2⟩;have HB2:=lhd (zd5 HB1.out hb2);clear hb2;go_wp2_with fail;go_roundw;case rel=>exact⟨k+1,hlt,by go_num,HN.out,HB2.out⟩
     case measure=>simp[intOf];omega
  ·obtain rfl:k=18:=by omega
   have HR:=lhd (zlT HGO.out);go_wp2_with fail;exact bodyPost_ret (v:=.tuple #[.int .i64 0,.int .i64 3]) (by simp[results,Tryz.results140,go_sem]) rfl ⟨by rw[HR.out],HB.out⟩
theorem zhZ {s:Bs} (h:zhz s=true):s.length≤32:=by
 unfold zhz at h;simp only[Bool.and_eq_true,decide_eq_true_iff]at h;exact h.1.1.2
theorem zfW (n:Int) (h: -32768≤n∧n≤999999999):(Lib.itoa n).length≤100:=by
 have:=zfY n h;rwa [zbk]at this
theorem zhP (x:Dcl) (w:World) (hg:Glob w) (hn:zhz x.nm=true) (hb:x.rg=true→zba x.mb=true∧zba x.lb=true):
 Calls Tryz.prog 74 #[.string (bsB x.nm),.bool x.rg,.int .i64 x.mb,.int .i64 x.lb] w fun e w'=>e=.returned (.string (bsB (refT x)))∧Below w.heap.size w w':=by
 obtain⟨nm,ty,sc,sg,rg,mb,lb,cd,kd,wd⟩:=x;dsimp only at hn hb⊢;have hl:=zhZ hn;have hz:(bsB nm).size≤32:=by rw[zbk];exact hl
 have HV:=lhd (zhU (bsB nm) w (by omega));rw[zbh,hn]at HV;cases rg
 ·have HR:=lhd (show bsB nm=bsB (refT ⟨nm,ty,sc,sg,false,mb,lb,cd,kd,wd⟩)by unfold refT refW;rfl);generalize bsB nm=z at*;go_enter Tryz.func74,Tryz.ntmps74;go_wp2_with fail;refine HV.out.mono ?_;rintro e w1 ⟨rfl,hb1⟩;have HB1:=lhd hb1;clear hb1;go_wp2_with fail;go_ret;exact⟨by rw[←HR.out];rfl,HB1.out⟩
 ·obtain⟨b1,b2⟩:=hb rfl;have r1:=zbc b1;have r2:=zbc b2;have t1:=zfW mb (by omega);have t2:=zfW lb (by omega)
  have hne:(bsB (rngT mb lb)).toList.isEmpty=false:=znN (by
   rw[zbk];unfold rngT;split<;>simp)
  have hz2:(bsB (rngT mb lb)).size≤300:=by
   rw[zbk];unfold rngT;split<;>simp<;>omega
  have HF:=lhd (fun(W:World) (h:Below w.heap.size w W)=>zhO mb lb W (hg.below h));rw[b1,b2,Bool.true_and,if_pos rfl]at HF
  have HR:=lhd (show(bsB nm++⟨#[32]⟩++bsB (rngT mb lb):ByteArray)=bsB (refT ⟨nm,ty,sc,sg,true,mb,lb,cd,kd,wd⟩)by
   unfold refT refW;apply zaV;simp[bsB,ByteArray.data_append,zgc])
  generalize bsB nm=z at*;generalize bsB (rngT mb lb)=y at*;clear b1 b2 hb hn;go_enter Tryz.func74,Tryz.ntmps74;go_wp2_with fail;refine HV.out.mono ?_;rintro e w1 ⟨rfl,hb1⟩;have HB1:=lhd hb1;clear hb1;go_wp2_with fail;refine(HF.out _ HB1.out).mono ?_;rintro e w2 ⟨rfl,hb2⟩;have HB2:=lhd (zd5 HB1.out hb2);clear hb2;go_wp2_with fail;go_ret;exact⟨by rw[←HR.out];rfl,HB2.out⟩
end Go.Proofs.YtcdekelomkcahaaGreatDoor
