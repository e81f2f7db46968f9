import Derived.Test.YtcdekelomkcahaaGreatDoorZ00
import Derived.Test.YtcdekelomkcahaaGreatDoorZ24
set_option maxRecDepth 100000
set_option maxHeartbeats 16000000
namespace Go.Proofs.YtcdekelomkcahaaGreatDoor
theorem zde:∀d:Fin 10,UInt8.ofNat (48+d.val)=48→d.val=0:=by decide
theorem zcT:∀(u:Nat),0<u→(Lib.decDigits u).head? ≠some 48:=by
 intro u;induction u using Nat.strongRecOn with
 |_ u ih=>
  intro hu h;rw[Lib.decDigits]at h;by_cases hs:u<10
  ·rw[dif_pos hs]at h;have:=zde ⟨u,hs⟩ (Option.some.inj h);have:u=0:=this;omega
  ·rw[dif_neg hs]at h;refine ih (u/10) (by omega) (by omega) ?_;cases hd:Lib.decDigits (u/10)with
   |nil=>exact absurd hd (zcL _)
   |cons d t=>rw[hd]at h;exact h
theorem znG {l r:Bs} {c:UInt8} (h:l.all isD=true) (hc:isD c=false):(l++c::r).takeWhile isD=l:=by
 induction l with
 |nil=>rw[List.nil_append,List.takeWhile_cons_of_neg (by rw[hc];simp)]
 |cons d l ih=>
  rw[List.all_cons,Bool.and_eq_true]at h;rw[List.cons_append,List.takeWhile_cons_of_pos h.1,ih h.2]
theorem zcU {u:Nat} (h:u<1000000000):(Lib.decDigits u).length≤9∧1≤(Lib.decDigits u).length:=by
 rw[Lib.decDigits_length];exact⟨zhw 8 u (by simpa using h),Lib.nDigits_pos u⟩
theorem zcS {u:Nat} {l:Bs}:(Lib.decDigits u++l).head? =some 45→False:=by
 intro h;cases hd:Lib.decDigits u with
 |nil=>exact zcL u hd
 |cons d t=>
  rw[hd]at h;have:=zcK u;rw[hd,List.all_cons,Bool.and_eq_true]at this;have h2:d=45:=Option.some.inj h;rw[h2]at this;exact absurd this.1 (by decide)
theorem zii {x:Bs} (h:x.head? =some 45→False):numT x=if(x.takeWhile isD).length<1∨9<(x.takeWhile isD).length∨((x.takeWhile isD).head? =some 48∧1<(x.takeWhile isD).length)then((0,false),x.drop (x.takeWhile isD).length)else((((decN (x.takeWhile isD):Nat):Int),true),x.drop (x.takeWhile isD).length):=by
 have hd:decide (x.head? =some 45)=false:=decide_eq_false h;unfold numT;dsimp only;rw[hd];simp only[Bool.false_eq_true,if_false,or_false]
theorem zin {n:Int} (h0: -1000000000<n) (h1:n<1000000000) {c:UInt8} {r:Bs} (hc:isD c=false):numT (Lib.itoa n++c::r)=((n,true),c::r):=by
 by_cases hn:n<0
 ·have e:Lib.itoa n=45::Lib.decDigits n.natAbs:=by unfold Lib.itoa;rw[if_pos hn]
  have hl:=zcU (u:=n.natAbs) (by omega);unfold numT;rw[e,List.cons_append];dsimp only;rw[show decide ((45::(Lib.decDigits n.natAbs++c::r)).head? =some 45)=true by simp,if_pos rfl,List.drop_succ_cons,List.drop_zero,znG (zcK _) hc,if_neg,List.drop_left,if_pos rfl,zcM]
  ·congr 2;omega
  ·rintro(h|h|⟨h,-⟩)
   ·omega
   ·omega
   ·exact zcT _ (by omega) h
 ·have e:Lib.itoa n=Lib.decDigits n.toNat:=by unfold Lib.itoa;rw[if_neg hn]
  have hl:=zcU (u:=n.toNat) (by omega);rw[e,zii zcS,znG (zcK _) hc,if_neg,List.drop_left,zcM]
  ·congr 2;omega
  ·rintro(h|h|⟨h,h2⟩)
   ·omega
   ·omega
   ·by_cases h3:0<n.toNat
    ·exact zcT _ h3 h
    ·rw[show n.toNat=0 by omega,Lib.decDigits_one (by omega)]at h2;simp at h2
theorem zbc {m:Int} (h:zba m=true): -32768≤m∧m≤32768:=by
 unfold zba at h;rw[Bool.and_eq_true,decide_eq_true_iff,decide_eq_true_iff]at h;exact h
theorem zkQ {m l:Int} (hm:zba m=true) (hl:zba l=true):zkN (rngT m l)=(m,l,0):=by
 have h1:=zbc hm;have h2:=zbc hl;unfold rngT zkN;by_cases he:m=l
 ·rw[if_pos he];dsimp only;rw[show decide ((91::(Lib.itoa m++ [93])).head? =some 91)=true by simp,if_pos rfl,List.drop_succ_cons,List.drop_zero,zin (by omega) (by omega) (by decide)];dsimp only;rw[if_neg (by simp)];unfold zkK;rw[if_neg (by simp),if_neg (by rw[hm];simp),he]
 ·rw[if_neg he];dsimp only;rw[show decide ((91::(Lib.itoa m++58::(Lib.itoa l++ [93]))).head? =some 91)=true by simp,if_pos rfl,List.drop_succ_cons,List.drop_zero,zin (by omega) (by omega) (by decide)];dsimp only;rw[if_pos (by simp),List.drop_succ_cons,List.drop_zero,zin (by omega) (by omega) (by decide)];dsimp only;unfold zkK;rw[if_neg (by simp),if_neg (by rw[hm,hl];simp)]
theorem zmL {n:Int} (h0:1≤n) (h1:n<1000000000):zmK (Lib.itoa n)=some n:=by
 have e:Lib.itoa n=Lib.decDigits n.toNat:=by unfold Lib.itoa;rw[if_neg (by omega)]
 have hl:=zcU (u:=n.toNat) (by omega);unfold zmK;rw[e,if_neg,zcM]
 ·congr 1;omega
 ·rintro(h|h|h|h)
  ·exact zcL _ h
  ·omega
  ·rw[zcK]at h;cases h
  ·exact zcT _ (by omega) h
theorem zhB {s:Bs} (h:zhz s=true):(∀c∈s,isW c=false)∧s≠ []∧s≠sEnd:=by
 unfold zhz at h;simp only[Bool.and_eq_true,decide_eq_true_iff,List.all_eq_true]at h;obtain⟨⟨⟨h1,h2⟩,h3⟩,h4⟩:=h;refine⟨fun c hc=>zkz (h3 c hc),h1,fun he=>?_⟩;subst he;revert h4
 decide
theorem zfU (n:Int):∀c∈Lib.itoa n,isW c=false:=by
 intro c hc;unfold Lib.itoa at hc
 have hd:∀u:Nat,∀c∈Lib.decDigits u,isW c=false:=fun u c hc=>by
  have:=zcK u;rw[List.all_eq_true]at this;exact zfH (this c hc)
 split at hc
 ·rcases List.mem_cons.1 hc with rfl|hc
  ·decide
  ·exact hd _ c hc
 ·exact hd _ c hc
theorem zll (m l:Int):(∀c∈rngT m l,isW c=false)∧rngT m l≠ []∧rngT m l≠sEnd:=by
 unfold rngT;split
 ·refine⟨fun c hc=>?_,by simp,by simp[sEnd]⟩;rcases List.mem_cons.1 hc with rfl|hc
  ·decide
  ·rcases List.mem_append.1 hc with hc|hc
   ·exact zfU _ c hc
   ·rw[List.mem_singleton.1 hc];decide
 ·refine⟨fun c hc=>?_,by simp,by simp[sEnd]⟩;rcases List.mem_cons.1 hc with rfl|hc
  ·decide
  ·rcases List.mem_append.1 hc with hc|hc
   ·exact zfU _ c hc
   ·rcases List.mem_cons.1 hc with rfl|hc
    ·decide
    ·rcases List.mem_append.1 hc with hc|hc
     ·exact zfU _ c hc
     ·rw[List.mem_singleton.1 hc];decide
theorem zk6 {x:Dcl} (hn:zhz x.nm=true) (h0:x.rg=false→x.mb=0∧x.lb=0) (h1:x.rg=true→zba x.mb=true∧zba x.lb=true):refF (refW x)=(x.nm,x.rg,x.mb,x.lb,0):=by
 unfold refW;cases hr:x.rg with
 |false=>
  obtain⟨e1,e2⟩:=h0 hr
  have hs:¬(91∈x.nm∧x.nm.head? ≠some 92):=fun⟨h,h2⟩=>by
   unfold zhz at hn;simp only[Bool.and_eq_true,decide_eq_true_iff]at hn;have h4:=hn.2;cases hx:x.nm with
   |nil=>rw[hx]at h;cases h
   |cons c t=>
    rw[hx]at h4 h h2;dsimp only at h4;rw[if_neg (by intro e;subst e;exact h2 rfl),Bool.and_eq_true,Bool.not_eq_true',List.any_eq_false]at h4;have:=h4.2 91 h;simp at this
  unfold refF refS;rw[if_neg (by simp)];dsimp only;rw[if_neg hs];dsimp only;rw[if_pos hn,e1,e2]
 |true=>
  obtain⟨b1,b2⟩:=h1 hr;unfold refF refS;rw[if_pos rfl];dsimp only;rw[if_neg (by rw[hn];simp),zkQ b1 b2,if_neg (by simp)]
def dKey (x:Dcl):Int×Bs×Bool×Int×Int:=(x.sc,x.nm,x.rg,x.mb,x.lb)
structure VV (n:Nat) (x:Dcl):Prop where
 sc: -1≤x.sc∧x.sc<(n:Int)
 nm:zhz x.nm=true
 ty:0≤x.ty∧x.ty≤18
 sg:x.sg=0
 r0:x.rg=false→x.mb=0∧x.lb=0
 r1:x.rg=true→x.kind=0∧zba x.mb=true∧zba x.lb=true∧zpX x.mb x.lb=x.width
 cd:zb1 x.code=true
 kd:x.kind=zgo x.ty
 w0:x.kind=0→1≤x.width∧x.width≤128
 w1:x.kind≠0→x.width=0
structure VD (d:DD):Prop where
 sc: -15≤d.sc∧d.sc≤2
 dt:zp2 d.dt=true
 vn:zp2 d.vn=true
 cm:zp2 d.cm=true
 sn:d.S.length≤32
 sm:∀s∈d.S,zhz s.1=true∧0≤s.2.1∧s.2.1≤4
 sk:(d.S.map zlM).Nodup
 sp:preS d.S=List.range d.S.length
 sf:Fst (parS d.S) d.S.length
 su:∀i,i<d.S.length→(upL d.S (i+1) (i:Int)).length≤8
 dn:d.D.length≤128
 dk:(d.D.map dKey).Nodup
 ds:d.D.Pairwise fun x y=>x.sc≤y.sc
 dc:zb5 d.D []≤64
 dv:∀x∈d.D,VV d.S.length x
 dm:∀x∈d.D,∀y∈d.D,x.code=y.code→x.kind=y.kind∧x.width=y.width
def zmr:List Dcl→List Bs→List Bs
 | [],s=>s
 |x::l,s=>zmr l (if x.code∈s then s else s++ [x.code])
theorem zb6:∀(l:List Dcl) (s:List Bs),zb5 l s=(zmr l s).length
 | [],_=>rfl
 |_::l,_=>zb6 l _
theorem zmv:∀(l m:List Dcl) (s:List Bs),zmr (l++m) s=zmr m (zmr l s)
 | [],_,_=>rfl
 |_::l,m,_=>zmv l m _
theorem zmx:∀(l:List Dcl) (s:List Bs),s.length≤(zmr l s).length
 | [],_=>Nat.le_refl _
 |x::l,s=>by
  refine Nat.le_trans ?_ (zmx l _);split
  ·exact Nat.le_refl _
  ·simp
theorem zmz:∀{l:List Dcl} {s:List Bs} {c:Bs},c∈zmr l s↔c∈s∨∃x∈l,x.code=c
 | [],s,c=>by simp[zmr]
 |x::l,s,c=>by
  show c∈zmr l (if x.code∈s then s else s++ [x.code])↔_;rw[zmz];split
  ·rename_i h
   constructor
   ·rintro(h1|⟨y,h1,h2⟩)
    ·exact .inl h1
    ·exact .inr ⟨y,List.mem_cons_of_mem _ h1,h2⟩
   ·rintro(h1|⟨y,h1,h2⟩)
    ·exact .inl h1
    ·rcases List.mem_cons.1 h1 with rfl|h1
     ·exact .inl (h2▸h)
     ·exact .inr ⟨y,h1,h2⟩
  ·rw[List.mem_append,List.mem_singleton];constructor
   ·rintro((h1|rfl)|⟨y,h1,h2⟩)
    ·exact .inl h1
    ·exact .inr ⟨x,List.mem_cons_self,rfl⟩
    ·exact .inr ⟨y,List.mem_cons_of_mem _ h1,h2⟩
   ·rintro(h1|⟨y,h1,h2⟩)
    ·exact .inl (.inl h1)
    ·rcases List.mem_cons.1 h1 with rfl|h1
     ·exact .inl (.inr h2.symm)
     ·exact .inr ⟨y,h1,h2⟩
theorem zb7 {A B:List Dcl} {x:Dcl} (h:∀y∈A,y.code≠x.code):zb5 A []+1≤zb5 (A++x::B) []:=by
 rw[zb6,zb6,zmv];show _≤(zmr B (if x.code∈zmr A []then zmr A []else zmr A []++ [x.code])).length;rw[if_neg]
 ·have:=zmx B (zmr A []++ [x.code]);simp at this⊢;omega
 ·rw[zmz];rintro(h1|⟨y,h1,h2⟩)
  ·cases h1
  ·exact h y h1 h2
theorem zn7:∀t:Fin 19,zn4 varW (zhx varW (t.val:Int))=((t.val:Int),true)∧(∀c∈zhx varW (t.val:Int),isW c=false)∧zhx varW (t.val:Int)≠ []∧zhx varW (t.val:Int)≠sEnd:=by decide+kernel
theorem zn6:∀t:Fin 5,zn4 zl4 (zhx zl4 (t.val:Int))=((t.val:Int),true)∧(∀c∈zhx zl4 (t.val:Int),isW c=false)∧zhx zl4 (t.val:Int)≠ []∧zhx zl4 (t.val:Int)≠sEnd:=by decide+kernel
theorem zoX {t:Int} (h:0≤t∧t≤18):zn4 varW (zhx varW t)=(t,true)∧(∀c∈zhx varW t,isW c=false)∧zhx varW t≠ []∧zhx varW t≠sEnd:=by
 have:=zn7 ⟨t.toNat,by omega⟩;dsimp only at this;rwa [show((t.toNat:Nat):Int)=t by omega]at this
theorem zl7 {t:Int} (h:0≤t∧t≤4):zn4 zl4 (zhx zl4 t)=(t,true)∧(∀c∈zhx zl4 t,isW c=false)∧zhx zl4 t≠ []∧zhx zl4 t≠sEnd:=by
 have:=zn6 ⟨t.toNat,by omega⟩;dsimp only at this;rwa [show((t.toNat:Nat):Int)=t by omega]at this
theorem zbt (c:List Wd) (i:Nat):(cAt c i).1=(txt c).getD i []:=by
 unfold cAt txt List.getD;rw[List.getElem?_map];cases c[i]? <;>rfl
theorem zn2 (c:List Wd):(txt c).length=c.length:=by unfold txt;rw[List.length_map]
theorem zmO {n:Nat} {x:Dcl} (h:VV n x):1≤szD x∧szD x≤128:=by
 unfold szD;by_cases h0:x.kind=0
 ·rw[if_pos h0];exact h.w0 h0
 ·rw[if_neg h0];split<;>omega
theorem zk4 {n:Nat} {x:Dcl} (h:VV n x):∀w∈refW x,(∀c∈w,isW c=false)∧w≠ []∧w≠sEnd:=by
 intro w hw;unfold refW at hw;split at hw
 ·rcases List.mem_cons.1 hw with rfl|hw
  ·exact zhB h.nm
  ·rw[List.mem_singleton.1 hw];exact zll _ _
 ·rw[List.mem_singleton.1 hw];exact zhB h.nm
theorem zfX (n:Int):Lib.itoa n≠ []:=by
 unfold Lib.itoa;split
 ·simp
 ·exact zcL _
theorem zfV (n:Int):Lib.itoa n≠sEnd:=fun h=>by
 have h1:(Lib.itoa n).head? =some 36:=by rw[h];rfl
 unfold Lib.itoa at h1;split at h1
 ·simp at h1
 ·cases hd:Lib.decDigits n.toNat with
  |nil=>exact zcL _ hd
  |cons d t=>
   rw[hd]at h1;have:=zcK n.toNat;rw[hd,List.all_cons,Bool.and_eq_true]at this;have h2:d=36:=Option.some.inj h1;rw[h2]at this;exact absurd this.1 (by decide)
theorem zqd {n:Nat} {x:Dcl} (h:VV n x):zp1 (varT x)=sVar::(([zhx varW x.ty,Lib.itoa (szD x),x.code]++refW x)++ [sEnd]):=by
 have ht:=zoX h.ty;have hc:=zb4 h.cd;unfold varT;rw[zqa,List.flatMap_cons,List.flatMap_cons,List.flatMap_cons,List.flatMap_cons,List.flatMap_cons,List.flatMap_nil,zqb (u:=sVar) (by decide) (by decide),zqb ht.2.1 ht.2.2.1,zqb (zfU _) (zfX _),zqb hc.2.1 hc.1];unfold refT;rw[zp3,zef fun w hw=>⟨(zk4 h w hw).1,(zk4 h w hw).2.1⟩];simp
theorem zla (x:Dcl):(refW x).length=1∨(refW x).length=2:=by
 unfold refW;split
 ·exact .inr rfl
 ·exact .inl rfl
theorem zkY {d:DD} (hd:VD d) {s:DS} {D0 D1:List Dcl} {x:Dcl} (hD:d.D=D0++x::D1) (hs:s.D=D0) (hn:s.now=x.sc) (hk:s.skip=0) (he:s.ended=false):
 Rd s (zp1 (varT x)) {s with D:=D0++ [x]}:=by
 have hx:=hd.dv x (by rw[hD];simp);have ht:=zoX hx.ty;have hcs:=zb4 hx.cd;rw[zqd hx];refine zkW he (by decide) (fun y hy=>?_) (fun w cw hw hc=>?_)
 ·rcases List.mem_append.1 hy with hy|hy
  ·rcases List.mem_cons.1 hy with rfl|hy
   ·exact ht.2.2.2
   rcases List.mem_cons.1 hy with rfl|hy
   ·exact zfV _
   ·rw[List.mem_singleton.1 hy];exact hcs.2.2
  ·exact(zk4 hx y hy).2.2
 have h0:(cAt cw 0).1=zhx varW x.ty:=by rw[zbt,hc];rfl
 have h1:(cAt cw 1).1=Lib.itoa (szD x):=by rw[zbt,hc];rfl
 have h2:(cAt cw 2).1=x.code:=by rw[zbt,hc];rfl
 have h3:(txt cw).drop 3=refW x:=by rw[hc];rfl
 have hln:cw.length=3+(refW x).length:=by rw[←zn2,hc];simp;omega
 have hr:=zk6 hx.nm hx.r0 (fun hr=>⟨(hx.r1 hr).2.1,(hx.r1 hr).2.2.1⟩);have hsz:=zmO hx;have hsb:=zmL hsz.1 (show szD x<1000000000 by omega)
 have hdx:dclF s cw=x:=by
  unfold dclF;dsimp only;rw[h3,hr,h0,ht.1,h1,hsb,h2,←hx.kd,hn]
  have hw:(if x.kind=0 then(some (szD x)).getD 0 else 0)=x.width:=by
   by_cases h:x.kind=0
   ·rw[if_pos h];show szD x=_;unfold szD;rw[if_pos h]
   ·rw[if_neg h,hx.w1 h]
  rw[hw,←hx.sg]
 have hnone:zc7 s w cw=none:=by
  have hin:∀y∈D0,y∈d.D:=fun y hy=>by rw[hD];exact List.mem_append_left _ hy
  have hxin:x∈d.D:=by rw[hD];simp
  have hdup:s.D.any (dupV x)=false:=by
   rw[hs,List.any_eq_false];intro y hy h;unfold dupV at h;simp only[Bool.and_eq_true,decide_eq_true_iff]at h;obtain⟨⟨⟨⟨⟨e1,e2⟩,-⟩,e4⟩,e5⟩,e6⟩:=h;have hk2:=hd.dk;rw[hD,List.map_append,List.map_cons]at hk2;refine(List.nodup_append.1 hk2).2.2 (dKey y) (List.mem_map.2 ⟨y,hy,rfl⟩) (dKey x) List.mem_cons_self ?_;unfold dKey;rw[e1,e2,e4,e5,e6]
  have hdn:D0.length<128:=by
   have:=hd.dn;rw[hD,List.length_append,List.length_cons]at this;omega
  unfold zc7;rw[if_neg (by rcases zla x with h|h<;>omega),h0,ht.1,if_neg (by simp),h1,hsb];dsimp only
  rw[hdx,h3,hr,if_neg (by rintro⟨h,h'⟩;omega),if_neg (by rw[hx.cd];simp),if_neg (by simp),if_neg (by rintro⟨h,h'⟩;exact h' (hx.r1 h).1),if_neg (by
   rintro⟨h,h'⟩;obtain⟨q1,-,-,q2⟩:=hx.r1 h;refine h' ?_;rw[q2];unfold szD;rw[if_pos q1])]
  cases hkn:knD s.D x.code with
  |some o=>
   have ho:o∈D0∧o.code=x.code:=by
    unfold knD at hkn;rw[hs]at hkn;exact⟨List.mem_of_find?_eq_some hkn,by simpa using List.find?_some hkn⟩
   obtain⟨m1,m2⟩:=hd.dm o (hin o ho.1) x hxin ho.2;dsimp only;rw[if_neg (by simp[m1]),if_neg (by simp[m2]),hdup,if_neg (by simp),hs,if_neg (by omega)]
  |none=>
   have hno:∀y∈D0,y.code≠x.code:=by
    unfold knD at hkn;rw[hs]at hkn;intro y hy;simpa using List.find?_eq_none.1 hkn y hy
   have hcn:=zb7 (B:=D1) hno;rw[←hD]at hcn;have:=hd.dc;dsimp only;rw[hdup,if_neg (by simp),hs,if_neg (by omega)]
 unfold secP;have hw:w.1=sVar:=hw;rw[hw,if_neg (by decide),if_neg (by decide),if_neg (by decide),if_neg (by decide),if_neg (by decide),if_neg (by decide),if_pos rfl];unfold varP;rw[if_neg (by omega),hnone,hdx,hs]
theorem zoo {S:List Sc} (hF:Fst (parS S) S.length) {a:Nat} (ha:a≤S.length):∀(f:Nat) (q:Int),q<(a:Int)→upL (S.take a) f q=upL S f q
 |0,_,_=>rfl
 |f+1,q,h=>by
  unfold upL;by_cases h0:q<0
  ·rw[if_pos h0,if_pos h0]
  ·rw[if_neg h0,if_neg h0];have hq:q.toNat<a:=by omega
   have e:(S.take a)[q.toNat]? =S[q.toNat]? :=List.getElem?_take_of_lt hq;rw[e];have hql:q.toNat<S.length:=by omega
   rw[List.getElem?_eq_getElem hql];dsimp only;have hp:=(hF q.toNat hql).2
   have:parS S q.toNat=S[q.toNat].2.2:=by
    unfold parS List.getD;rw[List.getElem?_eq_getElem hql];rfl
   rw[this]at hp;rw[zoo hF ha f _ (by omega)]
theorem zjD {S:List Sc} {a:Nat} (h:a<S.length):parS S a=S[a].2.2:=by
 unfold parS List.getD;rw[List.getElem?_eq_getElem h];rfl
theorem zp9 {s:Sc} (hn:zhz s.1=true) (ht:0≤s.2.1∧s.2.1≤4):zp1 (zl3 s)=zlC::([zhx zl4 s.2.1,s.1]++ [sEnd]):=by
 have h1:=zl7 ht;have h2:=zhB hn;unfold zl3;rw[zqa,List.flatMap_cons,List.flatMap_cons,List.flatMap_cons,List.flatMap_nil,zqb (u:=zlC) (by decide) (by decide),zqb h1.2.1 h1.2.2.1,zqb h2.1 h2.2.1];rfl
theorem zkV {d:DD} (hd:VD d) {s:DS} {a:Nat} (ha:a<d.S.length) (hs:s.S=d.S.take a) (hn:s.now=parS d.S a) (hk:s.skip=0) (he:s.ended=false):
 Rd s (zp1 (zl3 d.S[a])) {s with S:=d.S.take (a+1),now:=a}:=by
 have hm:=hd.sm d.S[a] (List.getElem_mem ha);have h1:=zl7 hm.2;have h2:=zhB hm.1;rw[zp9 hm.1 hm.2];refine zkW he (by decide) (fun y hy=>?_) (fun w cw hw hc=>?_)
 ·rcases List.mem_cons.1 hy with rfl|hy
  ·exact h1.2.2.2
  ·rw[List.mem_singleton.1 hy];exact h2.2.2
 have h3:(cAt cw 0).1=zhx zl4 d.S[a].2.1:=by rw[zbt,hc];rfl
 have h4:(cAt cw 1).1=d.S[a].1:=by rw[zbt,hc];rfl
 have h5:cw.length=2:=by rw[←zn2,hc];rfl
 have hpa:=zjD ha
 have hf:zd6 s.S s.now d.S[a].1=none:=by
  unfold zd6;rw[List.findIdx?_eq_none_iff];intro x hx;rw[hs]at hx;rw[←Bool.not_eq_true,Bool.and_eq_true,decide_eq_true_iff,decide_eq_true_iff];rintro⟨e1,e2⟩;obtain⟨i,hi,rfl⟩:=List.mem_iff_getElem.1 hx;have hi2:i<a:=by rw[List.length_take]at hi;omega
  rw[List.getElem_take]at e1 e2;have hnd:=hd.sk;rw[List.Nodup,List.pairwise_iff_getElem]at hnd;refine hnd i a (by rw[List.length_map];omega) (by rw[List.length_map];exact ha) hi2 ?_;rw[List.getElem_map,List.getElem_map];unfold zlM;rw[e1,e2,hn,hpa]
 have hdep:zdb s.S s.now<8:=by
  unfold zdb;have hpl:=(hd.sf a ha);rw[hs,List.length_take,Nat.min_eq_left (Nat.le_of_lt ha),hn,zoo hd.sf (Nat.le_of_lt ha) _ _ hpl.2];have hu:=hd.su a ha;unfold upL at hu;rw[if_neg (by omega),Int.toNat_natCast,List.getElem?_eq_getElem ha]at hu;dsimp only at hu;rw[←hpa,List.length_cons]at hu;have:=zoi hd.sf (a+1) a (parS d.S a) hpl.2;omega
 have hnone:ziH s w cw=none:=by
  unfold ziH;rw[if_neg (by omega),h3,h1.1,if_neg (by simp),h4,hm.1,if_neg (by simp),hf];dsimp only;rw[if_neg];have:=hd.sn;rw[hs,List.length_take];rintro(h|h)
  ·omega
  ·rw[hs]at hdep;omega
 unfold secP;have hw:w.1=zlC:=hw;rw[hw,if_neg (by decide),if_neg (by decide),if_neg (by decide),if_neg (by decide),if_pos rfl];unfold zl1;rw[if_neg (by omega),hnone];dsimp only;unfold ziM;rw[h4,hf];dsimp only;rw[h3,h1.1,hs,hn,hpa,List.length_take,Nat.min_eq_left (Nat.le_of_lt ha),List.take_succ_eq_append_getElem ha]
theorem zkX {s:DS} (h0:0≤s.now) (hk:s.skip=0) (he:s.ended=false):Rd s (zp1 (secT [zlE])) {s with now:=parS s.S s.now.toNat}:=by
 rw[show zp1 (secT [zlE])=zlE::([]++ [sEnd])by decide];refine zkW he (by decide) (fun y hy=>by cases hy) (fun w cw hw hc=>?_);have hl:cw.length=0:=by rw[←zn2,hc];rfl
 unfold secP;have hw:w.1=zlE:=hw;rw[hw,if_neg (by decide),if_neg (by decide),if_neg (by decide),if_neg (by decide),if_neg (by decide),if_pos rfl];unfold upP;rw[if_neg (by omega),if_neg (by omega)];dsimp only;rw[if_neg (by omega)]
def dLt (D:List Dcl) (k:Int):List Dcl:=D.filter fun x=>decide (x.sc<k)
theorem zg5 (k:Int):∀{D:List Dcl},D.Pairwise (fun x y=>x.sc≤y.sc)→D=dLt D k++(D.filter (fun x=>decide (x.sc=k))++D.filter fun x=>decide (k<x.sc))
 | [],_=>rfl
 |x::D,h=>by
  obtain⟨h1,h2⟩:=List.pairwise_cons.1 h;have ih:=zg5 k h2;unfold dLt at ih⊢;by_cases c1:x.sc<k
  ·rw[List.filter_cons_of_pos (by simpa using c1),List.filter_cons_of_neg (by simp;omega),List.filter_cons_of_neg (by simp;omega),List.cons_append,←ih]
  ·have e1:D.filter (fun x=>decide (x.sc<k))=[]:=by
    rw[List.filter_eq_nil_iff];intro y hy;have:=h1 y hy;simp;omega
   rw[e1,List.nil_append]at ih;rw[List.filter_cons_of_neg (by simpa using c1),e1,List.nil_append];by_cases c2:x.sc=k
   ·rw[List.filter_cons_of_pos (by simpa using c2),List.filter_cons_of_neg (by simp;omega),List.cons_append,←ih]
   ·have e2:D.filter (fun x=>decide (x.sc=k))=[]:=by
     rw[List.filter_eq_nil_iff];intro y hy;have:=h1 y hy;simp;omega
    rw[e2,List.nil_append]at ih;rw[List.filter_cons_of_neg (by simpa using c2),e2,List.nil_append,List.filter_cons_of_pos (by simp;omega),←ih]
theorem zg6 (k:Int):∀{D:List Dcl},D.Pairwise (fun x y=>x.sc≤y.sc)→dLt D (k+1)=dLt D k++D.filter fun x=>decide (x.sc=k)
 | [],_=>rfl
 |x::D,h=>by
  obtain⟨h1,h2⟩:=List.pairwise_cons.1 h;have ih:=zg6 k h2;unfold dLt at ih⊢;by_cases c1:x.sc<k
  ·rw[List.filter_cons_of_pos (by simp;omega),List.filter_cons_of_pos (by simpa using c1),List.filter_cons_of_neg (by simp;omega),ih];rfl
  ·have e1:D.filter (fun x=>decide (x.sc<k))=[]:=by
    rw[List.filter_eq_nil_iff];intro y hy;have:=h1 y hy;simp;omega
   rw[e1,List.nil_append]at ih;rw[List.filter_cons_of_neg (p:=fun x:Dcl=>decide (x.sc<k)) (by simpa using c1),e1,List.nil_append];by_cases c2:x.sc=k
   ·rw[List.filter_cons_of_pos (by simp;omega),List.filter_cons_of_pos (by simpa using c2),ih]
   ·rw[List.filter_cons_of_neg (by simp;omega),List.filter_cons_of_neg (by simpa using c2),ih]
theorem zkZ {d:DD} (hd:VD d) {A R:List Dcl} {p:Int}:∀(G2 G1:List Dcl) (s:DS),d.D=(A++G1)++(G2++R)→s.D=A++G1→s.now=p→s.skip=0→s.ended=false→(∀x∈G2,x.sc=p)→
 Rd s ((G2.map varT).flatMap zp1) {s with D:=(A++G1)++G2}
 | [],G1,s,_,hs,_,_,_,_=>by
   rw[List.append_nil,←hs];exact Rd.refl s
 |x::G2,G1,s,hD,hs,hn,hk,he,hx=>by
  rw[List.map_cons,List.flatMap_cons];have h1:=zkY hd (s:=s) (D0:=A++G1) (D1:=G2++R) (x:=x) (by rw[hD,List.cons_append]) hs (by rw[hn,hx x List.mem_cons_self]) hk he;have h2:=zkZ hd (A:=A) (R:=R) (p:=p) G2 (G1++ [x]) {s with D:=(A++G1)++ [x]} (by rw[hD];simp) (by simp) hn hk he (fun y hy=>hx y (List.mem_cons_of_mem _ hy));have h3:=h1.trans h2;simpa using h3
theorem zkR {a len:Nat} {x:Nat} {l:List Nat} (h:x::l=List.range' a len):x=a∧∃m,len=m+1∧l=List.range' (a+1) m:=by
 cases len with
 |zero=>cases h
 |succ m=>
  rw[List.range'_succ]at h;obtain⟨h1,h2⟩:=List.cons.inj h;exact⟨h1,m,rfl,h2⟩
theorem zkP {a:Nat}:∀{len:Nat} {l m:List Nat},l++m=List.range' a len→l=List.range' a l.length∧m=List.range' (a+l.length) m.length∧len=l.length+m.length:=by
 intro len l m h
 have hl:len=l.length+m.length:=by
  have:=congrArg List.length h;rw[List.length_append,List.length_range']at this;exact this.symm
 rw[hl,←List.range'_append_1]at h;obtain⟨h1,h2⟩:=List.append_inj h (by simp);exact⟨h1,h2,hl⟩
theorem zkT {d:DD} (hd:VD d):∀(f:Nat) (p:Int) (a len:Nat) (s:DS),(d.S.length:Int)<(f:Int)+p+1→p<(d.S.length:Int)→(a:Int)=p+1→pre (parS d.S) d.S.length f p=List.range' a len→
 s.S=d.S.take a→s.D=dLt d.D p→s.now=p→s.skip=0→s.ended=false→
 Rd s ((inT d.S d.D f p).flatMap zp1) {s with S:=d.S.take (a+len),D:=dLt d.D ((a:Int)+len)}
 |0,p,_,_,_,h,hp,_,_,_,_,_,_,_=>by omega
 |f+1,p,a,len,s,h,hp,ha,hP,hS,hD,hn,hk,he=>by
  rw[show inT d.S d.D (f+1) p=(d.D.filter fun x=>decide (x.sc=p)).map varT++(List.range d.S.length).flatMap fun i=>if parS d.S i=p then zl3 (d.S.getD i ([],0,0))::(inT d.S d.D f i++ [secT [zlE]])else []from rfl,List.flatMap_append];have hsp:=zg5 p hd.ds;have h1:=zkZ hd (A:=dLt d.D p) (R:=d.D.filter fun x=>decide (p<x.sc)) (p:=p) (d.D.filter fun x=>decide (x.sc=p)) [] s (by rw[List.append_nil];exact hsp) (by rw[List.append_nil];exact hD) hn hk he (fun x hx=>by simpa using (List.mem_filter.1 hx).2);rw[List.append_nil,←zg6 p hd.ds,←ha]at h1;refine h1.trans ?_
  have key:∀(L:List Nat) (a len:Nat) (s:DS),p<(a:Int)→(∀i∈L,i<d.S.length)→(L.flatMap fun i=>if parS d.S i=p then i::pre (parS d.S) d.S.length f i else [])=List.range' a len→
   s.S=d.S.take a→s.D=dLt d.D (a:Int)→s.now=p→s.skip=0→s.ended=false→
   Rd s ((L.flatMap fun i=>if parS d.S i=p then zl3 (d.S.getD i ([],0,0))::(inT d.S d.D f i++ [secT [zlE]])else []).flatMap zp1) {s with S:=d.S.take (a+len),D:=dLt d.D ((a:Int)+len)}:=by
   intro L;induction L with
   |nil=>
    intro a len s _ _ hr hS hD _ _ _
    have:len=0:=by
     have:=congrArg List.length hr;simpa using this.symm
    subst this;rw[List.flatMap_nil,List.flatMap_nil,Nat.add_zero,←hS,show((a:Int)+((0:Nat):Int))=(a:Int)by omega,←hD];exact Rd.refl s
   |cons i L ih=>
    intro a len s hpa hL hr hS hD hn hk he;rw[List.flatMap_cons]at hr⊢;by_cases hi:parS d.S i=p
    ·rw[if_pos hi]at hr⊢;rw[List.cons_append]at hr;obtain⟨hia,m,hlm,hr2⟩:=zkR hr;subst hia;subst hlm;obtain⟨r1,r2,r3⟩:=zkP hr2;have hil:=hL i List.mem_cons_self;rw[List.flatMap_append,List.flatMap_cons,List.flatMap_append,show d.S.getD i ([],0,0)=d.S[i]by simp[List.getD,hil]];have q1:=zkV hd hil hS (by rw[hn,hi]) hk he;have q2:=zkT hd f (i:Int) (i+1) (pre (parS d.S) d.S.length f (i:Int)).length {s with S:=d.S.take (i+1),now:=(i:Int)} (by omega) (by omega) (by omega) r1 rfl hD rfl hk he;have q3:=zkX (s:={({s with S:=d.S.take (i+1),now:=(i:Int)}:DS)with S:=d.S.take (i+1+(pre (parS d.S) d.S.length f (i:Int)).length),D:=dLt d.D (((i+1:Nat):Int)+((pre (parS d.S) d.S.length f (i:Int)).length:Int))}) (by show(0:Int)≤(i:Int);omega) hk he
     have hpn:parS (d.S.take (i+1+(pre (parS d.S) d.S.length f (i:Int)).length)) ((i:Int)).toNat=p:=by
      rw[Int.toNat_natCast,←hi];unfold parS List.getD;rw[List.getElem?_take_of_lt (by omega)]
     dsimp only at q3;rw[hpn]at q3
     have q4:=ih (i+1+(pre (parS d.S) d.S.length f (i:Int)).length) _ {s with S:=d.S.take (i+1+(pre (parS d.S) d.S.length f (i:Int)).length),D:=dLt d.D (((i+1:Nat):Int)+((pre (parS d.S) d.S.length f (i:Int)).length:Int)),now:=p} (by omega) (fun j hj=>hL j (List.mem_cons_of_mem _ hj)) r2 rfl (by
      show dLt d.D _=dLt d.D _;congr 1) rfl hk he
     have q5:=((q1.trans (q2.trans (q3.trans (Rd.refl _)))).trans q4);rw[List.append_nil]at q5;have e1:i+1+(pre (parS d.S) d.S.length f (i:Int)).length+(L.flatMap fun i=>if parS d.S i=p then i::pre (parS d.S) d.S.length f i else []).length=i+(m+1):=by omega
     have e2:((i+1+(pre (parS d.S) d.S.length f (i:Int)).length:Nat):Int)+(((L.flatMap fun i=>if parS d.S i=p then i::pre (parS d.S) d.S.length f i else []).length:Nat):Int)=(i:Int)+((m+1:Nat):Int):=by omega
     rw[e1,e2]at q5;simpa[hn] using q5
    ·rw[if_neg hi]at hr⊢;exact ih a len s hpa (fun j hj=>hL j (List.mem_cons_of_mem _ hj)) hr hS hD hn hk he
  exact key (List.range d.S.length) a len {s with D:=dLt d.D (a:Int)} (by omega) (fun i hi=>List.mem_range.1 hi) hP hS rfl hn hk he
theorem zlZ:∀i:Fin 18,zgc (zp1 (zlV.getD i.val []))=zlV.getD i.val []∧zlR (zlV.getD i.val [])=((i.val:Int)-15,0)∧zlV.getD i.val []≠ []∧∀w∈zp1 (zlV.getD i.val []),w≠sEnd:=by decide+kernel
theorem zlW {n:Int} (h: -15≤n∧n≤2):zgc (zp1 (zlU n))=zlU n∧zlR (zlU n)=(n,0)∧zlU n≠ []∧∀w∈zp1 (zlU n),w≠sEnd:=by
 have:=zlZ ⟨(n+15).toNat,by omega⟩;dsimp only at this;unfold zlU;rw[if_neg (by omega)];rwa [show(((n+15).toNat:Nat):Int)-15=n by omega]at this
theorem zqc (k t:Bs) (hk:(∀c∈k,isW c=false)∧k≠ []):zp1 (secT [k,t])=k::(zp1 t++ [sEnd]):=by
 rw[zqa,List.flatMap_cons,List.flatMap_cons,List.flatMap_nil,zqb hk.1 hk.2,List.append_nil];rfl
theorem zkU {s s':DS} {k t:Bs} (hk:(∀c∈k,isW c=false)∧k≠ []) (hw:isKw k=true) (he:s.ended=false) (h0:t=[]→s=s') (h1:t≠ []→(∀w∈zp1 t,w≠sEnd)∧∀w cw,w.1=k→txt cw=zp1 t→secP s w cw=s'):Rd s ((optT k t).flatMap zp1) s':=by
 unfold optT;by_cases ht:t=[]
 ·rw[if_pos ht,h0 ht];exact Rd.refl _
 ·rw[if_neg ht,List.flatMap_cons,List.flatMap_nil,List.append_nil,zqc k t hk];exact zkW he hw (h1 ht).1 (h1 ht).2
theorem zk0 {d:DD} (hd:VD d) {ws:List Wd} (hw:ws.map (·.1)=zp1 (fmtD d)):
 ∃s,zjK ws=(s,ws.length)∧s.wrong=[]∧s.sc=d.sc∧s.dt=d.dt∧s.vn=d.vn∧s.cm=d.cm∧s.S=d.S∧s.D=d.D:=by
 have hwl:=zp6 (zgR d) [];rw[List.append_nil,show zp1 []=[]from rfl,List.append_nil]at hwl;unfold fmtD at hw;rw[hwl]at hw;obtain⟨b1,hb1⟩:∃b,b=!decide (d.dt=[]):=⟨_,rfl⟩;obtain⟨b2,hb2⟩:∃b,b=!decide (d.vn=[]):=⟨_,rfl⟩;obtain⟨b3,hb3⟩:∃b,b=!decide (d.cm=[]):=⟨_,rfl⟩
 have r1:Rd ds0 ((optT zlw d.dt).flatMap zp1) {ds0 with dt:=d.dt,dtd:=b1}:=zkU (by decide) (by decide) rfl (fun h=>by rw[hb1,h];rfl) (fun h=>by
  obtain⟨w1,w2,w3⟩:=zp7 hd.dt h;rw[w1];refine⟨w3,fun w cw hk hc=>?_⟩;unfold secP;rw[if_pos hk];unfold zcG;rw[hc,w2,if_neg (by simp),if_neg (by simp[ds0]),hb1,decide_eq_false h];rfl)
 have r2:Rd {ds0 with dt:=d.dt,dtd:=b1} ((optT zlF d.vn).flatMap zp1) {ds0 with dt:=d.dt,dtd:=b1,vn:=d.vn,vnd:=b2}:=zkU (by decide) (by decide) rfl (fun h=>by rw[hb2,h];rfl) (fun h=>by
  obtain⟨w1,w2,w3⟩:=zp7 hd.vn h;rw[w1];refine⟨w3,fun w cw hk hc=>?_⟩;unfold secP;rw[hk,if_neg (by decide),if_pos rfl];unfold zpc;rw[hc,w2,if_neg (by simp),if_neg (by simp[ds0]),hb2,decide_eq_false h];rfl)
 have r3:Rd {ds0 with dt:=d.dt,dtd:=b1,vn:=d.vn,vnd:=b2} ((optT zlv d.cm).flatMap zp1) {ds0 with dt:=d.dt,dtd:=b1,vn:=d.vn,vnd:=b2,cm:=d.cm,cmd:=b3}:=zkU (by decide) (by decide) rfl (fun h=>by rw[hb3,h];rfl) (fun h=>by
  obtain⟨w1,w2,w3⟩:=zp7 hd.cm h;rw[w1];refine⟨w3,fun w cw hk hc=>?_⟩;unfold secP;rw[hk,if_neg (by decide),if_neg (by decide),if_pos rfl];unfold zb9;rw[hc,w2,if_neg (by simp),if_neg (by simp[ds0]),hb3,decide_eq_false h];rfl)
 obtain⟨t1,t2,t3,t4⟩:=zlW hd.sc
 have r4:Rd {ds0 with dt:=d.dt,dtd:=b1,vn:=d.vn,vnd:=b2,cm:=d.cm,cmd:=b3} ((optT zlD (zlU d.sc)).flatMap zp1) {ds0 with sc:=d.sc,scd:=true,dt:=d.dt,dtd:=b1,vn:=d.vn,vnd:=b2,cm:=d.cm,cmd:=b3}:=zkU (by decide) (by decide) rfl (fun h=>absurd h t3) (fun h=>by
  refine⟨t4,fun w cw hk hc=>?_⟩;unfold secP;rw[hk,if_neg (by decide),if_neg (by decide),if_neg (by decide),if_pos rfl];unfold zlQ;rw[hc,t1,t2,if_neg (by simp),if_neg (by simp[ds0])])
 have hlt0:dLt d.D (-1)=[]:=by
  unfold dLt;rw[List.filter_eq_nil_iff];intro x hx;have:=(hd.dv x hx).sc;simp;omega
 have hltn:dLt d.D ((0:Nat)+(d.S.length:Nat):Int)=d.D:=by
  unfold dLt;rw[List.filter_eq_self];intro x hx;have:=(hd.dv x hx).sc;simp;omega
 have r5:=zkT hd (d.S.length+1) (-1) 0 d.S.length {ds0 with sc:=d.sc,scd:=true,dt:=d.dt,dtd:=b1,vn:=d.vn,vnd:=b2,cm:=d.cm,cmd:=b3} (by omega) (by omega) rfl (by
  rw[←List.range_eq_range'];exact hd.sp) (by simp[ds0]) (by rw[hlt0];rfl) rfl rfl rfl
 rw[Nat.zero_add,List.take_of_length_le (Nat.le_refl _),hltn]at r5
 have r6:∀s:DS,s.ended=false→Rd s ([secT [zlB]].flatMap zp1) {s with ended:=true}:=fun s he=>by
  rw[show [secT [zlB]].flatMap zp1=zlB::([]++ [sEnd])by decide];refine zkW he (by decide) (fun y hy=>by cases hy) (fun w cw hk hc=>?_);have hl:cw.length=0:=by rw[←zn2,hc];rfl
  unfold secP;have hk:w.1=zlB:=hk;rw[hk,if_neg (by decide),if_neg (by decide),if_neg (by decide),if_neg (by decide),if_neg (by decide),if_neg (by decide),if_neg (by decide),if_pos rfl];unfold endD;dsimp only;rw[if_neg (by omega)]
 have rr:=r1.trans (r2.trans (r3.trans (r4.trans (r5.trans (r6 _ rfl)))))
 have hh:=rr ws [] (by
  rw[hw];unfold zgR;rw[List.flatMap_append,List.flatMap_append,List.flatMap_append,List.flatMap_append,List.flatMap_append])
 rw[List.append_nil,zcD]at hh;refine⟨_,hh.trans (Prod.ext rfl (Nat.zero_add _)),rfl,rfl,rfl,rfl,rfl,rfl,rfl⟩
def zmp (s:List Bs) (c:Bs):List Bs:=if c∈s then s else s++ [c]
theorem zmq (s:List Bs) (c:Bs):c∈zmp s c:=by
 unfold zmp;split
 ·assumption
 ·simp
def vrD (x:Dcl) (k:Int):Vr:=⟨x.nm,x.ty,x.sc,k,x.rg,x.mb,x.lb⟩
def zoY:List Dcl→List Bs→List Vr
 | [],_=> []
 |x::l,s=>vrD x ((zmp s x.code).idxOf x.code:Nat)::zoY l (zmp s x.code)
theorem zo0:∀(l:List Dcl) (s:List Bs),(zoY l s).length=l.length
 | [],_=>rfl
 |x::l,s=>by rw[zoY,List.length_cons,List.length_cons,zo0 l]
theorem zo1 {β:Type} (g:Vr→β) (g':Dcl→β) (hg:∀x k,g (vrD x k)=g' x):∀(l:List Dcl) (s:List Bs),(zoY l s).map g=l.map g'
 | [],_=>rfl
 |x::l,s=>by rw[zoY,List.map_cons,List.map_cons,hg,zo1 g g' hg l]
theorem zo3:∀(l:List Dcl) (s:List Bs),∀v∈zoY l s,0≤v.sg
 | [],_,v,h=>by cases h
 |x::l,s,v,h=>by
  rcases List.mem_cons.1 h with rfl|h
  ·exact Int.natCast_nonneg _
  ·exact zo3 l _ v h
theorem zo2:∀(l:List Dcl) (s:List Bs),seqN s.length (zoY l s)=some (zmr l s).length
 | [],_=>rfl
 |x::l,s=>by
  have ih:=zo2 l (zmp s x.code);show(if(s.length:Int)<((zmp s x.code).idxOf x.code:Nat)then none else if(((zmp s x.code).idxOf x.code:Nat):Int)=(s.length:Int)then seqN (s.length+1) (zoY l (zmp s x.code))else seqN s.length (zoY l (zmp s x.code)))=some (zmr l (zmp s x.code)).length;by_cases h:x.code∈s
  ·have e:zmp s x.code=s:=if_pos h;rw[e]at ih⊢;have:=List.idxOf_lt_length_of_mem h;rw[if_neg (by omega),if_neg (by omega)];exact ih
  ·have e:zmp s x.code=s++ [x.code]:=if_neg h;rw[e]at ih⊢
   have:(s++ [x.code]).idxOf x.code=s.length:=by
    rw[List.idxOf_append,if_neg h];simp
   rw[this,if_neg (by omega),if_pos rfl];rw[List.length_append]at ih;exact ih
def oldD (D:List Dcl) (x:Dcl):Dcl:=(D.find? fun y=>decide (y.code=x.code)).getD x
def okV (o x:Dcl):Bool:=decide (x.sg=0)&&zb1 x.code&&decide (x.kind=zgo x.ty)&&vt x.kind x.width&&(!x.rg||(decide (x.kind=0)&&decide (zpX x.mb x.lb=x.width)))&&decide (o.kind=x.kind)&&decide (o.width=x.width)
def hOk (S:List Sc) (V:List Vr):Bool:=decide (zbF S V=0)&&decide (scF S=S)&&decide ((vrF S V).1=V)
def zoN (d:DD):Bool:=decide (-15≤d.sc)&&decide (d.sc≤2)&&zp2 d.dt&&zp2 d.vn&&zp2 d.cm&&d.D.all (fun x=>okV (oldD d.D x) x)&&decide ((zmr d.D []).length≤64)&&hOk d.S (zoY d.D [])
theorem ziB {D:List Dcl} {x:Dcl} (hx:x∈D):oldD D x∈D∧(oldD D x).code=x.code:=by
 unfold oldD;cases h:D.find? fun y=>decide (y.code=x.code)with
 |none=>exact⟨hx,rfl⟩
 |some y=>exact⟨List.mem_of_find?_eq_some h,of_decide_eq_true (List.find?_some (p:=fun y:Dcl=>decide (y.code=x.code)) h)⟩
theorem ziA {D:List Dcl} {x y:Dcl} (hx:x∈D) (h:x.code=y.code):oldD D x=oldD D y:=by
 unfold oldD;rw[h];cases hf:D.find? fun z=>decide (z.code=y.code)with
 |some z=>rfl
 |none=>exact absurd (List.find?_eq_none.1 hf x hx) (by simp[h])
theorem zeD {S:List Sc} {V:List Vr}:hOk S V=true↔ ∃m,HierR S V m:=by
 unfold hOk;rw[Bool.and_eq_true,Bool.and_eq_true,decide_eq_true_iff,decide_eq_true_iff,decide_eq_true_iff];constructor
 ·rintro⟨⟨h1,h2⟩,h3⟩;have h4:=(zi9 h1).2.2;rw[h2,h3]at h4;refine⟨(vrF S V).2.length,ze5.2 ?_⟩;unfold zi8;rw[if_neg (by rw[h1];simp),h2,h4,zli]
 ·rintro⟨m,h⟩;have h0:=h.c;have h1:=ze5.1 h;unfold zi8 at h1;rw[if_neg (by rw[h0];simp)]at h1;injection h1 with h1 h2;injection h2 with h2 _;exact⟨⟨h0,h1⟩,h2⟩
theorem zpA {k n:Int}:vt k n=true↔(k=0∧1≤n∧n≤128)∨((k=1∨k=2∨k=3)∧n=0):=by
 unfold vt;simp only[Bool.or_eq_true,Bool.and_eq_true,decide_eq_true_iff];omega
theorem zgp (t:Int):zgo t=0∨zgo t=1∨zgo t=2∨zgo t=3:=by
 unfold zgo;split
 ·simp
 ·split
  ·simp
  ·split<;>simp
theorem ziz {o x:Dcl}:okV o x=true↔x.sg=0∧zb1 x.code=true∧x.kind=zgo x.ty∧vt x.kind x.width=true∧(x.rg=true→x.kind=0∧zpX x.mb x.lb=x.width)∧o.kind=x.kind∧o.width=x.width:=by
 unfold okV;simp only[Bool.or_eq_true,Bool.and_eq_true,decide_eq_true_iff,Bool.not_eq_true'];constructor
 ·rintro⟨⟨⟨⟨⟨⟨h1,h2⟩,h3⟩,h4⟩,h5⟩,h6⟩,h7⟩;refine⟨h1,h2,h3,h4,fun h=>?_,h6,h7⟩;rcases h5 with h5|h5
  ·rw[h5]at h;cases h
  ·exact h5
 ·rintro⟨h1,h2,h3,h4,h5,h6,h7⟩;refine⟨⟨⟨⟨⟨⟨h1,h2⟩,h3⟩,h4⟩,?_⟩,h6⟩,h7⟩;cases h:x.rg with
  |false=>exact .inl rfl
  |true=>exact .inr (h5 h)
theorem zpY {m l:Int} (h:zpX m l≠0):zba m=true∧zba l=true:=by
 unfold zpX at h;by_cases hb:(zba m&&zba l)=true
 ·rwa [Bool.and_eq_true]at hb
 ·rw[if_neg hb]at h;exact absurd rfl h
theorem zoP {d:DD}:zoN d=true↔VD d:=by
 unfold zoN;simp only[Bool.and_eq_true,decide_eq_true_iff,List.all_eq_true,ziz,zeD];have key:(zoY d.D []).map zpk=d.D.map dKey:=zo1 _ _ (fun _ _=>rfl) _ _;constructor
 ·rintro⟨⟨⟨⟨⟨⟨⟨h1,h2⟩,h3⟩,h4⟩,h5⟩,h6⟩,h7⟩,m,h8⟩;have hc:=zbN.1 h8.c;have hF:=zc0 hc.d;have hV:=zc6 hc.d
  have hp:preS d.S=List.range d.S.length:=by
   have h9:=ze5.1 h8;unfold zi8 at h9;rw[if_neg (by rw[h8.c];simp)]at h9;injection h9 with h9 _;have:=zkc hF;rwa [h9]at this
  have fromV:∀{p:Dcl→Prop} (q:Vr→Prop),(∀v∈zoY d.D [],q v)→(∀x k,q (vrD x k)→p x)→∀x∈d.D,p x:=fun{p} q hq hpq x hx=>by
   have e:(zoY d.D []).map (fun v=>(v.nm,v.ty,v.sc,v.rg,v.mb,v.lb))=d.D.map (fun x=>(x.nm,x.ty,x.sc,x.rg,x.mb,x.lb)):=zo1 _ _ (fun _ _=>rfl) _ _
   have hx':(x.nm,x.ty,x.sc,x.rg,x.mb,x.lb)∈(zoY d.D []).map (fun v=>(v.nm,v.ty,v.sc,v.rg,v.mb,v.lb)):=by
    rw[e];exact List.mem_map.2 ⟨x,hx,rfl⟩
   obtain⟨v,hv,he⟩:=List.mem_map.1 hx';simp only[Prod.mk.injEq]at he;obtain⟨e1,e2,e3,e4,e5,e6⟩:=he;have:=hq v hv;refine hpq x v.sg ?_
   have ev:v=vrD x v.sg:=by
    obtain⟨a1,a2,a3,a4,a5,a6,a7⟩:=v;dsimp only at e1 e2 e3 e4 e5 e6;subst e1 e2 e3 e4 e5 e6;rfl
   rwa [←ev]
  have g1:∀x∈d.D,-1≤x.sc∧x.sc<(d.S.length:Int):=fromV (fun v=> -1≤v.sc∧v.sc<(d.S.length:Int)∧0≤v.sg) hV fun x k h=>⟨h.1,h.2.1⟩;have g2:∀x∈d.D,zhz x.nm=true:=fromV (fun v=>zhz v.nm=true) hc.nv fun x k h=>h;have g3:∀x∈d.D,0≤x.ty∧x.ty≤18:=fromV (fun v=>0≤v.ty∧v.ty≤18) hc.tv fun x k h=>h;have g4:∀x∈d.D,zkJ (vrD x 0)=false:=fromV (fun v=>zkJ v=false) hc.r fun x k h=>h;refine{sc:=⟨h1,h2⟩,dt:=h3,vn:=h4,cm:=h5,sn:=hc.n,sm:=fun s hs=>⟨hc.ns s hs,hc.ts s hs⟩,sk:=hc.ks,sp:=hp,sf:=hF,su:=hc.u,dn:=?_,dk:=?_,ds:=?_,dc:=?_,dv:=fun x hx=>?_,dm:=fun x hx y hy hxy=>?_}
  ·have:=hc.m;rwa [zo0]at this
  ·have:=hc.kv;rwa [key]at this
  ·have h9:=h8.s;unfold Srt at h9;have:=(List.pairwise_map (f:=fun v:Vr=>v.sc) (R:=fun a b:Int=>a≤b)).2 h9;rw[zo1 (fun v:Vr=>v.sc) (fun x:Dcl=>x.sc) (fun _ _=>rfl)]at this;exact List.pairwise_map.1 this
  ·rw[zb6];exact h7
  ·obtain⟨t1,t2,t3,t4,t5,t6,t7⟩:=h6 x hx;have t8:=g4 x hx;unfold zkJ vrD at t8;dsimp only at t8;refine{sc:=g1 x hx,nm:=g2 x hx,ty:=g3 x hx,sg:=t1,r0:=fun hr=>?_,r1:=fun hr=>?_,cd:=t2,kd:=t3,w0:=fun hk=>?_,w1:=fun hk=>?_}
   ·rw[hr,if_neg (by simp)]at t8;simpa using t8
   ·rw[if_pos hr]at t8;obtain⟨b1,b2⟩:=zpY (of_decide_eq_false t8);exact⟨(t5 hr).1,b1,b2,(t5 hr).2⟩
   ·have:=zpA.1 t4;omega
   ·have:=zpA.1 t4;omega
  ·have a:=(h6 x hx).2.2.2.2.2;have b:=(h6 y hy).2.2.2.2.2;rw[ziA hx hxy]at a;exact⟨a.1.symm.trans b.1,a.2.symm.trans b.2⟩
 ·intro h
  have toV:∀{q:Vr→Prop} (p:Dcl→Prop),(∀x∈d.D,p x)→(∀x k,p x→q (vrD x k))→∀v∈zoY d.D [],q v:=fun{q} p hp hpq=>by
   have:∀(l:List Dcl) (s:List Bs),(∀x∈l,p x)→∀v∈zoY l s,q v:=fun l=>by
    induction l with
    |nil=>intro s _ v hv;cases hv
    |cons x l ih=>
     intro s hl v hv;rcases List.mem_cons.1 hv with rfl|hv
     ·exact hpq _ _ (hl x List.mem_cons_self)
     ·exact ih _ (fun y hy=>hl y (List.mem_cons_of_mem _ hy)) v hv
   exact this d.D [] hp
  refine⟨⟨⟨⟨⟨⟨⟨h.sc.1,h.sc.2⟩,h.dt⟩,h.vn⟩,h.cm⟩,fun x hx=>?_⟩,?_⟩,(zmr d.D []).length,?_⟩
  ·have v:=h.dv x hx;obtain⟨o1,o2⟩:=ziB hx;have o3:=h.dm _ o1 x hx o2;refine⟨v.sg,v.cd,v.kd,zpA.2 ?_,fun hr=>⟨(v.r1 hr).1,(v.r1 hr).2.2.2⟩,o3.1,o3.2⟩;by_cases hk:x.kind=0
   ·have:=v.w0 hk;omega
   ·have:=v.w1 hk;have:=zgp x.ty;rw[←v.kd]at this;omega
  ·have:=h.dc;rwa [zb6]at this
  ·have hV:∀v∈zoY d.D [],-1≤v.sc∧v.sc<(d.S.length:Int):=toV (fun x=>VV d.S.length x) h.dv fun x k v=>v.sc
   have hC:zbF d.S (zoY d.D [])=0:=zbN.2
    {n:=h.sn,m:=by rw[zo0];exact h.dn,d:=zc2 h.sf fun v hv=>⟨(hV v hv).1,(hV v hv).2,zo3 _ _ v hv⟩,u:=h.su
     ns:=fun s hs=>(h.sm s hs).1,nv:=toV (fun x=>VV d.S.length x) h.dv fun x k v=>v.nm
     ts:=fun s hs=>(h.sm s hs).2,tv:=toV (fun x=>VV d.S.length x) h.dv fun x k v=>v.ty
     r:=toV (fun x=>VV d.S.length x) h.dv fun x k v=>by
      unfold zkJ vrD;dsimp only;cases hr:x.rg with
      |false=>
       rw[if_neg (by simp),(v.r0 hr).1,(v.r0 hr).2];rfl
      |true=>
       have t:=v.r1 hr;have t2:=v.w0 t.1;rw[if_pos rfl,decide_eq_false];omega
     ks:=h.sk,kv:=by rw[key];exact h.dk}
   refine ze5.2 ?_;have e1:=zlJ h.sf h.sp;have e2:=zpj (fun v hv=>(hV v hv).2) h.sp;have e3:=zmE (zoY d.D []) 0 (zmr d.D []).length (zo3 _ _) (zo2 d.D [])
   have e4:Srt (fun v:Vr=>v.sc) (zoY d.D []):=by
    unfold Srt;have:=(List.pairwise_map (f:=fun x:Dcl=>x.sc) (R:=fun a b:Int=>a≤b)).2 h.ds;rw[←zo1 (fun v:Vr=>v.sc) (fun x:Dcl=>x.sc) (fun _ _=>rfl) d.D []]at this;exact List.pairwise_map.1 this
   unfold zi8 vrF vr2;rw[if_neg (by rw[hC];simp),e1,e2,zfN e4];rw[show rgI 0=[]from rfl]at e3;rw[e3]
open Go.RowKit
set_option linter.unusedSimpArgs false
def zgh (L:List ByteArray):ByteArray:=if zgb L=0 then⟨(Lib.join (L.map (·.data.toList)) [32]).toArray⟩else⟨#[]⟩
theorem zkC (g c:Nat) (L:List ByteArray) (w:World) (hc:∀(j:Nat) x,L[j]? =some x→w.cell? ⟨g,j,none⟩=some (.string x)) (hg:g<w.heap.size) (hL:L.length≤1000000) (hcap:L.length≤c)
 (hx:∀x∈L,x.size≤2000000) (hz:(Lib.join (L.map (·.data.toList)) [32]).length≤2000000):
 Calls Tryz.prog 138 #[.slice (some ⟨g,0,none⟩) L.length c] w fun e w'=>
  e=.returned (.tuple #[.string (zgh L),.int .i64 (zgb L)])∧Below w.heap.size w w':=by
 have HC:=lhd hc;have HX:=lhd hx;obtain⟨J,hJ⟩:∃J,J=Lib.join (L.map (·.data.toList)) [32]:=⟨_,rfl⟩;rw[←hJ]at hz;have HJ:=lhd hJ
 have HJoin:=lhd (fun(W:World) (hb:Below w.heap.size w W)=>Tryz.strings_Join g 0 c L ⟨#[32]⟩ W (fun j x h=>by rw[Nat.zero_add];exact(hb.cell (p:=⟨g,j,none⟩) hg).trans (hc j x h)) (Nat.lt_of_lt_of_le hg hb.size) (by omega) hcap (by
  show(Lib.join (L.map (·.data.toList)) [32]).length≤_;rw[←hJ];omega))
 clear hc hx hJ;have HB0:=lhd (Below.refl w.heap.size w);go_enter Tryz.func138,Tryz.ntmps138;go_wp2_with fail;go_loopw [9] (fun i wr=>∃k:Nat,k≤L.length∧i=.int .i64 k∧(L.take k).all (fun x=>zpZ x.data.toList)=true∧Below w.heap.size w wr) (fun i _=>L.length-(intOf i).toNat)
 case atStart=>exact⟨0,Nat.zero_le _,rfl,rfl,HB0.out⟩
 case round=>
  obtain⟨k,hk,rfl,hal,hb⟩:=hrel;have HB:=lhd hb;have HA:=lhd hal;clear hal hb;by_cases hlt:k<L.length
  ·have d0:wr.cell? ⟨g,k,none⟩=some (.string L[k]):=(HB.out.cell (p:=⟨g,k,none⟩) hg).trans (HC.out k _ (List.getElem?_eq_getElem hlt));have HW:=lhd (zkG L[k] wr (HX.out _ (List.getElem_mem hlt)));by_cases hw:zpZ L[k].data.toList=true
   ·rw[hw]at HW
    have HA2:=lhd (show(L.take (k+1)).all (fun x=>zpZ x.data.toList)=true by
     rw[List.take_succ_eq_append_getElem hlt,List.all_append,HA.out];simp[hw])
    clear hw;generalize L[k]=x at*;go_wp2_with fail;refine HW.out.mono ?_;rintro e w1 ⟨rfl,hb1⟩;have HB1:=lhd (HB.out.trans (hb1.mono HB.out.size));clear hb1;go_wp2_with fail;go_roundw;case rel=>exact⟨k+1,hlt,by go_num,HA2.out,HB1.out⟩
    case measure=>simp[intOf];omega
   ·have hwf:zpZ L[k].data.toList=false:=by simpa using hw
    rw[hwf]at HW
    have HR:=lhd (show(3:Int)=zgb L by
     unfold zgb;rw[←HJ.out];rw[if_neg];intro h;rw[List.all_eq_true]at h;exact hw (h _ (List.getElem_mem hlt)))
    clear hw hwf;generalize L[k]=x at*;go_wp2_with fail;refine HW.out.mono ?_;rintro e w1 ⟨rfl,hb1⟩;have HB1:=lhd (HB.out.trans (hb1.mono HB.out.size));clear hb1;go_wp2_with fail;refine bodyPost_ret (v:=.tuple #[.string ⟨#[]⟩,.int .i64 3]) (by simp[results,Tryz.results138,go_sem]) rfl ?_;exact⟨by unfold zgh;rw[←HR.out];rfl,HB1.out⟩
  ·obtain rfl:k=L.length:=by omega
   have hal:L.all (fun x=>zpZ x.data.toList)=true:=by have:=HA.out;rwa [List.take_length]at this
   have HAL:=lhd hal;clear hal hlt;obtain⟨SS,hSS⟩:∃SS:ByteArray,SS=⟨(Lib.join (L.map (·.data.toList)) [32]).toArray⟩:=⟨_,rfl⟩;have hsz:SS.size=J.length:=by rw[hSS,HJ.out];rfl
   have HJN:=HJoin.out wr HB.out;rw[show(Lib.join (L.map (·.data.toList)) (⟨#[32]⟩:ByteArray).data.toList)=(Lib.join (L.map (·.data.toList)) [32])from rfl,←hSS]at HJN;have HJN:=lhd HJN;have HSS:=lhd hSS;clear hSS;by_cases h200:200<J.length
   ·have h2:(200:Int)<(SS.size:Int):=by omega
    have HR:=lhd (show(9:Int)=zgb L by
     unfold zgb;rw[←HJ.out];rw[if_pos HAL.out,if_pos h200])
    clear h200 hsz;go_wp2_with fail;refine HJN.out.mono ?_;rintro e w1 ⟨rfl,hb1⟩;have HB1:=lhd (HB.out.trans (hb1.mono HB.out.size));clear hb1;go_wp2_with fail;refine bodyPost_ret (v:=.tuple #[.string ⟨#[]⟩,.int .i64 9]) (by simp[results,Tryz.results138,go_sem]) rfl ?_;exact⟨by unfold zgh;rw[←HR.out];rfl,HB1.out⟩
   ·have h2:¬(200:Int)<(SS.size:Int):=by omega
    have HR:=lhd (show(0:Int)=zgb L by
     unfold zgb;rw[←HJ.out];rw[if_pos HAL.out,if_neg h200])
    clear h200 hsz;go_wp2_with fail;refine HJN.out.mono ?_;rintro e w1 ⟨rfl,hb1⟩;have HB1:=lhd (HB.out.trans (hb1.mono HB.out.size));clear hb1;go_wp2_with fail;refine bodyPost_ret (v:=.tuple #[.string SS,.int .i64 0]) (by simp[results,Tryz.results138,go_sem]) rfl ?_;exact⟨by unfold zgh;rw[←HR.out,if_pos rfl,←HSS.out],HB1.out⟩
theorem zhe (l:List Bs):(l.map bsB).map (fun x=>x.data.toList)=l:=by
 rw[List.map_map];have:((fun x:ByteArray=>x.data.toList)∘bsB)=id:=funext fun x=>zbh x;rw[this,List.map_id]
theorem zaE (l:List Bs):(l.map bsB).all (fun x=>zpZ x.data.toList)=l.all zpZ:=by
 rw[List.all_map];have:((fun x:ByteArray=>zpZ x.data.toList)∘bsB)=zpZ:=funext fun x=>by show zpZ (bsB x).data.toList=zpZ x;rw[zbh]
 rw[this]
theorem zgj (l:List Bs):zgh (l.map bsB)=bsB (zgg l).1∧zgb (l.map bsB)=(zgg l).2:=by
 unfold zgh zgb zgg;rw[zaE,zhe,←zgi];cases h:l.all zpZ with
 |false=>exact⟨rfl,rfl⟩
 |true=>
  by_cases h2:200<(zgc l).length
  ·simp only[h2,if_true,Bool.true_eq_false,if_false];exact⟨rfl,trivial⟩
  ·simp only[h2,if_true,Bool.true_eq_false,if_false];exact⟨rfl,trivial⟩
theorem zcb (n:Int) (w:World) (hg:Glob w) (h: -32768≤n∧n≤999999999):Calls Tryz.prog 73 #[.int .i64 n] w fun e w'=>e=.returned (.string (bsB (Lib.itoa n)))∧Below w.heap.size w w':=by
 refine(Tryz.strconv_Itoa n (by omega) (by omega) w hg).mono ?_;rintro e w' ⟨rfl,kk,os,rfl⟩;exact⟨rfl,Lib.below_grow _ _ (Nat.le_refl _) kk os⟩
theorem zfY (n:Int) (h: -32768≤n∧n≤999999999):(bsB (Lib.itoa n)).size≤100:=by
 rw[zbk];have:=Lib.itoa_length_le n (by omega) (by omega);omega
theorem zhO (m l:Int) (w:World) (hg:Glob w):Calls Tryz.prog 128 #[.int .i64 m,.int .i64 l] w fun e w'=>e=.returned (.string (bsB (if(zba m&&zba l)=true then rngT m l else [])))∧Below w.heap.size w w':=by
 have HM:=lhd (zhX m w);have HL:=lhd (zhX l w);cases h1:zba m
 ·rw[h1]at HM;rw[Bool.false_and,if_neg (by simp)];go_enter Tryz.func128,Tryz.ntmps128;go_wp2_with fail;refine HM.out.mono ?_;rintro e w' ⟨rfl,rfl⟩;go_wp2_with fail;go_ret;exact⟨rfl,Below.refl _ _⟩
 cases h2:zba l
 ·rw[h1]at HM;rw[h2]at HL;rw[Bool.and_false,if_neg (by simp)];go_enter Tryz.func128,Tryz.ntmps128;go_wp2_with fail;refine HM.out.mono ?_;rintro e w' ⟨rfl,rfl⟩;go_wp2_with fail;refine HL.out.mono ?_;rintro e w' ⟨rfl,rfl⟩;go_wp2_with fail;go_ret;exact⟨rfl,Below.refl _ _⟩
 have b1:=zbc h1;have b2:=zbc h2;rw[h1]at HM;rw[h2]at HL;have HI:=lhd (zcb m w hg (by omega));have z1:=zfY m (by omega);have z2:=zfY l (by omega);have HI2:=lhd (fun(W:World) (hb:Below w.heap.size w W)=>zcb l W (hg.below hb) (by omega));rw[Bool.true_and,if_pos rfl];by_cases h3:m=l
 ·subst h3
  have HR:=lhd (show(⟨#[91]⟩++bsB (Lib.itoa m)++⟨#[93]⟩:ByteArray)=bsB (rngT m m)by
   unfold rngT;rw[if_pos rfl];apply zaV;simp[bsB,ByteArray.data_append])
  generalize bsB (Lib.itoa m)=z at*;clear h1 h2;go_enter Tryz.func128,Tryz.ntmps128;go_wp2_with fail;refine HM.out.mono ?_;rintro e w' ⟨rfl,rfl⟩;go_wp2_with fail;refine HL.out.mono ?_;rintro e w' ⟨rfl,rfl⟩;go_wp2_with fail;refine HI.out.mono ?_;rintro e w' ⟨rfl,hb⟩;have HB:=lhd hb;clear hb;go_wp2_with fail;go_ret;exact⟨by rw[←HR.out];rfl,HB.out⟩
 ·have hb3:(m==l)=false:=by rw[beq_eq_false_iff_ne];exact h3
  have HR:=lhd (show(⟨#[91]⟩++bsB (Lib.itoa m)++⟨#[58]⟩++bsB (Lib.itoa l)++⟨#[93]⟩:ByteArray)=bsB (rngT m l)by
   unfold rngT;rw[if_neg h3];apply zaV;simp[bsB,ByteArray.data_append])
  generalize bsB (Lib.itoa m)=z at*;generalize bsB (Lib.itoa l)=y at*;clear h1 h2 h3;go_enter Tryz.func128,Tryz.ntmps128;go_wp2_with fail;refine HM.out.mono ?_;rintro e w' ⟨rfl,rfl⟩;go_wp2_with fail;refine HL.out.mono ?_;rintro e w' ⟨rfl,rfl⟩;go_wp2_with fail;refine HI.out.mono ?_;rintro e w' ⟨rfl,hb⟩;have HB:=lhd hb;clear hb;go_wp2_with fail;refine(HI2.out _ HB.out).mono ?_;rintro e w' ⟨rfl,hb⟩;have HB2:=lhd (zd5 HB.out hb);clear hb;go_wp2_with fail;go_ret;exact⟨by rw[←HR.out];rfl,HB2.out⟩
end Go.Proofs.YtcdekelomkcahaaGreatDoor
