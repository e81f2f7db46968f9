import Derived.Test.YtcdekelomkcahaaGreatDoorZ00
import Derived.Test.YtcdekelomkcahaaGreatDoorZ23
set_option maxRecDepth 100000
set_option maxHeartbeats 16000000
namespace Go.Proofs.YtcdekelomkcahaaGreatDoor
structure VP (s:DS):Prop where
 sc: -15≤s.sc∧s.sc≤2
 dt:zp2 s.dt=true
 vn:zp2 s.vn=true
 cm:zp2 s.cm=true
 nw: -1≤s.now∧s.now<(s.S.length:Int)
 sn:s.S.length≤32
 sm:∀x∈s.S,zhz x.1=true∧0≤x.2.1∧x.2.1≤4
 sk:(s.S.map zlM).Nodup
 sf:Fst (parS s.S) s.S.length
 su:∀i,i<s.S.length→(upL s.S (i+1) (i:Int)).length≤8
 dn:s.D.length≤128
 dk:(s.D.map dKey).Nodup
 dc:zb5 s.D []≤64
 dv:∀x∈s.D,VV s.S.length x
 dm:∀x∈s.D,∀y∈s.D,x.code=y.code→x.kind=y.kind∧x.width=y.width
theorem zpd:VP ds0 where
 sc:=by decide
 dt:=rfl
 vn:=rfl
 cm:=rfl
 nw:=by decide
 sn:=by decide
 sm:=fun x hx=>by cases hx
 sk:=List.nodup_nil
 sf:=fun i hi=>by cases hi
 su:=fun i hi=>by cases hi
 dn:=by decide
 dk:=List.nodup_nil
 dc:=by decide
 dv:=fun x hx=>by cases hx
 dm:=fun x hx=>by cases hx
theorem zmV:∀(w cur:Bs),(∀c∈w,c≠32)→spl w cur=[cur++w]
 | [],cur,_=>by rw[spl,List.append_nil]
 |c::w,cur,h=>by
  rw[spl,if_neg (h c List.mem_cons_self),zmV w _ fun x hx=>h x (List.mem_cons_of_mem _ hx)];simp
theorem zmW:∀(w cur t:Bs),(∀c∈w,c≠32)→spl (w++32::t) cur=(cur++w)::spl t []
 | [],cur,t,_=>by rw[List.nil_append,spl,if_pos rfl,List.append_nil]
 |c::w,cur,t,h=>by
  rw[List.cons_append,spl,if_neg (h c List.mem_cons_self),zmW w _ t fun x hx=>h x (List.mem_cons_of_mem _ hx)];simp
theorem zmS:∀(l:List Bs),l≠ []→(∀w∈l,∀c∈w,c≠32)→spl (zgc l) []=l
 | [],h,_=>absurd rfl h
 | [w],_,h=>by
   show spl w []=[w];rw[zmV w [] (h w List.mem_cons_self)];rfl
 |w::x::l,_,h=>by
  rw[zgd,zmW w [] _ (h w List.mem_cons_self),zmS (x::l) (by simp) fun y hy=>h y (List.mem_cons_of_mem _ hy)];rfl
theorem zgk {l:List Bs} (h:(zgg l).2=0):zp2 (zgg l).1=true:=by
 unfold zgg at h⊢;by_cases h1:l.all zpZ=false
 ·rw[if_pos h1]at h;exact absurd h (by decide)
 ·rw[if_neg h1]at h⊢;by_cases h2:200<(zgc l).length
  ·rw[if_pos h2]at h;exact absurd h (by decide)
  ·rw[if_neg h2]at h⊢;rw[Bool.not_eq_false]at h1;show zp2 (zgc l)=true;by_cases hl:l=[]
   ·subst hl;rfl
   ·unfold zp2;rw[zmS l hl fun w hw c hc he=>?_,h1,decide_eq_true (show(zgc l).length≤200 by omega)]
    ·simp
    ·have:=(zp0 (List.all_eq_true.1 h1 w hw)).1 c hc;rw[he]at this;exact absurd this (by decide)
theorem zlY {x:Bs} (h:(zlR x).2=0): -15≤(zlR x).1∧(zlR x).1≤2:=by
 unfold zlR at h⊢;cases hf:zlV.findIdx? fun s=>decide (x=s)||decide (x=znH s)with
 |none=>rw[hf]at h;exact absurd h (by decide)
 |some i=>
  have:i<18:=(List.findIdx?_eq_some_iff_findIdx_eq.1 hf).1;show-15≤(i:Int)-15∧(i:Int)-15≤2;omega
theorem VP.keep {s t:DS} (h:VP s) (h1: -15≤t.sc∧t.sc≤2) (h2:zp2 t.dt=true) (h3:zp2 t.vn=true) (h4:zp2 t.cm=true) (h5: -1≤t.now∧t.now<(s.S.length:Int)) (h6:t.S=s.S) (h7:t.D=s.D):VP t where
 sc:=h1
 dt:=h2
 vn:=h3
 cm:=h4
 nw:=by rw[h6];exact h5
 sn:=by rw[h6];exact h.sn
 sm:=by rw[h6];exact h.sm
 sk:=by rw[h6];exact h.sk
 sf:=by rw[h6];exact h.sf
 su:=by rw[h6];exact h.su
 dn:=by rw[h7];exact h.dn
 dk:=by rw[h7];exact h.dk
 dc:=by rw[h7];exact h.dc
 dv:=by rw[h6,h7];exact h.dv
 dm:=by rw[h7];exact h.dm
theorem VP.prob {s:DS} (h:VP s) (e:Int) (w:Wd):VP (s.prob e w):=h.keep h.sc h.dt h.vn h.cm h.nw rfl rfl
theorem zn5 {l:List Bs} {w:Bs} (h:(zn4 l w).2=true):0≤(zn4 l w).1∧(zn4 l w).1<(l.length:Int):=by
 unfold zn4 at h⊢;by_cases hw:w∈l
 ·rw[if_pos hw];have:=List.idxOf_lt_length_of_mem hw;show(0:Int)≤(l.idxOf w:Nat)∧((l.idxOf w:Nat):Int)<_;omega
 ·rw[if_neg hw]at h;cases h
theorem zpe {s:DS} (h:VP s) {w:Wd} {c:List Wd} (ho:ziH s w c=none):VP (ziM s c):=by
 unfold ziH at ho;by_cases h1:c.length≠2
 ·rw[if_pos h1]at ho;cases ho
 rw[if_neg h1]at ho;by_cases h2:(zn4 zl4 (cAt c 0).1).2=false
 ·rw[if_pos h2]at ho;cases ho
 rw[if_neg h2]at ho;by_cases h3:zhz (cAt c 1).1=false
 ·rw[if_pos h3]at ho;cases ho
 rw[if_neg h3]at ho;rw[Bool.not_eq_false]at h2 h3;have ht:=zn5 h2;rw[show zl4.length=5 from rfl]at ht;unfold ziM;generalize (cAt c 1).1=nm at*;generalize (zn4 zl4 (cAt c 0).1).1=ty at*;cases hf:zd6 s.S s.now nm with
 |some k=>
  dsimp only;have hk:k<s.S.length:=(List.findIdx?_eq_some_iff_findIdx_eq.1 hf).1;exact h.keep h.sc h.dt h.vn h.cm (by show(-1:Int)≤(k:Int)∧(k:Int)<_;omega) rfl rfl
 |none=>
  rw[hf]at ho;dsimp only at ho⊢;by_cases h4:32≤s.S.length∨8≤zdb s.S s.now
  ·rw[if_pos h4]at ho;cases ho
  have hlen:(s.S++ [(nm,ty,s.now)]).length=s.S.length+1:=by rw[List.length_append];rfl
  have hpar:∀i,i<s.S.length→parS (s.S++ [(nm,ty,s.now)]) i=parS s.S i:=fun i hi=>by
   unfold parS List.getD;rw[List.getElem?_append_left hi]
  have hlast:parS (s.S++ [(nm,ty,s.now)]) s.S.length=s.now:=by
   unfold parS List.getD;rw[List.getElem?_append_right (Nat.le_refl _),Nat.sub_self];rfl
  have hF:Fst (parS (s.S++ [(nm,ty,s.now)])) (s.S++ [(nm,ty,s.now)]).length:=fun i hi=>by
   rw[hlen]at hi;by_cases hi2:i<s.S.length
   ·rw[hpar i hi2];exact h.sf i hi2
   ·obtain rfl:i=s.S.length:=by omega
    rw[hlast];exact h.nw
  have htk:(s.S++ [(nm,ty,s.now)]).take s.S.length=s.S:=by rw[List.take_left]
  have hup:∀(f:Nat) (q:Int),q<(s.S.length:Int)→upL (s.S++ [(nm,ty,s.now)]) f q=upL s.S f q:=fun f q hq=>by
   rw[←zoo hF (a:=s.S.length) (by rw[hlen];omega) f q hq,htk]
  exact
   {sc:=h.sc,dt:=h.dt,vn:=h.vn,cm:=h.cm
    nw:=by show(-1:Int)≤(s.S.length:Int)∧(s.S.length:Int)<((s.S++ [(nm,ty,s.now)]).length:Int);rw[hlen];omega
    sn:=by show(s.S++ [(nm,ty,s.now)]).length≤32;rw[hlen];omega
    sm:=fun x hx=>by
     rcases List.mem_append.1 hx with hx|hx
     ·exact h.sm x hx
     ·rw[List.mem_singleton.1 hx];exact⟨h3,ht.1,by show ty≤4;omega⟩
    sk:=by
     show((s.S++ [(nm,ty,s.now)]).map zlM).Nodup;rw[List.map_append,List.nodup_append];refine⟨h.sk,by simp,fun a ha b hb=>?_⟩;rw[List.map_cons,List.map_nil,List.mem_singleton]at hb;obtain⟨x,hx,rfl⟩:=List.mem_map.1 ha;rw[hb];intro he;unfold zd6 at hf;have:=List.findIdx?_eq_none_iff.1 hf x hx;unfold zlM at he;injection he with e1 e2;rw[decide_eq_true e1,decide_eq_true e2]at this;cases this
    sf:=hF
    su:=fun i hi=>by
     show(upL (s.S++ [(nm,ty,s.now)]) (i+1) (i:Int)).length≤8;have hi:i<(s.S++ [(nm,ty,s.now)]).length:=hi;rw[hlen]at hi;by_cases hi2:i<s.S.length
     ·rw[hup _ _ (by omega)];exact h.su i hi2
     ·obtain rfl:i=s.S.length:=by omega
      unfold upL;rw[if_neg (by omega),Int.toNat_natCast,List.getElem?_append_right (Nat.le_refl _),Nat.sub_self];show(upL (s.S++ [(nm,ty,s.now)]) s.S.length s.now).length+1≤8;rw[hup _ _ h.nw.2];have h5:zdb s.S s.now<8:=by omega
      unfold zdb at h5;have:=zoi h.sf s.S.length (s.S.length+1) s.now (by have:=h.nw.2;omega);omega
    dn:=h.dn,dk:=h.dk,dc:=h.dc
    dv:=fun x hx=>by
     have v:=h.dv x hx;show VV (s.S++ [(nm,ty,s.now)]).length x;rw[hlen];exact{v with sc:=⟨v.sc.1,by have:=v.sc.2;omega⟩}
    dm:=h.dm}
theorem zlb {ws:List Bs} (h:(refF ws).2.2.2.2=0):zhz (refF ws).1=true∧((refF ws).2.1=false→(refF ws).2.2.1=0∧(refF ws).2.2.2.1=0):=by
 unfold refF at h⊢;cases hr:refS ws with
 |none=>rw[hr]at h;exact absurd h (by decide)
 |some p=>
  obtain⟨n,r⟩:=p;rw[hr]at h;cases r with
  |none=>
   dsimp only at h⊢;by_cases hn:zhz n=true
   ·rw[if_pos hn];exact⟨hn,fun _=>⟨rfl,rfl⟩⟩
   ·rw[if_neg hn]at h;exact absurd h (by decide)
  |some r=>
   dsimp only at h⊢;by_cases hn:zhz n=false
   ·rw[if_pos hn]at h;exact absurd h (by decide)
   ·rw[if_neg hn]at h⊢;by_cases he:(zkN r).2.2≠0
    ·rw[if_pos he]at h;exact absurd h he
    ·rw[if_neg he];exact⟨Bool.not_eq_false _▸hn,fun hh=>by cases hh⟩
theorem zcO:∀{c:UInt8} {l:Bs},isD c=true→c≠48→1≤decN (c::l):=by
 intro c l hd hc
 have key:∀(l:Bs) (a:Nat),1≤a→1≤l.foldl (fun n c=>10*n+(c.toNat-48)) a:=fun l=>by
  induction l with
  |nil=>intro a ha;exact ha
  |cons x l ih=>intro a ha;exact ih _ (by show 1≤10*a+(x.toNat-48);omega)
 refine key l _ ?_;have h2:c.toNat≠48:=fun h=>hc (UInt8.toNat_inj.1 h);unfold isD at hd;simp at hd;show 1≤10*0+(c.toNat-48);omega
theorem zmN {t:Bs} {n:Int} (h:zmK t=some n):1≤n:=by
 unfold zmK at h;by_cases h1:t=[]∨9<t.length∨t.all isD=false∨t.head? =some 48
 ·rw[if_pos h1]at h;cases h
 ·rw[if_neg h1]at h;obtain rfl:=Option.some.inj h;cases t with
  |nil=>exact absurd (.inl rfl) h1
  |cons c l=>
   have h2:isD c=true:=by
    have:(c::l).all isD=true:=by
     rw[←Bool.not_eq_false];exact fun hh=>h1 (.inr (.inr (.inl hh)))
    rw[List.all_cons,Bool.and_eq_true]at this;exact this.1
   have:=zcO (l:=l) h2 fun hc=>h1 (.inr (.inr (.inr (by rw[hc];rfl))));omega
theorem zb8 (D:List Dcl) (x:Dcl):zb5 (D++ [x]) []=if x.code∈zmr D []then zb5 D []else zb5 D []+1:=by
 rw[zb6,zb6,zmv];show(if x.code∈zmr D []then zmr D []else zmr D []++ [x.code]).length=_;split
 ·rfl
 ·rw[List.length_append];rfl
theorem zpi {s:DS} (h:VP s) {w:Wd} {c:List Wd} (ho:zc7 s w c=none):VP {s with D:=s.D++ [dclF s c]}:=by
 unfold zc7 at ho;by_cases h1:c.length<4∨5<c.length
 ·rw[if_pos h1]at ho;cases ho
 rw[if_neg h1]at ho;by_cases h2:(zn4 varW (cAt c 0).1).2=false
 ·rw[if_pos h2]at ho;cases ho
 rw[if_neg h2,]at ho;rw[Bool.not_eq_false]at h2;cases hz:zmK (cAt c 1).1 with
 |none=>rw[hz]at ho;cases ho
 |some n=>
  rw[hz]at ho;dsimp only at ho;have hx0:∃x,x=dclF s c:=⟨_,rfl⟩;obtain⟨x,hx⟩:=hx0;have x1:x.nm=(refF ((txt c).drop 3)).1:=by rw[hx];rfl
  have x2:x.ty=(zn4 varW (cAt c 0).1).1:=by rw[hx];rfl
  have x3:x.sc=s.now:=by rw[hx];rfl
  have x4:x.sg=0:=by rw[hx];rfl
  have x5:x.rg=(refF ((txt c).drop 3)).2.1:=by rw[hx];rfl
  have x6:x.mb=(refF ((txt c).drop 3)).2.2.1:=by rw[hx];rfl
  have x7:x.lb=(refF ((txt c).drop 3)).2.2.2.1:=by rw[hx];rfl
  have x8:x.kind=zgo x.ty:=by rw[hx];rfl
  have x9:x.width=if x.kind=0 then n else 0:=by rw[hx];unfold dclF;dsimp only;rw[hz];rfl
  rw[←hx]at ho⊢;clear hx;by_cases h3:x.kind=0∧128<n
  ·rw[if_pos h3]at ho;cases ho
  rw[if_neg h3]at ho;by_cases h4:zb1 x.code=false
  ·rw[if_pos h4]at ho;cases ho
  rw[if_neg h4]at ho;rw[Bool.not_eq_false]at h4;by_cases h5:(refF ((txt c).drop 3)).2.2.2.2≠0
  ·rw[if_pos h5]at ho;cases ho
  rw[if_neg h5]at ho;have h5:(refF ((txt c).drop 3)).2.2.2.2=0:=by omega
  by_cases h6:x.rg=true∧x.kind≠0
  ·rw[if_pos h6]at ho;cases ho
  rw[if_neg h6]at ho;by_cases h7:x.rg=true∧zpX x.mb x.lb≠n
  ·rw[if_pos h7]at ho;cases ho
  rw[if_neg h7]at ho;obtain⟨r1,r2⟩:=zlb h5;rw[←x1]at r1;rw[←x5,←x6,←x7]at r2;have ht:=zn5 h2;rw[←x2,show varW.length=19 from rfl]at ht;have hn:=zmN hz
  have hv:VV s.S.length x:=by
   refine{sc:=by rw[x3];exact h.nw,nm:=r1,ty:=⟨ht.1,by omega⟩,sg:=x4,r0:=r2,r1:=fun hr=>?_,cd:=h4,kd:=x8,w0:=fun hk=>?_,w1:=fun hk=>?_}
   ·have hk:x.kind=0:=Classical.byContradiction fun hk=>h6 ⟨hr,hk⟩;have hw:zpX x.mb x.lb=n:=Classical.byContradiction fun hk=>h7 ⟨hr,hk⟩;rw[if_pos hk]at x9;have hb:=zpY (m:=x.mb) (l:=x.lb) (by omega);exact⟨hk,hb.1,hb.2,by omega⟩
   ·rw[if_pos hk]at x9;have:¬128<n:=fun hh=>h3 ⟨hk,hh⟩;omega
   ·rw[if_neg hk]at x9;exact x9
  have fin:s.D.any (dupV x)=false→s.D.length<128→zb5 (s.D++ [x]) []≤64→(∀y∈s.D,y.code=x.code→y.kind=x.kind∧y.width=x.width)→VP {s with D:=s.D++ [x]}:=fun f1 f2 f3 f4=>
   {sc:=h.sc,dt:=h.dt,vn:=h.vn,cm:=h.cm,nw:=h.nw,sn:=h.sn,sm:=h.sm,sk:=h.sk,sf:=h.sf,su:=h.su
    dn:=by show(s.D++ [x]).length≤128;rw[List.length_append,List.length_cons,List.length_nil];omega
    dk:=by
     show((s.D++ [x]).map dKey).Nodup;rw[List.map_append,List.nodup_append];refine⟨h.dk,by simp,fun a ha b hb=>?_⟩;rw[List.map_cons,List.map_nil,List.mem_singleton]at hb;obtain⟨y,hy,rfl⟩:=List.mem_map.1 ha;rw[hb];intro he;have:=zaK.1 f1 y hy;unfold dKey at he;injection he with e1 he;injection he with e2 he;injection he with e3 he;injection he with e4 e5;unfold dupV at this;rw[decide_eq_true e1,decide_eq_true e2,decide_eq_true e3,decide_eq_true e4,decide_eq_true e5,decide_eq_true (((h.dv y hy).sg).trans x4.symm)]at this;cases this
    dc:=f3
    dv:=fun y hy=>by
     rcases List.mem_append.1 hy with hy|hy
     ·exact h.dv y hy
     ·rw[List.mem_singleton.1 hy];exact hv
    dm:=fun y hy z hz2 hyz=>by
     rcases List.mem_append.1 hy with hy|hy<;>rcases List.mem_append.1 hz2 with hz2|hz2
     ·exact h.dm y hy z hz2 hyz
     ·rw[List.mem_singleton.1 hz2]at hyz⊢;exact f4 y hy hyz
     ·rw[List.mem_singleton.1 hy]at hyz⊢;have:=f4 z hz2 hyz.symm;exact⟨this.1.symm,this.2.symm⟩
     ·rw[List.mem_singleton.1 hy,List.mem_singleton.1 hz2];exact⟨rfl,rfl⟩}
  have hany:s.D.any (dupV x)=true∨s.D.any (dupV x)=false:=by cases s.D.any (dupV x)<;>simp
  cases hk:knD s.D x.code with
  |some o=>
   rw[hk]at ho;dsimp only at ho;unfold knD at hk;have ho1:=List.mem_of_find?_eq_some hk;have ho2:=of_decide_eq_true (List.find?_some (p:=fun y:Dcl=>decide (y.code=x.code)) hk);by_cases k1:o.kind≠x.kind
   ·rw[if_pos k1]at ho;cases ho
   rw[if_neg k1]at ho;by_cases k2:o.width≠x.width
   ·rw[if_pos k2]at ho;cases ho
   rw[if_neg k2]at ho;rcases hany with ha|ha
   ·rw[if_pos ha]at ho;cases ho
   rw[if_neg (by rw[ha];simp)]at ho;by_cases k3:128≤s.D.length
   ·rw[if_pos k3]at ho;cases ho
   refine fin ha (by omega) ?_ fun y hy hyx=>?_
   ·rw[zb8,if_pos (zmz.2 (.inr ⟨o,ho1,ho2⟩))];exact h.dc
   ·have:=h.dm y hy o ho1 (hyx.trans ho2.symm);omega
  |none=>
   rw[hk]at ho;dsimp only at ho;unfold knD at hk;rcases hany with ha|ha
   ·rw[if_pos ha]at ho;cases ho
   rw[if_neg (by rw[ha];simp)]at ho;by_cases k3:128≤s.D.length∨64≤zb5 s.D []
   ·rw[if_pos k3]at ho;cases ho
   have hno:∀y∈s.D,y.code≠x.code:=fun y hy he=>List.find?_eq_none.1 hk y hy (decide_eq_true he);refine fin ha (by omega) ?_ fun y hy hyx=>absurd hyx (hno y hy);rw[zb8];split<;>omega
theorem zpg {s:DS} (h:VP s) (w:Wd) (c:List Wd):VP (secP s w c):=by
 unfold secP;split
 ·unfold zcG;split
  ·exact h.prob _ _
  ·rename_i h0
   split
   ·exact h
   ·exact h.keep h.sc (zgk (by omega)) h.vn h.cm h.nw rfl rfl
 split
 ·unfold zpc;split
  ·exact h.prob _ _
  ·rename_i h0
   split
   ·exact h
   ·exact h.keep h.sc h.dt (zgk (by omega)) h.cm h.nw rfl rfl
 split
 ·unfold zb9;split
  ·exact h.prob _ _
  ·rename_i h0
   split
   ·exact h
   ·exact h.keep h.sc h.dt h.vn (zgk (by omega)) h.nw rfl rfl
 split
 ·unfold zlQ;split
  ·exact h.prob _ _
  ·rename_i h0
   split
   ·exact h
   ·exact h.keep (zlY (by omega)) h.dt h.vn h.cm h.nw rfl rfl
 split
 ·unfold zl1;split
  ·exact h.keep h.sc h.dt h.vn h.cm h.nw rfl rfl
  ·cases ho:ziH s w c with
   |some e=>exact(h.prob e.1 e.2).keep h.sc h.dt h.vn h.cm h.nw rfl rfl
   |none=>exact zpe h ho
 split
 ·unfold upP;split
  ·exact h.keep h.sc h.dt h.vn h.cm h.nw rfl rfl
  ·split
   ·exact h.prob _ _
   ·rename_i h1
    have hnow:=h.nw;have hp:=h.sf s.now.toNat (by omega);have ht:VP {s with now:=parS s.S s.now.toNat}:=h.keep h.sc h.dt h.vn h.cm (by show(-1:Int)≤parS s.S s.now.toNat∧parS s.S s.now.toNat<_;omega) rfl rfl;dsimp only;split
    ·exact ht.prob _ _
    ·exact ht
 split
 ·unfold varP;split
  ·exact h
  ·cases ho:zc7 s w c with
   |some e=>exact h.prob e.1 e.2
   |none=>exact zpi h ho
 split
 ·unfold endD;have ht:VP {s with ended:=true}:=h.keep h.sc h.dt h.vn h.cm h.nw rfl rfl;dsimp only;split
  ·exact ht.prob _ _
  ·exact ht
 ·exact h.prob _ _
theorem zph {s:DS} (h:VP s) (w:Wd) (t:List Wd):VP (zcF s w t).1:=by
 unfold zcF;split
 ·exact h.prob _ _
 split
 ·exact h.prob _ _
 split
 ·exact zpg h _ _
 ·exact h.prob _ _
open Go.RowKit
set_option linter.unusedSimpArgs false
def tN (s:DS):Nat:=s.dtd.toNat+s.vnd.toNat+s.cmd.toNat
def tF (s:DS) (x:BsM):Option Value:=if(x=zlw∧s.dtd=true)∨(x=zlF∧s.vnd=true)∨(x=zlv∧s.cmd=true)then some (.bool true)else none
def cF (D:List Dcl) (x:BsM):Option Value:=(knD D x).map fun d=>dclV d
theorem zbw {D:List Dcl} {x:Dcl} (h:knD D x.code=none) (y:BsM):(if y=x.code then some (dclV x)else cF D y)=cF (D++ [x]) y:=by
 unfold cF knD at*;rw[List.find?_append];by_cases hy:y=x.code
 ·subst hy;rw[if_pos rfl,h];simp
 ·rw[if_neg hy];cases hd:D.find? fun z=>decide (z.code=y)with
  |some z=>rfl
  |none=>
   simp only[Option.map_none,Option.none_or];rw[List.find?_cons,decide_eq_false (fun e=>hy e.symm)];rfl
theorem zgt {D:List Dcl} {c:Bs} (h:knD D c=none):c∉zmr D []:=fun hm=>by
 rcases zmz.1 hm with hm|⟨x,hx,e⟩
 ·cases hm
 ·unfold knD at h;exact List.find?_eq_none.1 h x hx (decide_eq_true e)
def zah (B:Nat) (W W':World):Prop:=∀(b:Nat) (C:Array Value) (T:TypeId) (fr:Nat×Nat),b≠B→T≠84→T≠50→T≠55→W.heap[b]? =some (.cells C T fr)→W'.heap[b]? =some (.cells C T fr)
theorem zah.refl (B:Nat) (W:World):zah B W W:=fun _ _ _ _ _ _ _ _ h=>h
theorem zah.trans {B:Nat} {W V U:World} (h:zah B W V) (k:zah B V U):zah B W U:=fun b C T fr h1 h2 h3 h4 h5=>k b C T fr h1 h2 h3 h4 (h b C T fr h1 h2 h3 h4 h5)
theorem zah.below {B:Nat} {W V:World} (h:Below W.heap.size W V):zah B W V:=fun b C T fr _ _ _ _ h4=>by
 rw[h.block b (Array.getElem?_eq_some_iff.1 h4).1];exact h4
theorem zah.setCell (B:Nat) (W:World) (j:Nat) (u:Value):zah B W (W.setCell ⟨B,j,none⟩ u):=fun b C T fr h1 _ _ _ h4=>by
 rw[Below.heap_setCell _ _ _ _ h1];exact h4
theorem zah.grown {B:Nat} {W V:World} {base e size n:Nat} {v:Value} {xs:List Value} (ho:W.ownsRow base e size v n xs) (he:e=84∨e=50∨e=55) (hg:W.grownBy V v.ownBlock):zah B W V:=fun b C T fr _ h2 h3 h3' h4=>by
 rw[hg.block b (Array.getElem?_eq_some_iff.1 h4).1 (fun q=>by
  rcases ho.2 with⟨rfl,-⟩|⟨g,cap,cur,rfl,-,hb,-⟩
  ·cases q
  ·injection q with q;subst q;rw[hb]at h4;injection h4 with h4;injection h4 with _ h5 _;rcases he with rfl|rfl|rfl
   ·exact h2 h5.symm
   ·exact h3 h5.symm
   ·exact h3' h5.symm)]
 exact h4
theorem zah.map {P:Program} {K:TypeId} {B b n:Nat} {f:BsM→Option Value} {W V:World} (hm:SMap P K W b n f) (hg:W.grownBy V (some b)):zah B W V:=fun b' C T fr _ _ _ _ h4=>by
 rw[hg.block b' (Array.getElem?_eq_some_iff.1 h4).1 (fun q=>by
  injection q with q;subst q;exact hm.no_cells h4)]
 exact h4
structure DC where
 wk:World
 w0:World
 B:Nat
 tb:Nat
 cb:Nat
 kb:Nat
 m:Nat
 G:BsM→Option Value
def zdR (c:DC) (s:DS) (vS vD vr:Value):List Value:=[.int .i64 s.sc,.string (bsB s.dt),.string (bsB s.vn),.string (bsB s.cm),vS,vD,.map (some c.tb),.bool s.scd,.int .i64 s.now,.int .i64 s.skip,.map (some c.cb),.bool s.ended,vr]
structure DPar (c:DC) (s:DS) (vS vD vr:Value) (W:World):Prop where
 p:W.ownsRow c.w0.heap.size 89 13 (.slice (some ⟨c.B,0,none⟩) 1 1) 1 (zdR c s vS vD vr)
 S:W.ownsRow c.w0.heap.size 84 3 vS s.S.length (scs s.S)
 D:W.ownsRow c.w0.heap.size 50 10 vD s.D.length (dcls s.D)
 r:W.ownsRow c.w0.heap.size 55 4 vr s.wrong.length (prbs s.wrong)
 t:zav Tryz.prog 9 W c.tb (tN s) (tF s)
 g:zav Tryz.prog 9 W c.cb (zb5 s.D []) (cF s.D)
 k:SMap Tryz.prog 9 W c.kb c.m c.G
 ne:c.tb≠c.cb∧c.tb≠c.kb∧c.cb≠c.kb
 tb:c.w0.heap.size≤c.tb
 gb:c.w0.heap.size≤c.cb
 b:Below c.w0.heap.size c.w0 W
 kp:zah c.B c.wk W
theorem zav.lt {P:Program} {K:TypeId} {w:World} {b n:Nat} {f:BsM→Option Value} (h:zav P K w b n f):b<w.heap.size:=h.s.lt
theorem DPar.later {c:DC} {s:DS} {vS vD vr:Value} {W W':World} (h:DPar c s vS vD vr W) (hb:Below W.heap.size W W'):DPar c s vS vD vr W':=
 ⟨zjb h.p hb,zjb h.S hb,zjb h.D hb,zjb h.r hb,h.t.below hb h.t.lt,h.g.below hb h.g.lt,h.k.below hb h.k.lt,h.ne,h.tb,h.gb,h.b.trans (hb.mono h.b.size),h.kp.trans (.below hb)⟩
theorem DPar.row {c:DC} {s:DS} {vS vD vr:Value} {W:World} (h:DPar c s vS vD vr W):zaq W c.B (zdR c s vS vD vr):=zjo h.p
theorem DPar.lo {c:DC} {s:DS} {vS vD vr:Value} {W:World} (h:DPar c s vS vD vr W):c.w0.heap.size≤c.B∧c.B<W.heap.size:=h.p.lt _ rfl
theorem DPar.map_ne {c:DC} {s:DS} {vS vD vr:Value} {W:World} (h:DPar c s vS vD vr W):c.tb≠c.B∧c.cb≠c.B∧c.kb≠c.B:=
 ⟨fun e=>h.t.ne_row h.p (by rw[e];rfl),fun e=>h.g.ne_row h.p (by rw[e];rfl),fun e=>h.k.ne_row h.p (by rw[e];rfl)⟩
theorem DPar.set {c:DC} {s:DS} {vS vD vr:Value} {W:World} (h:DPar c s vS vD vr W) (j:Nat) (u:Value) {s':DS} (hp:(zdR c s vS vD vr).set j u=zdR c s' vS vD vr) (hS:s'.S=s.S) (hD:s'.D=s.D) (hr:s'.wrong=s.wrong) (ht:s'.dtd=s.dtd∧s'.vnd=s.vnd∧s'.cmd=s.cmd):
 DPar c s' vS vD vr (W.setCell ⟨c.B,j,none⟩ u):=by
 have e1:tN s'=tN s:=by unfold tN;rw[ht.1,ht.2.1,ht.2.2]
 have e2:tF s'=tF s:=by funext x;unfold tF;rw[ht.1,ht.2.1,ht.2.2]
 refine⟨hp▸zjr h.p j u,?_,?_,?_,?_,?_,h.k.setCell h.map_ne.2.2 u,h.ne,h.tb,h.gb,h.b.setCell h.lo.1 u,h.kp.trans (.setCell _ _ _ _)⟩
 ·rw[hS];exact zjs h.S h.p (by decide) j u
 ·rw[hD];exact zjs h.D h.p (by decide) j u
 ·rw[hr];exact zjs h.r h.p (by decide) j u
 ·rw[e1,e2];exact h.t.setCell h.map_ne.1 u
 ·rw[hD];exact h.g.setCell h.map_ne.2.1 u
theorem DPar.addR {c:DC} {s:DS} {vS vD vr:Value} {W W':World} (h:DPar c s vS vD vr W) {v':Value} {x:Pb} (ho:W'.ownsRow c.w0.heap.size 55 4 v' (s.wrong.length+1) (prbs s.wrong++prbC x)) (hg:W.grownBy W' vr.ownBlock):
 DPar c {s with wrong:=s.wrong++ [x]} vS vD v' (W'.setCell ⟨c.B,12,none⟩ v'):=by
 have hp:=h.p.kept hg (zjl h.p h.r (by decide));have hS:=h.S.kept hg (zjl h.S h.r (by decide));have hD:=h.D.kept hg (zjl h.D h.r (by decide));refine⟨zjr hp 12 v',zjs hS hp (by decide) 12 v',zjs hD hp (by decide) 12 v',?_,(h.t.kept hg (h.t.ne_row h.r)).setCell h.map_ne.1 v',(h.g.kept hg (h.g.ne_row h.r)).setCell h.map_ne.2.1 v',(h.k.kept hg (h.k.ne_row h.r)).setCell h.map_ne.2.2 v',h.ne,h.tb,h.gb,(h.b.grown hg h.b.size (fun k hk=>(h.r.lt k hk).1)).setCell h.lo.1 v',(h.kp.trans (.grown h.r (.inr (.inr rfl)) hg)).trans (.setCell _ _ _ _)⟩;have:=zjs ho hp (by decide) 12 v';rw[←zj5]at this;simpa using this
theorem DPar.addS {c:DC} {s:DS} {vS vD vr:Value} {W W':World} (h:DPar c s vS vD vr W) {v':Value} {x:Sc} (ho:W'.ownsRow c.w0.heap.size 84 3 v' (s.S.length+1) (scs s.S++scC x)) (hg:W.grownBy W' vS.ownBlock):
 DPar c {s with S:=s.S++ [x]} v' vD vr (W'.setCell ⟨c.B,4,none⟩ v'):=by
 have hp:=h.p.kept hg (zjl h.p h.S (by decide));have hr:=h.r.kept hg (zjl h.r h.S (by decide));have hD:=h.D.kept hg (zjl h.D h.S (by decide));refine⟨zjr hp 4 v',?_,zjs hD hp (by decide) 4 v',zjs hr hp (by decide) 4 v',(h.t.kept hg (h.t.ne_row h.S)).setCell h.map_ne.1 v',(h.g.kept hg (h.g.ne_row h.S)).setCell h.map_ne.2.1 v',(h.k.kept hg (h.k.ne_row h.S)).setCell h.map_ne.2.2 v',h.ne,h.tb,h.gb,(h.b.grown hg h.b.size (fun k hk=>(h.S.lt k hk).1)).setCell h.lo.1 v',(h.kp.trans (.grown h.S (.inl rfl) hg)).trans (.setCell _ _ _ _)⟩;have:=zjs ho hp (by decide) 4 v';rw[show scs s.S++scC x=scs (s.S++ [x])by simp[scs]]at this;simpa using this
theorem DPar.addD {c:DC} {s:DS} {vS vD vr:Value} {W W':World} (h:DPar c s vS vD vr W) {v':Value} {x:Dcl} (hk:knD s.D x.code≠none) (ho:W'.ownsRow c.w0.heap.size 50 10 v' (s.D.length+1) (dcls s.D++dclC x)) (hg:W.grownBy W' vD.ownBlock):
 DPar c {s with D:=s.D++ [x]} vS v' vr (W'.setCell ⟨c.B,5,none⟩ v'):=by
 have hp:=h.p.kept hg (zjl h.p h.D (by decide));have hr:=h.r.kept hg (zjl h.r h.D (by decide));have hS:=h.S.kept hg (zjl h.S h.D (by decide));obtain⟨y,hy⟩:=Option.ne_none_iff_exists'.1 hk
 have hmem:x.code∈zmr s.D []:=by
  unfold knD at hy;exact zmz.2 (.inr ⟨y,List.mem_of_find?_eq_some hy,of_decide_eq_true (List.find?_some (p:=fun z:Dcl=>decide (z.code=x.code)) hy)⟩)
 refine⟨zjr hp 5 v',zjs hS hp (by decide) 5 v',?_,zjs hr hp (by decide) 5 v',(h.t.kept hg (h.t.ne_row h.D)).setCell h.map_ne.1 v',?_,(h.k.kept hg (h.k.ne_row h.D)).setCell h.map_ne.2.2 v',h.ne,h.tb,h.gb,(h.b.grown hg h.b.size (fun k hk=>(h.D.lt k hk).1)).setCell h.lo.1 v',(h.kp.trans (.grown h.D (.inr (.inl rfl)) hg)).trans (.setCell _ _ _ _)⟩
 ·have:=zjs ho hp (by decide) 5 v';rw[show dcls s.D++dclC x=dcls (s.D++ [x])by simp[dcls]]at this;simpa using this
 ·have:=(h.g.kept hg (h.g.ne_row h.D)).setCell (a:=⟨c.B,5,none⟩) h.map_ne.2.1 v';show zav _ _ _ _ (zb5 (s.D++ [x]) []) (cF (s.D++ [x]));rw[zb8,if_pos hmem];refine this.ext fun z=>?_;unfold cF knD at*;rw[List.find?_append];cases hz:s.D.find? fun d=>decide (d.code=z)with
  |some d=>rfl
  |none=>
   by_cases e:z=x.code
   ·subst e;rw[hy]at hz;cases hz
   ·rw[List.find?_cons,decide_eq_false (fun h=>e h.symm)];rfl
theorem zjk {P:Program} {K:TypeId} {W W1:World} {b n:Nat} {f:BsM→Option Value} (hm:zav P K W b n f) (hg:W.grownBy W1 (some b)) {base e size m:Nat} {v:Value} {xs:List Value} (ho:W.ownsRow base e size v m xs):W1.ownsRow base e size v m xs:=
 ho.kept hg (.inr (Ne.symm (hm.ne_row ho)))
theorem DPar.addN {c:DC} {s:DS} {vS vD vr:Value} {W W1 W2:World} (h:DPar c s vS vD vr W) {v':Value} {x:Dcl} (hk:knD s.D x.code=none)
 (hm:zav Tryz.prog 9 W1 c.cb (zb5 s.D []+1) (fun y=>if y=x.code then some (dclV x)else cF s.D y)) (hg1:W.grownBy W1 (some c.cb))
 (ho:W2.ownsRow c.w0.heap.size 50 10 v' (s.D.length+1) (dcls s.D++dclC x)) (hg:W1.grownBy W2 vD.ownBlock):
 DPar c {s with D:=s.D++ [x]} vS v' vr (W2.setCell ⟨c.B,5,none⟩ v'):=by
 have hD1:=zjk h.g hg1 h.D;have hp:=(zjk h.g hg1 h.p).kept hg (zjl (zjk h.g hg1 h.p) hD1 (by decide));have hr:=(zjk h.g hg1 h.r).kept hg (zjl (zjk h.g hg1 h.r) hD1 (by decide));have hS:=(zjk h.g hg1 h.S).kept hg (zjl (zjk h.g hg1 h.S) hD1 (by decide));have ht1:zav Tryz.prog 9 W1 c.tb (tN s) (tF s):=h.t.kept hg1 (fun e=>h.ne.1 (by injection e));have hk1:SMap Tryz.prog 9 W1 c.kb c.m c.G:=h.k.kept hg1 (fun e=>h.ne.2.2 (by injection e with e;exact e.symm))
 have hb1:Below c.w0.heap.size c.w0 W1:=h.b.grown hg1 h.b.size (fun k hk=>by
  injection hk with hk;subst hk;exact h.gb)
 refine⟨zjr hp 5 v',zjs hS hp (by decide) 5 v',?_,zjs hr hp (by decide) 5 v',(ht1.kept hg (ht1.ne_row hD1)).setCell h.map_ne.1 v',?_,(hk1.kept hg (hk1.ne_row hD1)).setCell h.map_ne.2.2 v',h.ne,h.tb,h.gb,(hb1.grown hg hb1.size (fun k hk=>(hD1.lt k hk).1)).setCell h.lo.1 v',((h.kp.trans (.map h.g.s hg1)).trans (.grown hD1 (.inr (.inl rfl)) hg)).trans (.setCell _ _ _ _)⟩
 ·have:=zjs ho hp (by decide) 5 v';rw[show dcls s.D++dclC x=dcls (s.D++ [x])by simp[dcls]]at this;simpa using this
 ·have:=(hm.kept hg (hm.ne_row hD1)).setCell (a:=⟨c.B,5,none⟩) h.map_ne.2.1 v';show zav _ _ _ _ (zb5 (s.D++ [x]) []) (cF (s.D++ [x]));rw[zb8,if_neg (zgt hk)];exact this.ext (zbw hk)
theorem DPar.date {c:DC} {s:DS} {vS vD vr:Value} {W W2:World} (h:DPar c s vS vD vr W) (u:Bs) (h0:s.dtd=false)
 (hm:zav Tryz.prog 9 W2 c.tb (tN s+1) (fun y=>if y=zlw then some (.bool true)else tF s y)) (hg:(W.setCell ⟨c.B,1,none⟩ (.string (bsB u))).grownBy W2 (some c.tb)):
 DPar c {s with dt:=u,dtd:=true} vS vD vr W2:=by
 have h1:DPar c {s with dt:=u} vS vD vr (W.setCell ⟨c.B,1,none⟩ (.string (bsB u))):=h.set 1 _ rfl rfl rfl rfl ⟨rfl,rfl,rfl⟩
 have hb:Below c.w0.heap.size c.w0 W2:=h1.b.grown hg h1.b.size (fun k hk=>by
  injection hk with hk;subst hk;exact h.tb)
 refine⟨zjk h1.t hg h1.p,zjk h1.t hg h1.S,zjk h1.t hg h1.D,zjk h1.t hg h1.r,?_,h1.g.kept hg (fun e=>h.ne.1 (by injection e with e;exact e.symm)),h1.k.kept hg (fun e=>h.ne.2.1 (by injection e with e;exact e.symm)),h.ne,h.tb,h.gb,hb,h1.kp.trans (.map h1.t.s hg)⟩
 have e1:tN {s with dt:=u,dtd:=true}=tN s+1:=by
  unfold tN;rw[h0];simp;try omega
 rw[e1];refine hm.ext fun y=>?_;unfold tF;rw[h0];by_cases hy:y=zlw
 ·subst hy;simp
 ·simp[hy]
theorem DPar.vers {c:DC} {s:DS} {vS vD vr:Value} {W W2:World} (h:DPar c s vS vD vr W) (u:Bs) (h0:s.vnd=false)
 (hm:zav Tryz.prog 9 W2 c.tb (tN s+1) (fun y=>if y=zlF then some (.bool true)else tF s y)) (hg:(W.setCell ⟨c.B,2,none⟩ (.string (bsB u))).grownBy W2 (some c.tb)):
 DPar c {s with vn:=u,vnd:=true} vS vD vr W2:=by
 have h1:DPar c {s with vn:=u} vS vD vr (W.setCell ⟨c.B,2,none⟩ (.string (bsB u))):=h.set 2 _ rfl rfl rfl rfl ⟨rfl,rfl,rfl⟩
 have hb:Below c.w0.heap.size c.w0 W2:=h1.b.grown hg h1.b.size (fun k hk=>by
  injection hk with hk;subst hk;exact h.tb)
 refine⟨zjk h1.t hg h1.p,zjk h1.t hg h1.S,zjk h1.t hg h1.D,zjk h1.t hg h1.r,?_,h1.g.kept hg (fun e=>h.ne.1 (by injection e with e;exact e.symm)),h1.k.kept hg (fun e=>h.ne.2.1 (by injection e with e;exact e.symm)),h.ne,h.tb,h.gb,hb,h1.kp.trans (.map h1.t.s hg)⟩
 have e1:tN {s with vn:=u,vnd:=true}=tN s+1:=by
  unfold tN;rw[h0];simp;try omega
 rw[e1];refine hm.ext fun y=>?_;unfold tF;rw[h0];by_cases hy:y=zlF
 ·subst hy;simp
 ·simp[hy]
theorem DPar.comm {c:DC} {s:DS} {vS vD vr:Value} {W W2:World} (h:DPar c s vS vD vr W) (u:Bs) (h0:s.cmd=false)
 (hm:zav Tryz.prog 9 W2 c.tb (tN s+1) (fun y=>if y=zlv then some (.bool true)else tF s y)) (hg:(W.setCell ⟨c.B,3,none⟩ (.string (bsB u))).grownBy W2 (some c.tb)):
 DPar c {s with cm:=u,cmd:=true} vS vD vr W2:=by
 have h1:DPar c {s with cm:=u} vS vD vr (W.setCell ⟨c.B,3,none⟩ (.string (bsB u))):=h.set 3 _ rfl rfl rfl rfl ⟨rfl,rfl,rfl⟩
 have hb:Below c.w0.heap.size c.w0 W2:=h1.b.grown hg h1.b.size (fun k hk=>by
  injection hk with hk;subst hk;exact h.tb)
 refine⟨zjk h1.t hg h1.p,zjk h1.t hg h1.S,zjk h1.t hg h1.D,zjk h1.t hg h1.r,?_,h1.g.kept hg (fun e=>h.ne.1 (by injection e with e;exact e.symm)),h1.k.kept hg (fun e=>h.ne.2.1 (by injection e with e;exact e.symm)),h.ne,h.tb,h.gb,hb,h1.kp.trans (.map h1.t.s hg)⟩
 have e1:tN {s with cm:=u,cmd:=true}=tN s+1:=by
  unfold tN;rw[h0];simp;try omega
 rw[e1];refine hm.ext fun y=>?_;unfold tF;rw[h0];by_cases hy:y=zlv
 ·subst hy;simp
 ·simp[hy]
def DC.from (c:DC) (V:World):DC:={c with wk:=V}
theorem DPar.start {c:DC} {s:DS} {vS vD vr:Value} {W:World} (h:DPar c s vS vD vr W) (V:World) (hV:zah c.B V W):DPar (c.from V) s vS vD vr W:=⟨h.p,h.S,h.D,h.r,h.t,h.g,h.k,h.ne,h.tb,h.gb,h.b,hV⟩
theorem DPar.back {c:DC} {s:DS} {vS vD vr:Value} {V W:World} (h:DPar (c.from V) s vS vD vr W) (hV:zah c.B c.wk V):DPar c s vS vD vr W:=⟨h.p,h.S,h.D,h.r,h.t,h.g,h.k,h.ne,h.tb,h.gb,h.b,hV.trans h.kp⟩
def zad (c:DC) (s:DS) (e:Ending) (w':World):Prop:=e=.returned (.tuple #[])∧∃vS vD vr,DPar c s vS vD vr w'
theorem zcR:∀(n:Nat) (l:Bs),l.length=n→l≠ []→l.all isD=true→l.head? ≠some 48→Lib.decDigits (decN l)=l∧1≤decN l
 |0,l,hl,h0,_,_=>absurd (List.length_eq_zero_iff.1 hl) h0
 |n+1,l,hl,h0,hd,hh=>by
  rcases List.eq_nil_or_concat l with rfl|⟨m,c,rfl⟩
  ·exact absurd rfl h0
  ·rw[List.concat_eq_append]at hl hd hh⊢
   have hc:isD c=true:=by
    rw[List.all_append,Bool.and_eq_true]at hd;simpa using hd.2
   have hc2:=(zfG c).1 hc
   have he:UInt8.ofNat (48+(c.toNat-48))=c:=by
    rw[show 48+(c.toNat-48)=c.toNat by omega,UInt8.ofNat_toNat]
   by_cases hm:m=[]
   ·subst hm;rw[zcP]
    have hc3:c.toNat≠48:=fun e=>hh (by
     have:c=48:=UInt8.toNat_inj.1 e;rw[this];rfl)
    rw[show decN []=0 from rfl,Nat.mul_zero,Nat.zero_add,Lib.decDigits_one (by omega),he];exact⟨rfl,by omega⟩
   ·have ih:=zcR n m (by rw[List.length_append]at hl;simpa using hl) hm (by
     rw[List.all_append,Bool.and_eq_true]at hd;exact hd.1) (by
     cases m with
     |nil=>exact absurd rfl hm
     |cons a m=>exact hh)
    rw[zcP];refine⟨?_,by omega⟩;rw[Lib.decDigits,dif_neg (by omega),show(10*decN m+(c.toNat-48))/10=decN m by omega,show(10*decN m+(c.toNat-48)) % 10=c.toNat-48 by omega,ih.1,he]
theorem zcN:∀(n:Nat) (l:Bs),l.length=n→l.all isD=true→decN l<10^n
 |0,l,hl,_=>by rw[List.length_eq_zero_iff.1 hl];decide
 |n+1,l,hl,hd=>by
  rcases List.eq_nil_or_concat l with rfl|⟨m,c,rfl⟩
  ·cases hl
  ·rw[List.concat_eq_append]at hl hd⊢;rw[List.all_append,Bool.and_eq_true]at hd;have:=zcN n m (by rw[List.length_append]at hl;simpa using hl) hd.1;have hc2:=(zfG c).1 (by simpa using hd.2);rw[zcP,Nat.pow_succ];omega
theorem zmM {s:Bs} {n:Int}:zmK s=some n↔Lib.atoiAll s=.ok n∧1≤n∧n≤999999999∧Lib.itoa n=s:=by
 constructor
 ·intro h;have hp:=zmN h;unfold zmK at h;by_cases h1:s=[]∨9<s.length∨s.all isD=false∨s.head? =some 48
  ·rw[if_pos h1]at h;cases h
  ·rw[if_neg h1]at h;obtain rfl:=Option.some.inj h;have hd:s.all isD=true:=by rw[←Bool.not_eq_false];exact fun e=>h1 (.inr (.inr (.inl e)))
   have hc:=zcR s.length s rfl (fun e=>h1 (.inl e)) hd (fun e=>h1 (.inr (.inr (.inr e))));have hlt:=zcN s.length s rfl hd;have h9:10^s.length≤10^9:=Nat.pow_le_pow_right (by decide) (by omega);refine⟨zaL (fun e=>h1 (.inl e)) (by omega) hd,hp,by omega,?_⟩;rw[Lib.itoa_nonneg,hc.1]
 ·rintro⟨-,h1,h2,h3⟩;rw[←h3];exact zmL h1 (by omega)
theorem zdE (s:Bs) (w:World) (hg:Glob w) (hE:zag w) (hs:s.length≤140737488351232):
 Calls Tryz.prog 173 #[.string (bsB s)] w fun e w'=>∃v:Int,e=.returned (.tuple #[.int .i64 v,.bool (zmK s).isSome])∧(∀n,zmK s=some n→v=n)∧Below w.heap.size w w':=by
 have HAT:=lhd (zca s w hE (by omega));obtain⟨R,hR⟩:∃R,R=zmK s:=⟨_,rfl⟩;rw[←hR];have HRR:=lhd hR;clear hR;have HG:=lhd hg;clear hg hE;go_enter Tryz.func173,Tryz.ntmps173;go_wp2_with fail;refine HAT.out.mono ?_;rintro e w1 (⟨v,hv,rfl,hb⟩|⟨hv,v,t,a,rfl,hb⟩)
 ·have HB:=lhd hb;clear hb;by_cases h1:1≤v
  ·by_cases h2:v≤999999999
   ·have HI:=lhd (Tryz.strconv_Itoa v (by omega) (by omega) w1 (HG.out.below HB.out));have hz:(⟨(Lib.itoa v).toArray⟩:ByteArray)=bsB (Lib.itoa v):=rfl;generalize (⟨(Lib.itoa v).toArray⟩:ByteArray)=z at*;go_wp2_with fail;refine HI.out.mono ?_;rintro e w2 ⟨rfl,kk,os,rfl⟩;have HB2:=lhd (zd5 HB.out (Lib.below_grow _ _ (Nat.le_refl _) kk os));by_cases h3:Lib.itoa v=s
    ·have H4:=lhd (show R=some v from HRR.out.trans (zmM.2 ⟨hv,h1,h2,h3⟩));have hb:(z.toList==(bsB s).toList)=true:=by rw[hz,h3];exact beq_self_eq_true _
     clear h3 hz;go_wp2_with fail;exact bodyPost_ret (v:=.tuple #[.int .i64 v,.bool true]) (by simp[results,Tryz.results173,go_sem]) rfl ⟨v,by rw[H4.out];rfl,fun n hn=>Option.some.inj (H4.out.symm.trans hn),HB2.out⟩
    ·have H4:=lhd (show R=none from HRR.out.trans (by
      cases hz:zmK s with
      |none=>rfl
      |some n=>
       have:=zmM.1 hz;rw[hv]at this;injection this.1 with e;subst e;exact absurd this.2.2.2 h3))
     have hb:(z.toList==(bsB s).toList)=false:=by rw[hz];exact zbi h3
     clear h3 hz;go_wp2_with fail;exact bodyPost_ret (v:=.tuple #[.int .i64 v,.bool false]) (by simp[results,Tryz.results173,go_sem]) rfl ⟨v,by rw[H4.out];rfl,fun n hn=>(by rw[H4.out]at hn;cases hn),HB2.out⟩
   ·have H4:=lhd (show R=none from HRR.out.trans (by
     cases hz:zmK s with
     |none=>rfl
     |some n=>
      have:=zmM.1 hz;rw[hv]at this;injection this.1 with e;subst e;exact absurd this.2.2.1 h2))
    go_wp2_with fail;exact bodyPost_ret (v:=.tuple #[.int .i64 v,.bool false]) (by simp[results,Tryz.results173,go_sem]) rfl ⟨v,by rw[H4.out];rfl,fun n hn=>(by rw[H4.out]at hn;cases hn),HB.out⟩
  ·have H4:=lhd (show R=none from HRR.out.trans (by
    cases hz:zmK s with
    |none=>rfl
    |some n=>
     have:=zmM.1 hz;rw[hv]at this;injection this.1 with e;subst e;exact absurd this.2.1 h1))
   go_wp2_with fail;exact bodyPost_ret (v:=.tuple #[.int .i64 v,.bool false]) (by simp[results,Tryz.results173,go_sem]) rfl ⟨v,by rw[H4.out];rfl,fun n hn=>(by rw[H4.out]at hn;cases hn),HB.out⟩
 ·have HB:=lhd hb;clear hb
  have H4:=lhd (show R=none from HRR.out.trans (by
   cases hz:zmK s with
   |none=>rfl
   |some n=>exact absurd (zmM.1 hz).1 (hv n)))
  go_wp2_with fail;exact bodyPost_ret (v:=.tuple #[.int .i64 v,.bool false]) (by simp[results,Tryz.results173,go_sem]) rfl ⟨v,by rw[H4.out];rfl,fun n hn=>(by rw[H4.out]at hn;cases hn),HB.out⟩
def nfrD (y:Bs):Bs:=y.takeWhile isD
def zhF (d:Bs) (neg:Bool):Prop:=d.length<1∨9<d.length∨(d.head? =some 48∧(1<d.length∨neg=true))
instance (d:Bs) (neg:Bool):Decidable (zhF d neg):=by unfold zhF;infer_instance
theorem zim (x:Bs):numT x=if zhF (nfrD (tk1 45 x)) (decide (x.head? =some 45))then((0,false),(tk1 45 x).drop (nfrD (tk1 45 x)).length)
 else((if decide (x.head? =some 45)=true then-(decN (nfrD (tk1 45 x)):Int)else(decN (nfrD (tk1 45 x)):Int),true),(tk1 45 x).drop (nfrD (tk1 45 x)).length):=by
 unfold numT zhF nfrD tk1;by_cases h:x.head? =some 45
 ·simp only[h,decide_true,if_true]
 ·simp only[h,decide_false,if_false,Bool.false_eq_true]
theorem zhG:∀y:Bs,(nfrD y).all isD=true
 | []=>rfl
 |c::y=>by
  unfold nfrD;rw[List.takeWhile_cons];cases h:isD c with
  |false=>rfl
  |true=>
   show((c::nfrD y).all isD)=true;rw[List.all_cons,h,zhG y];rfl
theorem zhH (y:Bs):nfrD y++y.dropWhile isD=y:=List.takeWhile_append_dropWhile
theorem zhJ (y:Bs):(nfrD y).length≤y.length:=(List.takeWhile_prefix isD).length_le
theorem zhI {y:Bs} {k:Nat} (hk:k<(nfrD y).length):∃h:k<y.length,isD (y[k]'h)=true:=by
 have h:=Nat.lt_of_lt_of_le hk (zhJ y);refine⟨h,?_⟩
 have e:(nfrD y)[k]=y[k]:=by
  have:=(List.takeWhile_prefix isD (l:=y)).getElem hk;exact this
 rw[←e];exact List.all_eq_true.1 (zhG y) _ (List.getElem_mem hk)
theorem zhK {y:Bs} (h:(nfrD y).length<y.length):isD (y[(nfrD y).length]'h)=false:=by
 have h2:y.drop (nfrD y).length=y.dropWhile isD:=by
  have:=List.drop_left (l₁:=nfrD y) (l₂:=y.dropWhile isD);rwa [zhH]at this
 cases hd:y.dropWhile isD with
 |nil=>
  rw[hd]at h2;have:=congrArg List.length h2;rw[List.length_drop]at this;simp at this;omega
 |cons c t=>
  have h3:y[(nfrD y).length]'h=c:=by
   have:=List.getElem?_drop (xs:=y) (i:=(nfrD y).length) (j:=0);rw[h2,hd]at this;simp at this;rw[List.getElem?_eq_getElem h]at this;exact(Option.some.inj this).symm
  rw[h3];have:=List.head?_dropWhile_not isD y;rw[hd]at this;simpa using this
theorem zhL (y:Bs):y.take (nfrD y).length=nfrD y:=by
 have:=List.take_left (l₁:=nfrD y) (l₂:=y.dropWhile isD);rwa [zhH]at this
theorem zhM {d:Bs} {neg:Bool} (h:zhF d neg) (r:Bs):(if zhF d neg then(((0:Int),false),r)else((if neg=true then-(decN d:Int)else(decN d:Int),true),r))=((0,false),r):=if_pos h
theorem zhN {d:Bs} {neg:Bool} (h:¬zhF d neg) (r:Bs):(if zhF d neg then(((0:Int),false),r)else((if neg=true then-(decN d:Int)else(decN d:Int),true),r))=((if neg=true then-(decN d:Int)else(decN d:Int),true),r):=if_neg h
theorem zh0 (b:Nat) (x:Bs) (w0 w:World) (hg:zag w0) (hbw:Below w0.heap.size w0 w) (hb0:w0.heap.size≤b) (hc:w.cell? ⟨b,0,none⟩=some (.string (bsB x))) (hf:w.frozen? ⟨b,0,none⟩=false) (hx:x.length≤2000000):
 Calls Tryz.prog 241 #[.pointer (some ⟨b,0,none⟩)] w fun e w'=>e=.returned (.tuple #[.int .i64 (numT x).1.1,.bool (numT x).1.2])∧w'.cell? ⟨b,0,none⟩=some (.string (bsB (numT x).2))∧w'.frozen? ⟨b,0,none⟩=false∧Below b w w':=by
 have HT:=lhd (zh2 b 45 x w hc hf);rw[zim]
 have hyl:(tk1 45 x).length≤2000000:=by
  unfold tk1;split
  ·rw[List.length_drop];omega
  ·exact hx
 have hc1:(w.setCell ⟨b,0,none⟩ (.string (bsB (tk1 45 x)))).cell? ⟨b,0,none⟩=some (.string (bsB (tk1 45 x))):=World.cell?_setCell_same _ _ _ hc;have hf1:(w.setCell ⟨b,0,none⟩ (.string (bsB (tk1 45 x)))).frozen? ⟨b,0,none⟩=false:=by rw[World.frozen?_setCell];exact hf
 have HB1:=lhd (show Below b w (w.setCell ⟨b,0,none⟩ (.string (bsB (tk1 45 x))))from(Below.refl b w).setCell (p:=⟨b,0,none⟩) (Nat.le_refl _) _);generalize decide (x.head? =some 45)=neg at*;generalize tk1 45 x=y at*;have HB0:=lhd (show Below w0.heap.size w0 (w.setCell ⟨b,0,none⟩ (.string (bsB y)))from hbw.setCell (p:=⟨b,0,none⟩) hb0 _);have HG:=lhd hg;have hmle:=zhJ y;have hsz:=zbk y
 have HX1:=lhd (show(bsB y).extract 0 (nfrD y).length=bsB (nfrD y)by
  rw[←zbj ((bsB y).extract 0 (nfrD y).length),Lib.extract_data,zbh,Nat.sub_zero,List.drop_zero,zhL])
 have HX2:=lhd (show(bsB y).extract (nfrD y).length (bsB y).size=bsB (y.drop (nfrD y).length)by rw[zd4,zbh]);have HAL:=lhd (zhG y);have HAT:=lhd (fun k (hk:k<(nfrD y).length)=>zhI (y:=y) hk);have HST:=lhd (fun h:(nfrD y).length<y.length=>zhK h);have HC1:=lhd (And.intro hc1 hf1);generalize w.setCell ⟨b,0,none⟩ (.string (bsB y))=w1 at*;generalize nfrD y=d at*;obtain⟨R,hR⟩:∃R,R=if zhF d neg then(((0:Int),false),y.drop d.length)else((if neg=true then-(decN d:Int)else(decN d:Int),true),y.drop d.length):=⟨_,rfl⟩
 rw[←hR];have HRR:=lhd hR;clear hc hf hx hbw hg hc1 hf1 hR;go_enter Tryz.func241,Tryz.ntmps241;go_wp2_with fail;refine HT.out.mono ?_;rintro e w' ⟨rfl,he⟩;have he:=he.symm;subst he;clear HT;go_wp2_with fail;go_loopw [5] (fun u wr=>wr=w1∧∃k:Nat,k≤d.length∧u=.int .i64 k) (fun u _=>d.length-(intOf u).toNat)
 case atStart=>exact⟨rfl,0,Nat.zero_le _,rfl⟩
 case round=>
  obtain⟨rfl,k,hk,rfl⟩:=hrel;obtain⟨hc1,hf1⟩:=HC1.out;by_cases hkd:k<d.length
  ·obtain⟨hky,hdg⟩:=HAT.out k hkd;obtain⟨h2,h3⟩:=(zfG _).1 hdg;obtain⟨c,hcd⟩:∃c,c=y[k]:=⟨_,rfl⟩;have hcix:∀h:k<(bsB y).size,(bsB y)[k]'h=c:=fun h=>by rw[hcd];rfl
   rw[←hcd]at h2 h3;have hlt:k<(bsB y).size:=by rw[hsz];exact hky
   clear hdg hcd;go_wp2_with fail;go_roundw;case rel=>exact⟨by first|trivial|rfl,k+1,hkd,by go_num⟩
   case measure=>simp[intOf];omega
  ·obtain rfl:k=d.length:=by omega
   clear hkd hk
   have HC2:=lhd (show(wr.setCell ⟨b,0,none⟩ (.string (bsB (y.drop d.length)))).cell? ⟨b,0,none⟩=some (.string (bsB (y.drop d.length)))∧(wr.setCell ⟨b,0,none⟩ (.string (bsB (y.drop d.length)))).frozen? ⟨b,0,none⟩=false∧Below b w (wr.setCell ⟨b,0,none⟩ (.string (bsB (y.drop d.length))))∧Below w0.heap.size w0 (wr.setCell ⟨b,0,none⟩ (.string (bsB (y.drop d.length))))from
    ⟨World.cell?_setCell_same _ _ _ hc1,by rw[World.frozen?_setCell];exact hf1,HB1.out.setCell (p:=⟨b,0,none⟩) (Nat.le_refl _) _,HB0.out.setCell (p:=⟨b,0,none⟩) hb0 _⟩)
   have hx1:=HX1.out;have hx2:=HX2.out;rw[hsz]at hx2;rcases Nat.lt_or_ge d.length y.length with hm|hm
   ·have hst:=HST.out hm;obtain⟨c,hcd⟩:∃c,c=y[d.length]:=⟨_,rfl⟩;have hcix:∀h:d.length<(bsB y).size,(bsB y)[d.length]'h=c:=fun h=>by rw[hcd];rfl
    rw[←hcd]at hst;clear hcd
    rcases(show c.toNat<48∨57<c.toNat by
     rcases Nat.lt_or_ge c.toNat 48 with h|h
     ·exact .inl h
     ·rcases Nat.lt_or_ge 57 c.toNat with h'|h'
      ·exact .inr h'
      ·rw[(zfG _).2 ⟨h,h'⟩]at hst;cases hst)with h2|h2
    all_goals
     clear hst;have hlt:d.length<(bsB y).size:=by rw[hsz];exact hm
     go_upto_region 7 with fail;have HC2:=HC2;generalize wr.setCell ⟨b,0,none⟩ (.string (bsB (y.drop d.length)))=w2 at*;clear hx1 hx2 hlt HX1 HX2 HAT HST HC1 hc1 hf1 hsz hmle;cases d with
     |nil=>
      have hbad:zhF [] neg:=.inl (by simp);have HQ:=lhd (HRR.out.trans (zhM hbad _));go_wp2_with fail;refine bodyPost_ret (v:=.tuple #[.int .i64 0,.bool false]) (by simp[results,Tryz.results241,go_sem]) rfl ?_;rw[HQ.out];exact⟨rfl,HC2.out.1,HC2.out.2.1,HC2.out.2.2.1⟩
     |cons c0 u=>
      have hszd:(bsB (c0::u)).size=u.length+1:=by rw[zbk,List.length_cons]
      have hcd0:∀h:0<(bsB (c0::u)).size,(bsB (c0::u))[0]'h=c0:=fun _=>rfl;have hlc:(c0::u).length=u.length+1:=rfl;by_cases h9:8<u.length
      ·have hbad:zhF (c0::u) neg:=.inr (.inl (by rw[hlc];omega));have HQ:=lhd (HRR.out.trans (zhM hbad _));go_wp2_with fail;refine bodyPost_ret (v:=.tuple #[.int .i64 0,.bool false]) (by simp[results,Tryz.results241,go_sem]) rfl ?_;rw[HQ.out];exact⟨rfl,HC2.out.1,HC2.out.2.1,HC2.out.2.2.1⟩
      have HATO:=lhd (zca (c0::u) w2 (HG.out.below HC2.out.2.2.2) (by rw[hlc];omega));have HDV:=lhd (zaL (u:=c0::u) (by simp) (by rw[hlc];omega) HAL.out)
      have HLT10:=lhd (show(0:Int)≤(decN (c0::u):Int)∧(decN (c0::u):Int)≤999999999 by
       have h1:=zcN _ (c0::u) rfl HAL.out;have h2:10^(c0::u).length≤10^9:=Nat.pow_le_pow_right (by decide) (by rw[hlc];omega);omega)
      by_cases h48:c0=48
      ·have b48:((c0.toNat:Int)==48)=true:=by rw[h48];rfl
       by_cases hu:0<u.length
       ·have hbad:zhF (c0::u) neg:=.inr (.inr ⟨by rw[h48];rfl,.inl (by rw[hlc];omega)⟩);clear h48 HATO HDV HLT10;have HQ:=lhd (HRR.out.trans (zhM hbad _));go_wp2_with fail;refine bodyPost_ret (v:=.tuple #[.int .i64 0,.bool false]) (by simp[results,Tryz.results241,go_sem]) rfl ?_;rw[HQ.out];exact⟨rfl,HC2.out.1,HC2.out.2.1,HC2.out.2.2.1⟩
       cases neg
       ·have hgood:¬zhF (c0::u) false:=by
         rintro(h|h|⟨-,h|h⟩)
         ·rw[hlc]at h;omega
         ·rw[hlc]at h;omega
         ·rw[hlc]at h;omega
         ·cases h
        clear h48;have HQ:=lhd (HRR.out.trans (zhN hgood _));go_wp2_with fail;refine HATO.out.mono ?_;rintro e w3 (⟨v,hv,rfl,hb3⟩|⟨hv,-⟩);rotate_left
        ·exact absurd HDV.out (hv _)
        obtain rfl:v=(decN (c0::u):Int):=by rw[HDV.out]at hv;injection hv with hv;exact hv.symm
        have HB3:=lhd hb3;have HBLT:=lhd (zbA HC2.out.1);have hlt10:=HLT10.out;generalize ((decN (c0::u):Nat):Int)=nn at*;have hwn:IntKind.i64.wrap (-nn)= -nn:=IntWalk.i64_in _ (by omega);clear hv hb3;go_wp2_with fail;refine bodyPost_ret (v:=.tuple #[.int .i64 nn,.bool true]) (by simp[results,Tryz.results241,go_sem]) rfl ?_;rw[HQ.out];exact⟨rfl,(HB3.out.cell (p:=⟨b,0,none⟩) HBLT.out).trans HC2.out.1,(HB3.out.frozen (p:=⟨b,0,none⟩) HBLT.out).trans HC2.out.2.1,HC2.out.2.2.1.trans (HB3.out.mono (Nat.le_of_lt HBLT.out))⟩
       ·have hbad:zhF (c0::u) true:=.inr (.inr ⟨by rw[h48];rfl,.inr rfl⟩);clear h48 HATO HDV HLT10;have HQ:=lhd (HRR.out.trans (zhM hbad _));go_wp2_with fail;refine bodyPost_ret (v:=.tuple #[.int .i64 0,.bool false]) (by simp[results,Tryz.results241,go_sem]) rfl ?_;rw[HQ.out];exact⟨rfl,HC2.out.1,HC2.out.2.1,HC2.out.2.2.1⟩
      ·have b48:((c0.toNat:Int)==48)=false:=by
        rw[beq_eq_false_iff_ne];intro h;exact h48 (UInt8.toNat_inj.1 (by simpa using (show c0.toNat=48 by omega)))
       have hgood:¬zhF (c0::u) neg:=by
        rintro(h|h|⟨h,-⟩)
        ·rw[hlc]at h;omega
        ·rw[hlc]at h;omega
        ·exact h48 (Option.some.inj h)
       clear h48;cases neg
       ·skip
        have HQ:=lhd (HRR.out.trans (zhN hgood _));go_wp2_with fail;refine HATO.out.mono ?_;rintro e w3 (⟨v,hv,rfl,hb3⟩|⟨hv,-⟩);rotate_left
        ·exact absurd HDV.out (hv _)
        obtain rfl:v=(decN (c0::u):Int):=by rw[HDV.out]at hv;injection hv with hv;exact hv.symm
        have HB3:=lhd hb3;have HBLT:=lhd (zbA HC2.out.1);have hlt10:=HLT10.out;generalize ((decN (c0::u):Nat):Int)=nn at*;have hwn:IntKind.i64.wrap (-nn)= -nn:=IntWalk.i64_in _ (by omega);clear hv hb3;go_wp2_with fail;refine bodyPost_ret (v:=.tuple #[.int .i64 nn,.bool true]) (by simp[results,Tryz.results241,go_sem]) rfl ?_;rw[HQ.out];exact⟨rfl,(HB3.out.cell (p:=⟨b,0,none⟩) HBLT.out).trans HC2.out.1,(HB3.out.frozen (p:=⟨b,0,none⟩) HBLT.out).trans HC2.out.2.1,HC2.out.2.2.1.trans (HB3.out.mono (Nat.le_of_lt HBLT.out))⟩
       ·skip
        have HQ:=lhd (HRR.out.trans (zhN hgood _));go_wp2_with fail;refine HATO.out.mono ?_;rintro e w3 (⟨v,hv,rfl,hb3⟩|⟨hv,-⟩);rotate_left
        ·exact absurd HDV.out (hv _)
        obtain rfl:v=(decN (c0::u):Int):=by rw[HDV.out]at hv;injection hv with hv;exact hv.symm
        have HB3:=lhd hb3;have HBLT:=lhd (zbA HC2.out.1);have hlt10:=HLT10.out;generalize ((decN (c0::u):Nat):Int)=nn at*;have hwn:IntKind.i64.wrap (-nn)= -nn:=IntWalk.i64_in _ (by omega);clear hv hb3;go_wp2_with fail;refine bodyPost_ret (v:=.tuple #[.int .i64 (-nn),.bool true]) (by simp[results,Tryz.results241,go_sem]) rfl ?_;rw[HQ.out];exact⟨rfl,(HB3.out.cell (p:=⟨b,0,none⟩) HBLT.out).trans HC2.out.1,(HB3.out.frozen (p:=⟨b,0,none⟩) HBLT.out).trans HC2.out.2.1,HC2.out.2.2.1.trans (HB3.out.mono (Nat.le_of_lt HBLT.out))⟩
   ·have hlt:¬d.length<(bsB y).size:=by rw[hsz];omega
    go_upto_region 7 with fail;have HC2:=HC2;generalize wr.setCell ⟨b,0,none⟩ (.string (bsB (y.drop d.length)))=w2 at*;clear hx1 hx2 hlt HX1 HX2 HAT HST HC1 hc1 hf1 hsz hmle;cases d with
    |nil=>
     have hbad:zhF [] neg:=.inl (by simp);have HQ:=lhd (HRR.out.trans (zhM hbad _));go_wp2_with fail;refine bodyPost_ret (v:=.tuple #[.int .i64 0,.bool false]) (by simp[results,Tryz.results241,go_sem]) rfl ?_;rw[HQ.out];exact⟨rfl,HC2.out.1,HC2.out.2.1,HC2.out.2.2.1⟩
    |cons c0 u=>
     have hszd:(bsB (c0::u)).size=u.length+1:=by rw[zbk,List.length_cons]
     have hcd0:∀h:0<(bsB (c0::u)).size,(bsB (c0::u))[0]'h=c0:=fun _=>rfl;have hlc:(c0::u).length=u.length+1:=rfl;by_cases h9:8<u.length
     ·have hbad:zhF (c0::u) neg:=.inr (.inl (by rw[hlc];omega));have HQ:=lhd (HRR.out.trans (zhM hbad _));go_wp2_with fail;refine bodyPost_ret (v:=.tuple #[.int .i64 0,.bool false]) (by simp[results,Tryz.results241,go_sem]) rfl ?_;rw[HQ.out];exact⟨rfl,HC2.out.1,HC2.out.2.1,HC2.out.2.2.1⟩
     have HATO:=lhd (zca (c0::u) w2 (HG.out.below HC2.out.2.2.2) (by rw[hlc];omega));have HDV:=lhd (zaL (u:=c0::u) (by simp) (by rw[hlc];omega) HAL.out)
     have HLT10:=lhd (show(0:Int)≤(decN (c0::u):Int)∧(decN (c0::u):Int)≤999999999 by
      have h1:=zcN _ (c0::u) rfl HAL.out;have h2:10^(c0::u).length≤10^9:=Nat.pow_le_pow_right (by decide) (by rw[hlc];omega);omega)
     by_cases h48:c0=48
     ·have b48:((c0.toNat:Int)==48)=true:=by rw[h48];rfl
      by_cases hu:0<u.length
      ·have hbad:zhF (c0::u) neg:=.inr (.inr ⟨by rw[h48];rfl,.inl (by rw[hlc];omega)⟩);clear h48 HATO HDV HLT10;have HQ:=lhd (HRR.out.trans (zhM hbad _));go_wp2_with fail;refine bodyPost_ret (v:=.tuple #[.int .i64 0,.bool false]) (by simp[results,Tryz.results241,go_sem]) rfl ?_;rw[HQ.out];exact⟨rfl,HC2.out.1,HC2.out.2.1,HC2.out.2.2.1⟩
      cases neg
      ·have hgood:¬zhF (c0::u) false:=by
        rintro(h|h|⟨-,h|h⟩)
        ·rw[hlc]at h;omega
        ·rw[hlc]at h;omega
        ·rw[hlc]at h;omega
        ·cases h
       clear h48;have HQ:=lhd (HRR.out.trans (zhN hgood _));go_wp2_with fail;refine HATO.out.mono ?_;rintro e w3 (⟨v,hv,rfl,hb3⟩|⟨hv,-⟩);rotate_left
       ·exact absurd HDV.out (hv _)
       obtain rfl:v=(decN (c0::u):Int):=by rw[HDV.out]at hv;injection hv with hv;exact hv.symm
       have HB3:=lhd hb3;have HBLT:=lhd (zbA HC2.out.1);have hlt10:=HLT10.out;generalize ((decN (c0::u):Nat):Int)=nn at*;have hwn:IntKind.i64.wrap (-nn)= -nn:=IntWalk.i64_in _ (by omega);clear hv hb3;go_wp2_with fail;refine bodyPost_ret (v:=.tuple #[.int .i64 nn,.bool true]) (by simp[results,Tryz.results241,go_sem]) rfl ?_;rw[HQ.out];exact⟨rfl,(HB3.out.cell (p:=⟨b,0,none⟩) HBLT.out).trans HC2.out.1,(HB3.out.frozen (p:=⟨b,0,none⟩) HBLT.out).trans HC2.out.2.1,HC2.out.2.2.1.trans (HB3.out.mono (Nat.le_of_lt HBLT.out))⟩
      ·have hbad:zhF (c0::u) true:=.inr (.inr ⟨by rw[h48];rfl,.inr rfl⟩);clear h48 HATO HDV HLT10;have HQ:=lhd (HRR.out.trans (zhM hbad _));go_wp2_with fail;refine bodyPost_ret (v:=.tuple #[.int .i64 0,.bool false]) (by simp[results,Tryz.results241,go_sem]) rfl ?_;rw[HQ.out];exact⟨rfl,HC2.out.1,HC2.out.2.1,HC2.out.2.2.1⟩
     ·have b48:((c0.toNat:Int)==48)=false:=by
       rw[beq_eq_false_iff_ne];intro h;exact h48 (UInt8.toNat_inj.1 (by simpa using (show c0.toNat=48 by omega)))
      have hgood:¬zhF (c0::u) neg:=by
       rintro(h|h|⟨h,-⟩)
       ·rw[hlc]at h;omega
       ·rw[hlc]at h;omega
       ·exact h48 (Option.some.inj h)
      clear h48;cases neg
      ·skip
       have HQ:=lhd (HRR.out.trans (zhN hgood _));go_wp2_with fail;refine HATO.out.mono ?_;rintro e w3 (⟨v,hv,rfl,hb3⟩|⟨hv,-⟩);rotate_left
       ·exact absurd HDV.out (hv _)
       obtain rfl:v=(decN (c0::u):Int):=by rw[HDV.out]at hv;injection hv with hv;exact hv.symm
       have HB3:=lhd hb3;have HBLT:=lhd (zbA HC2.out.1);have hlt10:=HLT10.out;generalize ((decN (c0::u):Nat):Int)=nn at*;have hwn:IntKind.i64.wrap (-nn)= -nn:=IntWalk.i64_in _ (by omega);clear hv hb3;go_wp2_with fail;refine bodyPost_ret (v:=.tuple #[.int .i64 nn,.bool true]) (by simp[results,Tryz.results241,go_sem]) rfl ?_;rw[HQ.out];exact⟨rfl,(HB3.out.cell (p:=⟨b,0,none⟩) HBLT.out).trans HC2.out.1,(HB3.out.frozen (p:=⟨b,0,none⟩) HBLT.out).trans HC2.out.2.1,HC2.out.2.2.1.trans (HB3.out.mono (Nat.le_of_lt HBLT.out))⟩
      ·skip
       have HQ:=lhd (HRR.out.trans (zhN hgood _));go_wp2_with fail;refine HATO.out.mono ?_;rintro e w3 (⟨v,hv,rfl,hb3⟩|⟨hv,-⟩);rotate_left
       ·exact absurd HDV.out (hv _)
       obtain rfl:v=(decN (c0::u):Int):=by rw[HDV.out]at hv;injection hv with hv;exact hv.symm
       have HB3:=lhd hb3;have HBLT:=lhd (zbA HC2.out.1);have hlt10:=HLT10.out;generalize ((decN (c0::u):Nat):Int)=nn at*;have hwn:IntKind.i64.wrap (-nn)= -nn:=IntWalk.i64_in _ (by omega);clear hv hb3;go_wp2_with fail;refine bodyPost_ret (v:=.tuple #[.int .i64 (-nn),.bool true]) (by simp[results,Tryz.results241,go_sem]) rfl ?_;rw[HQ.out];exact⟨rfl,(HB3.out.cell (p:=⟨b,0,none⟩) HBLT.out).trans HC2.out.1,(HB3.out.frozen (p:=⟨b,0,none⟩) HBLT.out).trans HC2.out.2.1,HC2.out.2.2.1.trans (HB3.out.mono (Nat.le_of_lt HBLT.out))⟩
end Go.Proofs.YtcdekelomkcahaaGreatDoor
