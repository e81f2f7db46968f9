import Derived.Test.YtcdekelomkcahaaGreatDoorZ00
import Derived.Test.YtcdekelomkcahaaGreatDoorZ27
set_option maxRecDepth 100000
set_option maxHeartbeats 16000000
namespace Go.Proofs.YtcdekelomkcahaaGreatDoor
structure VP (s:DS):Prop where
 sc: -15≤s.sc∧s.sc≤2
 dt:zp2 s.dt=true
 vn:zp2 s.vn=true
 cm:zp2 s.cm=true
 nw: -1≤s.now∧s.now<(s.S.length:Int)
 sn:s.S.length≤32
 sm:∀x∈s.S,zhz x.1=true∧0≤x.2.1∧x.2.1≤4
 sk:(s.S.map zlM).Nodup
 sf:Fst (parS s.S) s.S.length
 su:∀i,i<s.S.length→(upL s.S (i+1) (i:Int)).length≤8
 dn:s.D.length≤128
 dk:(s.D.map dKey).Nodup
 dc:zb5 s.D []≤64
 dv:∀x∈s.D,VV s.S.length x
 dm:∀x∈s.D,∀y∈s.D,x.code=y.code→x.kind=y.kind∧x.width=y.width
theorem zpd:VP ds0 where
 sc:=by decide
 dt:=rfl
 vn:=rfl
 cm:=rfl
 nw:=by decide
 sn:=by decide
 sm:=fun x hx=>by cases hx
 sk:=List.nodup_nil
 sf:=fun i hi=>by cases hi
 su:=fun i hi=>by cases hi
 dn:=by decide
 dk:=List.nodup_nil
 dc:=by decide
 dv:=fun x hx=>by cases hx
 dm:=fun x hx=>by cases hx
theorem zmV:∀(w cur:Bs),(∀c∈w,c≠32)→spl w cur=[cur++w]
 | [],cur,_=>by rw[spl,List.append_nil]
 |c::w,cur,h=>by
  rw[spl,if_neg (h c List.mem_cons_self),zmV w _ fun x hx=>h x (List.mem_cons_of_mem _ hx)];simp
theorem zmW:∀(w cur t:Bs),(∀c∈w,c≠32)→spl (w++32::t) cur=(cur++w)::spl t []
 | [],cur,t,_=>by rw[List.nil_append,spl,if_pos rfl,List.append_nil]
 |c::w,cur,t,h=>by
  rw[List.cons_append,spl,if_neg (h c List.mem_cons_self),zmW w _ t fun x hx=>h x (List.mem_cons_of_mem _ hx)];simp
theorem zmS:∀(l:List Bs),l≠ []→(∀w∈l,∀c∈w,c≠32)→spl (zgc l) []=l
 | [],h,_=>absurd rfl h
 | [w],_,h=>by
   show spl w []=[w];rw[zmV w [] (h w List.mem_cons_self)];rfl
 |w::x::l,_,h=>by
  rw[zgd,zmW w [] _ (h w List.mem_cons_self),zmS (x::l) (by simp) fun y hy=>h y (List.mem_cons_of_mem _ hy)];rfl
theorem zgk {l:List Bs} (h:(zgg l).2=0):zp2 (zgg l).1=true:=by
 unfold zgg at h⊢;by_cases h1:l.all zpZ=false
 ·rw[if_pos h1]at h;exact absurd h (by decide)
 ·rw[if_neg h1]at h⊢;by_cases h2:200<(zgc l).length
  ·rw[if_pos h2]at h;exact absurd h (by decide)
  ·rw[if_neg h2]at h⊢;rw[Bool.not_eq_false]at h1;show zp2 (zgc l)=true;by_cases hl:l=[]
   ·subst hl;rfl
   ·unfold zp2;rw[zmS l hl fun w hw c hc he=>?_,h1,decide_eq_true (show(zgc l).length≤200 by omega)]
    ·simp
    ·have:=(zp0 (List.all_eq_true.1 h1 w hw)).1 c hc;rw[he]at this;exact absurd this (by decide)
theorem zlY {x:Bs} (h:(zlR x).2=0): -15≤(zlR x).1∧(zlR x).1≤2:=by
 unfold zlR at h⊢;cases hf:zlV.findIdx? fun s=>decide (x=s)||decide (x=znH s)with
 |none=>rw[hf]at h;exact absurd h (by decide)
 |some i=>
  have:i<18:=(List.findIdx?_eq_some_iff_findIdx_eq.1 hf).1;show-15≤(i:Int)-15∧(i:Int)-15≤2;omega
theorem VP.keep {s t:DS} (h:VP s) (h1: -15≤t.sc∧t.sc≤2) (h2:zp2 t.dt=true) (h3:zp2 t.vn=true) (h4:zp2 t.cm=true) (h5: -1≤t.now∧t.now<(s.S.length:Int)) (h6:t.S=s.S) (h7:t.D=s.D):VP t where
 sc:=h1
 dt:=h2
 vn:=h3
 cm:=h4
 nw:=by rw[h6];exact h5
 sn:=by rw[h6];exact h.sn
 sm:=by rw[h6];exact h.sm
 sk:=by rw[h6];exact h.sk
 sf:=by rw[h6];exact h.sf
 su:=by rw[h6];exact h.su
 dn:=by rw[h7];exact h.dn
 dk:=by rw[h7];exact h.dk
 dc:=by rw[h7];exact h.dc
 dv:=by rw[h6,h7];exact h.dv
 dm:=by rw[h7];exact h.dm
theorem VP.prob {s:DS} (h:VP s) (e:Int) (w:Wd):VP (s.prob e w):=h.keep h.sc h.dt h.vn h.cm h.nw rfl rfl
theorem zn5 {l:List Bs} {w:Bs} (h:(zn4 l w).2=true):0≤(zn4 l w).1∧(zn4 l w).1<(l.length:Int):=by
 unfold zn4 at h⊢;by_cases hw:w∈l
 ·rw[if_pos hw];have:=List.idxOf_lt_length_of_mem hw;show(0:Int)≤(l.idxOf w:Nat)∧((l.idxOf w:Nat):Int)<_;omega
 ·rw[if_neg hw]at h;cases h
theorem zpe {s:DS} (h:VP s) {w:Wd} {c:List Wd} (ho:ziH s w c=none):VP (ziM s c):=by
 unfold ziH at ho;by_cases h1:c.length≠2
 ·rw[if_pos h1]at ho;cases ho
 rw[if_neg h1]at ho;by_cases h2:(zn4 zl4 (cAt c 0).1).2=false
 ·rw[if_pos h2]at ho;cases ho
 rw[if_neg h2]at ho;by_cases h3:zhz (cAt c 1).1=false
 ·rw[if_pos h3]at ho;cases ho
 rw[if_neg h3]at ho;rw[Bool.not_eq_false]at h2 h3;have ht:=zn5 h2;rw[show zl4.length=5 from rfl]at ht;unfold ziM;generalize (cAt c 1).1=nm at*;generalize (zn4 zl4 (cAt c 0).1).1=ty at*;cases hf:zd6 s.S s.now nm with
 |some k=>
  dsimp only;have hk:k<s.S.length:=(List.findIdx?_eq_some_iff_findIdx_eq.1 hf).1;exact h.keep h.sc h.dt h.vn h.cm (by show(-1:Int)≤(k:Int)∧(k:Int)<_;omega) rfl rfl
 |none=>
  rw[hf]at ho;dsimp only at ho⊢;by_cases h4:32≤s.S.length∨8≤zdb s.S s.now
  ·rw[if_pos h4]at ho;cases ho
  have hlen:(s.S++ [(nm,ty,s.now)]).length=s.S.length+1:=by rw[List.length_append];rfl
  have hpar:∀i,i<s.S.length→parS (s.S++ [(nm,ty,s.now)]) i=parS s.S i:=fun i hi=>by
   unfold parS List.getD;rw[List.getElem?_append_left hi]
  have hlast:parS (s.S++ [(nm,ty,s.now)]) s.S.length=s.now:=by
   unfold parS List.getD;rw[List.getElem?_append_right (Nat.le_refl _),Nat.sub_self];rfl
  have hF:Fst (parS (s.S++ [(nm,ty,s.now)])) (s.S++ [(nm,ty,s.now)]).length:=fun i hi=>by
   rw[hlen]at hi;by_cases hi2:i<s.S.length
   ·rw[hpar i hi2];exact h.sf i hi2
   ·obtain rfl:i=s.S.length:=by omega
    rw[hlast];exact h.nw
  have htk:(s.S++ [(nm,ty,s.now)]).take s.S.length=s.S:=by rw[List.take_left]
  have hup:∀(f:Nat) (q:Int),q<(s.S.length:Int)→upL (s.S++ [(nm,ty,s.now)]) f q=upL s.S f q:=fun f q hq=>by
   rw[←zoo hF (a:=s.S.length) (by rw[hlen];omega) f q hq,htk]
  exact
   {sc:=h.sc,dt:=h.dt,vn:=h.vn,cm:=h.cm
    nw:=by show(-1:Int)≤(s.S.length:Int)∧(s.S.length:Int)<((s.S++ [(nm,ty,s.now)]).length:Int);rw[hlen];omega
    sn:=by show(s.S++ [(nm,ty,s.now)]).length≤32;rw[hlen];omega
    sm:=fun x hx=>by
     rcases List.mem_append.1 hx with hx|hx
     ·exact h.sm x hx
     ·rw[List.mem_singleton.1 hx];exact⟨h3,ht.1,by show ty≤4;omega⟩
    sk:=by
     show((s.S++ [(nm,ty,s.now)]).map zlM).Nodup;rw[List.map_append,List.nodup_append];refine⟨h.sk,by simp,fun a ha b hb=>?_⟩;rw[List.map_cons,List.map_nil,List.mem_singleton]at hb;obtain⟨x,hx,rfl⟩:=List.mem_map.1 ha;rw[hb];intro he;unfold zd6 at hf;have:=List.findIdx?_eq_none_iff.1 hf x hx;unfold zlM at he;injection he with e1 e2;rw[decide_eq_true e1,decide_eq_true e2]at this;cases this
    sf:=hF
    su:=fun i hi=>by
     show(upL (s.S++ [(nm,ty,s.now)]) (i+1) (i:Int)).length≤8;have hi:i<(s.S++ [(nm,ty,s.now)]).length:=hi;rw[hlen]at hi;by_cases hi2:i<s.S.length
     ·rw[hup _ _ (by omega)];exact h.su i hi2
     ·obtain rfl:i=s.S.length:=by omega
      unfold upL;rw[if_neg (by omega),Int.toNat_natCast,List.getElem?_append_right (Nat.le_refl _),Nat.sub_self];show(upL (s.S++ [(nm,ty,s.now)]) s.S.length s.now).length+1≤8;rw[hup _ _ h.nw.2];have h5:zdb s.S s.now<8:=by omega
      unfold zdb at h5;have:=zoi h.sf s.S.length (s.S.length+1) s.now (by have:=h.nw.2;omega);omega
    dn:=h.dn,dk:=h.dk,dc:=h.dc
    dv:=fun x hx=>by
     have v:=h.dv x hx;show VV (s.S++ [(nm,ty,s.now)]).length x;rw[hlen];exact{v with sc:=⟨v.sc.1,by have:=v.sc.2;omega⟩}
    dm:=h.dm}
theorem zlb {ws:List Bs} (h:(refF ws).2.2.2.2=0):zhz (refF ws).1=true∧((refF ws).2.1=false→(refF ws).2.2.1=0∧(refF ws).2.2.2.1=0):=by
 unfold refF at h⊢;cases hr:refS ws with
 |none=>rw[hr]at h;exact absurd h (by decide)
 |some p=>
  obtain⟨n,r⟩:=p;rw[hr]at h;cases r with
  |none=>
   dsimp only at h⊢;by_cases hn:zhz n=true
   ·rw[if_pos hn];exact⟨hn,fun _=>⟨rfl,rfl⟩⟩
   ·rw[if_neg hn]at h;exact absurd h (by decide)
  |some r=>
   dsimp only at h⊢;by_cases hn:zhz n=false
   ·rw[if_pos hn]at h;exact absurd h (by decide)
   ·rw[if_neg hn]at h⊢;by_cases he:(zkN r).2.2≠0
    ·rw[if_pos he]at h;exact absurd h he
    ·rw[if_neg he];exact⟨Bool.not_eq_false _▸hn,fun hh=>by cases hh⟩
theorem zcO:∀{c:UInt8} {l:Bs},isD c=true→c≠48→1≤decN (c::l):=by
 intro c l hd hc
 have key:∀(l:Bs) (a:Nat),1≤a→1≤l.foldl (fun n c=>10*n+(c.toNat-48)) a:=fun l=>by
  induction l with
  |nil=>intro a ha;exact ha
  |cons x l ih=>intro a ha;exact ih _ (by show 1≤10*a+(x.toNat-48);omega)
 refine key l _ ?_;have h2:c.toNat≠48:=fun h=>hc (UInt8.toNat_inj.1 h);unfold isD at hd;simp at hd;show 1≤10*0+(c.toNat-48);omega
theorem zmN {t:Bs} {n:Int} (h:zmK t=some n):1≤n:=by
 unfold zmK at h;by_cases h1:t=[]∨9<t.length∨t.all isD=false∨t.head? =some 48
 ·rw[if_pos h1]at h;cases h
 ·rw[if_neg h1]at h;obtain rfl:=Option.some.inj h;cases t with
  |nil=>exact absurd (.inl rfl) h1
  |cons c l=>
   have h2:isD c=true:=by
    have:(c::l).all isD=true:=by
     rw[←Bool.not_eq_false];exact fun hh=>h1 (.inr (.inr (.inl hh)))
    rw[List.all_cons,Bool.and_eq_true]at this;exact this.1
   have:=zcO (l:=l) h2 fun hc=>h1 (.inr (.inr (.inr (by rw[hc];rfl))));omega
theorem zb8 (D:List Dcl) (x:Dcl):zb5 (D++ [x]) []=if x.code∈zmr D []then zb5 D []else zb5 D []+1:=by
 rw[zb6,zb6,zmv];show(if x.code∈zmr D []then zmr D []else zmr D []++ [x.code]).length=_;split
 ·rfl
 ·rw[List.length_append];rfl
theorem zpi {s:DS} (h:VP s) {w:Wd} {c:List Wd} (ho:zc7 s w c=none):VP {s with D:=s.D++ [dclF s c]}:=by
 unfold zc7 at ho;by_cases h1:c.length<4∨5<c.length
 ·rw[if_pos h1]at ho;cases ho
 rw[if_neg h1]at ho;by_cases h2:(zn4 varW (cAt c 0).1).2=false
 ·rw[if_pos h2]at ho;cases ho
 rw[if_neg h2,]at ho;rw[Bool.not_eq_false]at h2;cases hz:zmK (cAt c 1).1 with
 |none=>rw[hz]at ho;cases ho
 |some n=>
  rw[hz]at ho;dsimp only at ho;have hx0:∃x,x=dclF s c:=⟨_,rfl⟩;obtain⟨x,hx⟩:=hx0;have x1:x.nm=(refF ((txt c).drop 3)).1:=by rw[hx];rfl
  have x2:x.ty=(zn4 varW (cAt c 0).1).1:=by rw[hx];rfl
  have x3:x.sc=s.now:=by rw[hx];rfl
  have x4:x.sg=0:=by rw[hx];rfl
  have x5:x.rg=(refF ((txt c).drop 3)).2.1:=by rw[hx];rfl
  have x6:x.mb=(refF ((txt c).drop 3)).2.2.1:=by rw[hx];rfl
  have x7:x.lb=(refF ((txt c).drop 3)).2.2.2.1:=by rw[hx];rfl
  have x8:x.kind=zgo x.ty:=by rw[hx];rfl
  have x9:x.width=if x.kind=0 then n else 0:=by rw[hx];unfold dclF;dsimp only;rw[hz];rfl
  rw[←hx]at ho⊢;clear hx;by_cases h3:x.kind=0∧128<n
  ·rw[if_pos h3]at ho;cases ho
  rw[if_neg h3]at ho;by_cases h4:zb1 x.code=false
  ·rw[if_pos h4]at ho;cases ho
  rw[if_neg h4]at ho;rw[Bool.not_eq_false]at h4;by_cases h5:(refF ((txt c).drop 3)).2.2.2.2≠0
  ·rw[if_pos h5]at ho;cases ho
  rw[if_neg h5]at ho;have h5:(refF ((txt c).drop 3)).2.2.2.2=0:=by omega
  by_cases h6:x.rg=true∧x.kind≠0
  ·rw[if_pos h6]at ho;cases ho
  rw[if_neg h6]at ho;by_cases h7:x.rg=true∧zpX x.mb x.lb≠n
  ·rw[if_pos h7]at ho;cases ho
  rw[if_neg h7]at ho;obtain⟨r1,r2⟩:=zlb h5;rw[←x1]at r1;rw[←x5,←x6,←x7]at r2;have ht:=zn5 h2;rw[←x2,show varW.length=19 from rfl]at ht;have hn:=zmN hz
  have hv:VV s.S.length x:=by
   refine{sc:=by rw[x3];exact h.nw,nm:=r1,ty:=⟨ht.1,by omega⟩,sg:=x4,r0:=r2,r1:=fun hr=>?_,cd:=h4,kd:=x8,w0:=fun hk=>?_,w1:=fun hk=>?_}
   ·have hk:x.kind=0:=Classical.byContradiction fun hk=>h6 ⟨hr,hk⟩;have hw:zpX x.mb x.lb=n:=Classical.byContradiction fun hk=>h7 ⟨hr,hk⟩;rw[if_pos hk]at x9;have hb:=zpY (m:=x.mb) (l:=x.lb) (by omega);exact⟨hk,hb.1,hb.2,by omega⟩
   ·rw[if_pos hk]at x9;have:¬128<n:=fun hh=>h3 ⟨hk,hh⟩;omega
   ·rw[if_neg hk]at x9;exact x9
  have fin:s.D.any (dupV x)=false→s.D.length<128→zb5 (s.D++ [x]) []≤64→(∀y∈s.D,y.code=x.code→y.kind=x.kind∧y.width=x.width)→VP {s with D:=s.D++ [x]}:=fun f1 f2 f3 f4=>
   {sc:=h.sc,dt:=h.dt,vn:=h.vn,cm:=h.cm,nw:=h.nw,sn:=h.sn,sm:=h.sm,sk:=h.sk,sf:=h.sf,su:=h.su
    dn:=by show(s.D++ [x]).length≤128;rw[List.length_append,List.length_cons,List.length_nil];omega
    dk:=by
     show((s.D++ [x]).map dKey).Nodup;rw[List.map_append,List.nodup_append];refine⟨h.dk,by simp,fun a ha b hb=>?_⟩;rw[List.map_cons,List.map_nil,List.mem_singleton]at hb;obtain⟨y,hy,rfl⟩:=List.mem_map.1 ha;rw[hb];intro he;have:=zaK.1 f1 y hy;unfold dKey at he;injection he with e1 he;injection he with e2 he;injection he with e3 he;injection he with e4 e5;unfold dupV at this;rw[decide_eq_true e1,decide_eq_true e2,decide_eq_true e3,decide_eq_true e4,decide_eq_true e5,decide_eq_true (((h.dv y hy).sg).trans x4.symm)]at this;cases this
    dc:=f3
    dv:=fun y hy=>by
     rcases List.mem_append.1 hy with hy|hy
     ·exact h.dv y hy
     ·rw[List.mem_singleton.1 hy];exact hv
    dm:=fun y hy z hz2 hyz=>by
     rcases List.mem_append.1 hy with hy|hy<;>rcases List.mem_append.1 hz2 with hz2|hz2
     ·exact h.dm y hy z hz2 hyz
     ·rw[List.mem_singleton.1 hz2]at hyz⊢;exact f4 y hy hyz
     ·rw[List.mem_singleton.1 hy]at hyz⊢;have:=f4 z hz2 hyz.symm;exact⟨this.1.symm,this.2.symm⟩
     ·rw[List.mem_singleton.1 hy,List.mem_singleton.1 hz2];exact⟨rfl,rfl⟩}
  have hany:s.D.any (dupV x)=true∨s.D.any (dupV x)=false:=by cases s.D.any (dupV x)<;>simp
  cases hk:knD s.D x.code with
  |some o=>
   rw[hk]at ho;dsimp only at ho;unfold knD at hk;have ho1:=List.mem_of_find?_eq_some hk;have ho2:=of_decide_eq_true (List.find?_some (p:=fun y:Dcl=>decide (y.code=x.code)) hk);by_cases k1:o.kind≠x.kind
   ·rw[if_pos k1]at ho;cases ho
   rw[if_neg k1]at ho;by_cases k2:o.width≠x.width
   ·rw[if_pos k2]at ho;cases ho
   rw[if_neg k2]at ho;rcases hany with ha|ha
   ·rw[if_pos ha]at ho;cases ho
   rw[if_neg (by rw[ha];simp)]at ho;by_cases k3:128≤s.D.length
   ·rw[if_pos k3]at ho;cases ho
   refine fin ha (by omega) ?_ fun y hy hyx=>?_
   ·rw[zb8,if_pos (zmz.2 (.inr ⟨o,ho1,ho2⟩))];exact h.dc
   ·have:=h.dm y hy o ho1 (hyx.trans ho2.symm);omega
  |none=>
   rw[hk]at ho;dsimp only at ho;unfold knD at hk;rcases hany with ha|ha
   ·rw[if_pos ha]at ho;cases ho
   rw[if_neg (by rw[ha];simp)]at ho;by_cases k3:128≤s.D.length∨64≤zb5 s.D []
   ·rw[if_pos k3]at ho;cases ho
   have hno:∀y∈s.D,y.code≠x.code:=fun y hy he=>List.find?_eq_none.1 hk y hy (decide_eq_true he);refine fin ha (by omega) ?_ fun y hy hyx=>absurd hyx (hno y hy);rw[zb8];split<;>omega
theorem zpg {s:DS} (h:VP s) (w:Wd) (c:List Wd):VP (secP s w c):=by
 unfold secP;split
 ·unfold zcG;split
  ·exact h.prob _ _
  ·rename_i h0
   split
   ·exact h
   ·exact h.keep h.sc (zgk (by omega)) h.vn h.cm h.nw rfl rfl
 split
 ·unfold zpc;split
  ·exact h.prob _ _
  ·rename_i h0
   split
   ·exact h
   ·exact h.keep h.sc h.dt (zgk (by omega)) h.cm h.nw rfl rfl
 split
 ·unfold zb9;split
  ·exact h.prob _ _
  ·rename_i h0
   split
   ·exact h
   ·exact h.keep h.sc h.dt h.vn (zgk (by omega)) h.nw rfl rfl
 split
 ·unfold zlQ;split
  ·exact h.prob _ _
  ·rename_i h0
   split
   ·exact h
   ·exact h.keep (zlY (by omega)) h.dt h.vn h.cm h.nw rfl rfl
 split
 ·unfold zl1;split
  ·exact h.keep h.sc h.dt h.vn h.cm h.nw rfl rfl
  ·cases ho:ziH s w c with
   |some e=>exact(h.prob e.1 e.2).keep h.sc h.dt h.vn h.cm h.nw rfl rfl
   |none=>exact zpe h ho
 split
 ·unfold upP;split
  ·exact h.keep h.sc h.dt h.vn h.cm h.nw rfl rfl
  ·split
   ·exact h.prob _ _
   ·rename_i h1
    have hnow:=h.nw;have hp:=h.sf s.now.toNat (by omega);have ht:VP {s with now:=parS s.S s.now.toNat}:=h.keep h.sc h.dt h.vn h.cm (by show(-1:Int)≤parS s.S s.now.toNat∧parS s.S s.now.toNat<_;omega) rfl rfl;dsimp only;split
    ·exact ht.prob _ _
    ·exact ht
 split
 ·unfold varP;split
  ·exact h
  ·cases ho:zc7 s w c with
   |some e=>exact h.prob e.1 e.2
   |none=>exact zpi h ho
 split
 ·unfold endD;have ht:VP {s with ended:=true}:=h.keep h.sc h.dt h.vn h.cm h.nw rfl rfl;dsimp only;split
  ·exact ht.prob _ _
  ·exact ht
 ·exact h.prob _ _
theorem zph {s:DS} (h:VP s) (w:Wd) (t:List Wd):VP (zcF s w t).1:=by
 unfold zcF;split
 ·exact h.prob _ _
 split
 ·exact h.prob _ _
 split
 ·exact zpg h _ _
 ·exact h.prob _ _
theorem zpf:∀(n:Nat) (l:List Wd) (s:DS),l.length≤n→VP s→VP (dRun s l).1
 |_,[],s,_,h=>by rw[zcD];exact h
 |0,w::t,s,hl,_=>absurd hl (by simp)
 |n+1,w::t,s,hl,h=>by
  cases he:s.ended with
  |true=>rw[zcB he];exact h
  |false=>
   have hv:=zph h w t;cases hs:(zcF s w t).2 with
   |none=>rw[zcE he (show zcF s w t=((zcF s w t).1,none)by rw[←hs])];exact hv
   |some k=>
    rw[zcC he (show zcF s w t=((zcF s w t).1,some k)by rw[←hs])];refine zpf n _ _ ?_ hv;rw[List.length_drop];rw[List.length_cons]at hl;omega
theorem zjL (ws:List Wd):VP (zjK ws).1:=zpf ws.length ws ds0 (Nat.le_refl _) zpd
open Go.RowKit
set_option linter.unusedSimpArgs false
def zoe:List (Bs×Int):=[([115],0),([109,115],-3),([117,115],-6),([110,115],-9),([112,115],-12),([102,115],-15)]
def unC:List Value:=zoe.flatMap fun u=> [.string (bsB u.1),.int .i64 u.2]
theorem znY (w:World):Calls Tryz.prog 155 #[] w fun e w'=>e=.returned (.slice (some ⟨w.heap.size,0,none⟩) 6 6)∧w'=w.alloc (.cells unC.toArray 167):=by
 go_enter Tryz.func155,Tryz.ntmps155;go_wp2_with fail;go_ret;exact⟨rfl,rfl⟩
def unI (n:Int):Nat:=5-((n+15)/3).toNat
theorem zoa (n:Int):unI n≤5:=by unfold unI;omega
theorem zod {j:Nat} (hj:j≤5):∃u,zoe[j]? =some u∧u.2= -3*(j:Int):=by
 rcases(by omega:j=0∨j=1∨j=2∨j=3∨j=4∨j=5)with rfl|rfl|rfl|rfl|rfl|rfl<;>exact⟨_,rfl,rfl⟩
theorem zn9 {j:Nat} (hj:j≤5):unC[j*2]? =some (.string (bsB (zoe.getD j ([],0)).1))∧unC[j*2+1]? =some (.int .i64 (-3*(j:Int))):=by
 rcases(by omega:j=0∨j=1∨j=2∨j=3∨j=4∨j=5)with rfl|rfl|rfl|rfl|rfl|rfl<;>exact⟨rfl,rfl⟩
theorem znX (n:Int) (w:World) (hn: -15≤n∧n≤2):Calls Tryz.prog 123 #[.int .i64 n] w fun e w'=>e=.returned (.agg #[.string (bsB (zoe.getD (unI n) ([],0)).1),.int .i64 (-3*((unI n:Nat):Int))])∧Below w.heap.size w w':=by
 have hal:Below w.heap.size w (w.alloc (.cells #[.string ⟨#[]⟩,.int .i64 0] 167)):=(Below.refl _ _).alloc (Nat.le_refl _) _;have HR0:=lhd (zaq.fresh w #[.string ⟨#[]⟩,.int .i64 0] 167);have hz1:(w.alloc (.cells #[.string ⟨#[]⟩,.int .i64 0] 167)).heap.size=w.heap.size+1:=by simp
 have HRU:=lhd (zaq.fresh (w.alloc (.cells #[.string ⟨#[]⟩,.int .i64 0] 167)) unC.toArray 167);have HN:=lhd hn;have HLE:=lhd (zoa n);go_enter Tryz.func123,Tryz.ntmps123;go_wp2_with fail;refine(znY _).mono ?_;rintro e w2 ⟨rfl,rfl⟩;have HB2:=lhd (hal.trans ((Below.refl _ _).alloc (by rw[hz1];omega) (.cells unC.toArray 167)));have HR2:=lhd (HR0.out.below ((Below.refl _ _).alloc (Nat.le_refl _) (.cells unC.toArray 167)) (by rw[hz1];omega));rw[hz1]at HRU;have hz2:w.heap.size+1<((w.alloc (.cells #[.string ⟨#[]⟩,.int .i64 0] 167)).alloc (.cells unC.toArray 167)).heap.size:=by simp
 rw[hz1];generalize (w.alloc (.cells #[.string ⟨#[]⟩,.int .i64 0] 167)).alloc (.cells unC.toArray 167)=w2 at*;clear HR0 hal hz1;go_wp2_with fail;go_loopw [7] (fun u wr=>∃k:Nat,k≤unI n∧u=.int .i64 k∧zaq wr w.heap.size [.string ⟨#[]⟩,.int .i64 0]∧zaq wr (w.heap.size+1) unC∧w.heap.size+1<wr.heap.size∧Below w.heap.size w wr) (fun u _=>6-(intOf u).toNat)
 case atStart=>exact⟨0,Nat.zero_le _,rfl,HR2.out,by simpa using HRU.out,hz2,HB2.out⟩
 case round=>
  obtain⟨k,hk,rfl,hr0,hru,hz,hb⟩:=hrel;have HB:=lhd hb;have HR:=lhd hr0;have HU:=lhd hru;have hk5:k≤5:=Nat.le_trans hk HLE.out;obtain⟨e0,e1⟩:=zn9 hk5;have d0:=hru.cell e0;have d1:=hru.cell e1;clear e0 e1 hb hr0 hru;have hlo:w.heap.size<wr.heap.size:=by omega
  generalize hnm:(zoe.getD k ([],0)).1=nm at d0;have HNM:=lhd hnm;clear hnm;by_cases hlt:k<unI n
  ·have hp:¬(-3*(k:Int))≤n:=by have:=HN.out;unfold unI at hlt;omega
   have HNX:=lhd (show Below w.heap.size w (wr.alloc (.cells #[.string (bsB nm),.int .i64 (-3*(k:Int))] 167))∧zaq (wr.alloc (.cells #[.string (bsB nm),.int .i64 (-3*(k:Int))] 167)) w.heap.size [.string ⟨#[]⟩,.int .i64 0]∧zaq (wr.alloc (.cells #[.string (bsB nm),.int .i64 (-3*(k:Int))] 167)) (w.heap.size+1) unC from
    ⟨HB.out.alloc (by omega) _,HR.out.below ((Below.refl _ _).alloc (Nat.le_refl _) _) hlo,HU.out.below ((Below.refl _ _).alloc (Nat.le_refl _) _) hz⟩)
   generalize hpw: -3*(k:Int)=pw at*;clear hpw;go_wp2_with fail;go_roundw;case rel=>exact⟨k+1,hlt,by go_num,HNX.out.2.1,HNX.out.2.2,by simp;omega,HNX.out.1⟩
   case measure=>simp[intOf];omega
  ·obtain rfl:k=unI n:=by omega
   have hp:(-3*((unI n:Nat):Int))≤n:=by have:=HN.out;unfold unI;omega
   have HP:=lhd hp;generalize hpw: -3*((unI n:Nat):Int)=pw at*;have q0:=HR.out.cell (j:=0) rfl;have q1:=HR.out.cell (j:=1) rfl;have f0:=HR.out.free (j:=0) (by simp);have f1:=HR.out.free (j:=1) (by simp);clear hlt;have HQ:=lhd hpw;have HF:=lhd (((HR.out.set (j:=0) (by simp) (.string (bsB nm))).set (j:=1) (by simp) (.int .i64 pw)).alloc (by simpa using hlo) (.cells #[.string (bsB nm),.int .i64 pw] 167));clear hpw;go_wp2_with fail;have t0:=HF.out.cell (j:=0) rfl;have t1:=HF.out.cell (j:=1) rfl;refine bodyPost_ret (v:=.agg #[.string (bsB nm),.int .i64 pw]) (by simp[results,Tryz.results123,go_sem,t0,t1]) rfl ⟨?_,((HB.out.setCell (Nat.le_refl _) _).setCell (Nat.le_refl _) _).alloc (by simp;omega) _⟩;rw[HQ.out,HNM.out]
theorem zmH:∀k:Fin 18,bsB (Lib.itoa ((10^((k.val:Int)-15+3*((unI ((k.val:Int)-15):Nat):Int)).toNat:Nat):Int))++⟨#[32]⟩++bsB (zoe.getD (unI ((k.val:Int)-15)) ([],0)).1=bsB (zlU ((k.val:Int)-15)):=by decide+kernel
theorem zmI {n:Int} (hn: -15≤n∧n≤2) {d:Nat} (hd:n+3*((unI n:Nat):Int)=(d:Int)):bsB (Lib.itoa ((10^d:Nat):Int))++⟨#[32]⟩++bsB (zoe.getD (unI n) ([],0)).1=bsB (zlU n):=by
 have h:=zmH ⟨(n+15).toNat,by omega⟩;dsimp only at h;have e:(((n+15).toNat:Nat):Int)-15=n:=by omega
 rw[e]at h;rwa [show(n+3*((unI n:Nat):Int)).toNat=d by omega]at h
theorem znS (n:Int) (w:World) (hn: -15≤n∧n≤2) (hg:Glob w):Calls Tryz.prog 70 #[.int .i64 1,.int .i64 n] w fun e w'=>e=.returned (.string (bsB (zlU n)))∧Below w.heap.size w w':=by
 obtain⟨d,hd⟩:∃d:Nat,n+3*((unI n:Nat):Int)=(d:Int):=⟨(n+3*((unI n:Nat):Int)).toNat,by unfold unI;omega⟩;have hd2:d≤2:=by unfold unI at hd;omega
 have HT:=lhd (zmI hn hd);have b1:decide (-15≤n)=true:=by simpa using hn.1
 have b2:decide (n≤2)=true:=by simpa using hn.2
 have HV:=lhd (znT n w);rw[b1,b2,Bool.and_self]at HV;have HU:=lhd (znX n w hn);obtain⟨pw,hpw⟩:∃pw:Int,pw= -3*((unI n:Nat):Int):=⟨_,rfl⟩;rw[←hpw]at HU;have hw1:IntKind.i64.wrap (n-pw)=(d:Int):=by rw[show n-pw=(d:Int)by omega];exact IntWalk.i64_in _ (by omega)
 have hp:=zjY (k:=d) (by omega);have HTEN:=lhd (fun(W:World)=>znU d W (by omega));obtain⟨y,hy⟩:∃y:Int,y=((10^d:Nat):Int):=⟨_,rfl⟩;rw[←hy]at HT hp;have HTEN:=lhd (show ∀W:World,Calls Tryz.prog 124 #[.int .i64 (d:Int)] W fun e w'=>e=.returned (.int .i64 y)∧Below W.heap.size W w' by rw[hy];exact HTEN.out)
 have hy2:y≤1000:=by
  rcases(by omega:d=0∨d=1∨d=2)with rfl|rfl|rfl<;>(rw[hy];decide)
 have hw2:IntKind.i64.wrap y=y:=IntWalk.i64_in _ (by omega);have HI:=lhd (fun(W:World) (h:Below w.heap.size w W)=>zcb y W (hg.below h) (by omega));have z1:=zfY y (by omega);generalize bsB (Lib.itoa y)=z at*
 have hnl:(bsB (zoe.getD (unI n) ([],0)).1).size≤10:=by
  rw[zbk];obtain⟨u,hu,-⟩:=zod (zoa n);rw[List.getD_eq_getElem?_getD,hu];have:=List.mem_of_getElem? hu;simp[zoe]at this;rcases this with rfl|rfl|rfl|rfl|rfl|rfl<;>decide
 generalize bsB (zoe.getD (unI n) ([],0)).1=nm at*;generalize bsB (zlU n)=R at*;have hq1:¬9223372036854775807<z.size+1:=by omega
 have hq2:¬9223372036854775807<z.size+1+nm.size:=by omega
 clear hpw hd b1 b2 hg hy hn;go_enter Tryz.func70,Tryz.ntmps70;go_wp2_with fail;refine HV.out.mono ?_;rintro e w1 ⟨rfl,rfl⟩;go_wp2_with fail;refine HU.out.mono ?_;rintro e w2 ⟨rfl,hb2⟩;have hal:Below w.heap.size w (w2.alloc (.cells #[.string nm,.int .i64 pw] 167)):=hb2.alloc hb2.size _;have HX:=lhd (zaq.fresh w2 #[.string nm,.int .i64 pw] 167);have HZ:=lhd (show w2.heap.size<(w2.alloc (.cells #[.string nm,.int .i64 pw] 167)).heap.size by simp);have HB:=lhd hal;clear hb2 hal;go_upto_region 4 with fail;generalize hw3:w2.alloc (.cells #[.string nm,.int .i64 pw] 167)=w3 at*;have x0:=HX.out.cell (j:=0) rfl;have x1:=HX.out.cell (j:=1) rfl;refine wp_region_held_drew (S:=(fun w'=>w'.cell? ⟨w2.heap.size,0,none⟩=some (.string nm)∧w'.cell? ⟨w2.heap.size,1,none⟩=some (.int .i64 pw))) (by kernel_rfl) ⟨x0,x1⟩ (fun hHeld=>?_);refine tkH 0 hHeld (v:=?_) ?_ ?_;rotate_left
 ·intro w h;(try dsimp only at h);go_simp;all_goals with_reducible rfl
 simp only[tkS];refine tkH 1 hHeld (v:=?_) ?_ ?_;rotate_left
 ·intro w h;(try dsimp only at h);go_simp;all_goals with_reducible rfl
 simp only[tkS];refine tkH 2 hHeld (v:=?_) ?_ ?_;rotate_left
 ·intro w h;(try dsimp only at h);go_simp;all_goals with_reducible rfl
 simp only[tkS];refine tkH 3 hHeld (v:=?_) ?_ ?_;rotate_left
 ·intro w h;(try dsimp only at h);go_simp;all_goals with_reducible rfl
 simp only[tkS];refine tkH 4 hHeld (v:=?_) ?_ ?_;rotate_left
 ·intro w h;(try dsimp only at h);go_simp;all_goals with_reducible rfl
 simp only[tkS];refine tkH 9 hHeld (v:=?_) ?_ ?_;rotate_left
 ·intro w h;(try dsimp only at h);go_simp;all_goals with_reducible rfl
 simp only[tkS];refine tkH 10 hHeld (v:=?_) ?_ ?_;rotate_left
 ·intro w h;(try dsimp only at h);go_simp;all_goals with_reducible rfl
 simp only[tkS];have hbq:Below w3.heap.size w3 w3.drew:=(Below.refl _ _).drew;have SF:=lhd (fun W (hW:Below w3.heap.size w3 W)=>And.intro ((HX.out.below hW HZ.out).cell (j:=0) (v:=.string nm) rfl) ((HX.out.below hW HZ.out).cell (j:=1) (v:=.int .i64 pw) rfl));generalize w3.drew=w4 at*;refine oneH 5 (fun K hK=>?_);go_simp;refine(HTEN.out w4).mono ?_;rintro e w5 ⟨rfl,hb⟩;have hbq:=zd5 hbq hb;clear hHeld hb;go_wp2_with fail;refine hK.out _ _ (SF.out _ hbq) (fun hHeld=>?_);clear hK;try simp only[tkS]
 refine tkH 6 hHeld (v:=?_) ?_ ?_;rotate_left
 ·intro w h;(try dsimp only at h);go_simp;all_goals with_reducible rfl
 simp only[tkS];refine oneH 7 (fun K hK=>?_);go_simp;refine(HI.out w5 (zd5 HB.out hbq)).mono ?_;rintro e w6 ⟨rfl,hb⟩;have hbq:=zd5 hbq hb;clear hHeld hb;go_wp2_with fail;refine hK.out _ _ (SF.out _ hbq) (fun hHeld=>?_);clear hK;try simp only[tkS]
 refine tkH 8 hHeld (v:=?_) ?_ ?_;rotate_left
 ·intro w h;(try dsimp only at h);go_simp;all_goals with_reducible rfl
 simp only[tkS];refine tkH 11 hHeld (v:=?_) ?_ ?_;rotate_left
 ·intro w h;(try dsimp only at h);go_simp;all_goals with_reducible rfl
 simp only[tkS];refine oneH 12 (fun K hK=>?_);go_simp;refine hK.out _ _ (SF.out _ hbq) (fun hHeld=>?_);clear hK;try simp only[tkS]
 refine wpAnyH_done (by kernel_rfl) ?_ _;have HBQ:=lhd (zd5 HB.out hbq);clear hHeld hbq;go_wp2_with fail;go_ret;exact⟨by rw[HT.out];rfl,HBQ.out⟩
theorem znQ (n:Int) (w:World) (hg:Glob w):Calls Tryz.prog 38 #[.int .i64 n] w fun e w'=>e=.returned (.string (bsB (zlU n)))∧Below w.heap.size w w':=by
 have HV:=lhd (znT n w);by_cases hn: -15≤n∧n≤2
 ·have HS:=lhd (znS n w hn hg);have b1:decide (-15≤n)=true:=by simpa using hn.1
  have b2:decide (n≤2)=true:=by simpa using hn.2
  rw[b1,b2,Bool.and_self]at HV;generalize bsB (zlU n)=R at*;clear b1 b2 hn;go_enter Tryz.func38,Tryz.ntmps38;go_wp2_with fail;refine HV.out.mono ?_;rintro e w1 ⟨rfl,rfl⟩;go_wp2_with fail;refine HS.out.mono ?_;rintro e w2 ⟨rfl,hb⟩;have HB:=lhd hb;clear hb;go_wp2_with fail;go_ret;exact⟨rfl,HB.out⟩
 ·have hz:zlU n=[]:=by
   unfold zlU;rw[if_pos (by omega)]
  have b1:(decide (-15≤n)&&decide (n≤2))=false:=by
   rw[←Bool.decide_and,decide_eq_false_iff_not];exact hn
  rw[b1]at HV;rw[hz];clear b1 hn hz;go_enter Tryz.func38,Tryz.ntmps38;go_wp2_with fail;refine HV.out.mono ?_;rintro e w1 ⟨rfl,rfl⟩;go_wp2_with fail;go_ret;exact⟨rfl,Below.refl _ _⟩
end Go.Proofs.YtcdekelomkcahaaGreatDoor
