import Derived.Test.YtcdekelomkcahaaGreatDoorZ29
set_option maxRecDepth 100000
set_option maxHeartbeats 16000000
namespace Go.Proofs.YtcdekelomkcahaaGreatDoor
theorem zh6 {α:Type} [DecidableEq α]:∀{l m:List α},l.Nodup→(∀x∈l,x∈m)→l.length≤m.length
 | [],_,_,_=>Nat.zero_le _
 |x::l,m,hn,hs=>by
  rw[List.nodup_cons]at hn;have hx:=hs x List.mem_cons_self;have h:=zh6 (m:=m.erase x) hn.2 fun y hy=>(List.mem_erase_of_ne (fun e=>hn.1 (by rw[←e];exact hy))).2 (hs y (List.mem_cons_of_mem _ hy));rw[List.length_erase_of_mem hx]at h;have:=List.length_pos_of_mem hx;rw[List.length_cons];omega
theorem zmB:∀(l:List Dcl) (s:List Bs),s.Nodup→(zmr l s).Nodup
 | [],s,h=>h
 |x::l,s,h=>by
  refine zmB l _ ?_;split
  ·exact h
  ·rename_i hx
   rw[List.nodup_append];refine⟨h,by simp,fun a ha b hb=>?_⟩;rw[List.mem_singleton.1 hb];exact fun e=>hx (e▸ha)
theorem zmw:∀(l:List Dcl) (s:List Bs) (c:Bs),c∈s→(zmr l s).idxOf c=s.idxOf c
 | [],s,c,_=>rfl
 |x::l,s,c,h=>by
  show(zmr l (if x.code∈s then s else s++ [x.code])).idxOf c=s.idxOf c;split
  ·exact zmw l s c h
  ·rw[zmw l _ c (List.mem_append_left _ h),List.idxOf_append,if_pos h]
theorem zpb:∀(l:List Dcl) (s:List Bs),∀p∈(zoY l s).zip l,p.1=vrD p.2 ((zmr l s).idxOf p.2.code:Nat)∧p.2.code∈zmr l s∧p.2∈l
 | [],s,p,h=>by cases h
 |x::l,s,p,h=>by
  rw[zoY,List.zip_cons_cons]at h;rcases List.mem_cons.1 h with rfl|h
  ·dsimp only;refine⟨?_,zmz.2 (.inr ⟨x,List.mem_cons_self,rfl⟩),List.mem_cons_self⟩;show _=vrD x ((zmr l (zmp s x.code)).idxOf x.code:Nat);rw[zmw l _ _ (zmq s x.code)]
  ·obtain⟨h1,h2,h3⟩:=zpb l _ p h;exact⟨h1,h2,List.mem_cons_of_mem _ h3⟩
theorem zo7 {l:List Dcl} {v:Vr} (h:v∈zoY l []):∃x∈l,v=vrD x ((zmr l []).idxOf x.code:Nat)∧(v,x)∈(zoY l []).zip l:=by
 obtain⟨i,hi,rfl⟩:=List.mem_iff_getElem.1 h;have hi2:i<l.length:=by rwa [zo0]at hi
 have hz:i<((zoY l []).zip l).length:=by rw[List.length_zip];omega
 have hm:=List.getElem_mem hz;rw[List.getElem_zip]at hm;have:=zpb l [] _ hm;exact⟨l[i],List.getElem_mem hi2,this.1,hm⟩
def codM (l:List (Vr×Dcl)):Int→Option Dcl:=l.foldl (fun m p q=>if q=p.1.sg then some p.2 else m q) (fun _=>none)
theorem zbY:∀(l:List (Vr×Dcl)) (m:Int→Option Dcl) (q:Int),(∃p∈l,p.1.sg=q)→∃p∈l,p.1.sg=q∧l.foldl (fun m p q=>if q=p.1.sg then some p.2 else m q) m q=some p.2
 | [],m,q,h=>by obtain⟨p,hp,_⟩:=h;cases hp
 |p::l,m,q,h=>by
  by_cases h1:∃p∈l,p.1.sg=q
  ·obtain⟨p',h2,h3,h4⟩:=zbY l (fun q=>if q=p.1.sg then some p.2 else m q) q h1;exact⟨p',List.mem_cons_of_mem _ h2,h3,h4⟩
  ·obtain⟨p',h2,h3⟩:=h;rcases List.mem_cons.1 h2 with rfl|h2
   ·refine⟨p',List.mem_cons_self,h3,?_⟩
    have key:∀(l:List (Vr×Dcl)) (m:Int→Option Dcl),(¬ ∃p∈l,p.1.sg=q)→l.foldl (fun m p q=>if q=p.1.sg then some p.2 else m q) m q=m q:=fun l=>by
     induction l with
     |nil=>intro m _;rfl
     |cons a l ih=>
      intro m h;rw[List.foldl_cons,ih _ fun⟨p,hp,h2⟩=>h ⟨p,List.mem_cons_of_mem _ hp,h2⟩,if_neg fun e=>h ⟨a,List.mem_cons_self,e.symm⟩]
    rw[List.foldl_cons,key l _ h1,if_pos h3.symm]
   ·exact absurd ⟨p',h2,h3⟩ h1
theorem zbZ {l:List (Vr×Dcl)} {q:Int} (h:∃p∈l,p.1.sg=q):∃p∈l,p.1.sg=q∧codM l q=some p.2:=zbY l _ q h
def zk2 (cm:Int→Option Dcl) (fm:List Int) (v:Vr):Dcl:=
 let c:=(cm (fm.getD v.sg.toNat 0)).getD ⟨[],0,0,0,false,0,0,[],0,0⟩
 ⟨v.nm,v.ty,v.sc,0,v.rg,v.mb,v.lb,c.code,c.kind,c.width⟩
theorem zit:∀(l:List Vr) (fm:List Int),fm.Nodup→(numF fm l).2.Nodup∧(∀q,q∈(numF fm l).2↔q∈fm∨∃v∈l,v.sg=q)∧(∀q∈fm,(numF fm l).2.idxOf q=fm.idxOf q)∧(numF fm l).1=l.map fun v=>{v with sg:=((numF fm l).2.idxOf v.sg:Nat)}
 | [],fm,h=>⟨h,fun q=>by simp[numF],fun q _=>rfl,rfl⟩
 |v::l,fm,h=>by
  by_cases hc:fm.contains v.sg=true
  ·obtain⟨h1,h2,h3,h4⟩:=zit l fm h;have hm:=List.contains_iff_mem.1 hc;rw[zif hc];refine⟨h1,fun q=>?_,h3,?_⟩
   ·rw[h2];constructor
    ·rintro(hq|⟨u,hu,e⟩)
     ·exact .inl hq
     ·exact .inr ⟨u,List.mem_cons_of_mem _ hu,e⟩
    ·rintro(hq|⟨u,hu,e⟩)
     ·exact .inl hq
     ·rcases List.mem_cons.1 hu with rfl|hu
      ·exact .inl (e▸hm)
      ·exact .inr ⟨u,hu,e⟩
   ·dsimp only;rw[List.map_cons,h3 _ hm,←h4]
  ·have hm:v.sg∉fm:=fun hm=>hc (List.contains_iff_mem.2 hm)
   obtain⟨h1,h2,h3,h4⟩:=zit l (fm++ [v.sg]) (by
    rw[List.nodup_append];refine⟨h,by simp,fun a ha b hb=>?_⟩;rw[List.mem_singleton.1 hb];exact fun e=>hm (e▸ha))
   rw[zig hc];refine⟨h1,fun q=>?_,fun q hq=>?_,?_⟩
   ·rw[h2,List.mem_append,List.mem_singleton];constructor
    ·rintro((hq|rfl)|⟨u,hu,e⟩)
     ·exact .inl hq
     ·exact .inr ⟨v,List.mem_cons_self,rfl⟩
     ·exact .inr ⟨u,List.mem_cons_of_mem _ hu,e⟩
    ·rintro(hq|⟨u,hu,e⟩)
     ·exact .inl (.inl hq)
     ·rcases List.mem_cons.1 hu with rfl|hu
      ·exact .inl (.inr e.symm)
      ·exact .inr ⟨u,hu,e⟩
   ·dsimp only;rw[h3 q (List.mem_append_left _ hq),List.idxOf_append,if_pos hq]
   ·dsimp only;rw[List.map_cons,h3 v.sg (by simp),←h4,List.idxOf_append,if_neg hm];simp
theorem zja {s:DS} (h:VP s) {V:List Vr} (hV:V=zoY s.D []):
 zbF s.S V=0∧(vrF s.S V).1.length=s.D.length∧(vrF s.S V).2.length≤64∧(∀v∈(vrF s.S V).1,0≤v.sg∧v.sg<((vrF s.S V).2.length:Int))
  ∧(∀v∈(vrF s.S V).1,∃y,codM (V.zip s.D) ((vrF s.S V).2.getD v.sg.toNat 0)=some y)
  ∧VD ⟨s.sc,s.dt,s.vn,s.cm,scF s.S,(vrF s.S V).1.map (zk2 (codM (V.zip s.D)) (vrF s.S V).2)⟩:=by
 have toV:∀{q:Vr→Prop} (_:∀x∈s.D,VV s.S.length x→∀k,q (vrD x k)),∀v∈V,q v:=fun{q} hq v hv=>by
  rw[hV]at hv;obtain⟨x,hx,e,_⟩:=zo7 hv;rw[e];exact hq x hx (h.dv x hx) _
 have hVs:∀v∈V,-1≤v.sc∧v.sc<(s.S.length:Int):=toV fun x _ v k=>v.sc;have key:V.map zpk=s.D.map dKey:=by rw[hV];exact zo1 _ _ (fun _ _=>rfl) _ _
 have hl:V.length=s.D.length:=by rw[hV,zo0]
 have hC:zbF s.S V=0:=zbN.2
  {n:=h.sn,m:=by rw[hl];exact h.dn,d:=zc2 h.sf fun v hv=>⟨(hVs v hv).1,(hVs v hv).2,by rw[hV]at hv;exact zo3 _ _ v hv⟩,u:=h.su
   ns:=fun x hx=>(h.sm x hx).1,nv:=toV fun x _ v k=>v.nm
   ts:=fun x hx=>(h.sm x hx).2,tv:=toV fun x _ v k=>v.ty
   r:=toV fun x _ v k=>by
    unfold zkJ vrD;dsimp only;cases hr:x.rg with
    |false=>
     rw[if_neg (by simp),(v.r0 hr).1,(v.r0 hr).2];rfl
    |true=>
     have t:=v.r1 hr;have t2:=v.w0 t.1;rw[if_pos rfl,decide_eq_false];omega
   ks:=h.sk,kv:=by rw[key];exact h.dk}
 have hA:=zbN.1 (zi9 hC).1;obtain⟨n1,n2,-,n4⟩:=zit (vr2 s.S V) [] List.nodup_nil
 have n2:∀q,q∈(vrF s.S V).2↔ ∃v∈vr2 s.S V,v.sg=q:=fun q=>by
  have:=n2 q;show q∈(numF [] (vr2 s.S V)).2↔_;simpa using this
 have n4:(vrF s.S V).1=(vr2 s.S V).map fun v=>{v with sg:=((vrF s.S V).2.idxOf v.sg:Nat)}:=n4;have n1:(vrF s.S V).2.Nodup:=n1
 have m2:∀v∈vr2 s.S V,∃x∈s.D,v={vrD x ((zmr s.D []).idxOf x.code:Nat)with sc:=pos (preS s.S) x.sc}∧(vrD x ((zmr s.D []).idxOf x.code:Nat),x)∈V.zip s.D:=fun v hv=>by
  unfold vr2 at hv;rw[zfP]at hv;obtain⟨u,hu,rfl⟩:=List.mem_map.1 hv;rw[hV]at hu;obtain⟨x,hx,e,hm⟩:=zo7 hu;rw[hV];rw[e]at hm⊢;exact⟨x,hx,rfl,hm⟩
 have hlen:(vrF s.S V).1.length=s.D.length:=by
  rw[n4,List.length_map];unfold vr2 vr1;rw[zfO,List.length_map,hl]
 have hcode:∀x∈s.D,x.code∈zmr s.D []:=fun x hx=>zmz.2 (.inr ⟨x,hx,rfl⟩)
 have hfm:(vrF s.S V).2.length≤64:=by
  refine Nat.le_trans (zh6 n1 (m:=rgI (zmr s.D []).length) fun q hq=>?_) ?_
  ·obtain⟨v,hv,rfl⟩:=(n2 q).1 hq;obtain⟨x,hx,rfl,-⟩:=m2 v hv;have:=List.idxOf_lt_length_of_mem (hcode x hx);rw[zlj];show(0:Int)≤((zmr s.D []).idxOf x.code:Nat)∧(((zmr s.D []).idxOf x.code:Nat):Int)<_;omega
  ·rw[zli,←zb6];exact h.dc
 have hold:∀v∈vr2 s.S V,(vrF s.S V).2.getD ((((vrF s.S V).2.idxOf v.sg:Nat):Int)).toNat 0=v.sg:=fun v hv=>by
  have hm:v.sg∈(vrF s.S V).2:=(n2 _).2 ⟨v,hv,rfl⟩;have:=List.idxOf_lt_length_of_mem hm;rw[Int.toNat_natCast];unfold List.getD;rw[List.getElem?_eq_getElem this];exact List.getElem_idxOf this
 have hcm:∀x∈s.D,(vrD x ((zmr s.D []).idxOf x.code:Nat),x)∈V.zip s.D→∃y,codM (V.zip s.D) ((zmr s.D []).idxOf x.code:Nat)=some y∧y.code=x.code∧y.kind=x.kind∧y.width=x.width:=fun x hx hm=>by
  obtain⟨p,hp,e1,e2⟩:=zbZ (l:=V.zip s.D) (q:=((zmr s.D []).idxOf x.code:Nat)) ⟨_,hm,rfl⟩;rw[hV]at hp;obtain⟨g1,g2,g3⟩:=zpb s.D [] p hp;rw[g1]at e1
  have e3:(zmr s.D []).idxOf p.2.code=(zmr s.D []).idxOf x.code:=by
   have:(((zmr s.D []).idxOf p.2.code:Nat):Int)=((zmr s.D []).idxOf x.code:Nat):=e1;omega
  have e4:p.2.code=x.code:=by
   have a1:=List.getElem_idxOf (List.idxOf_lt_length_of_mem g2);have a2:=List.getElem_idxOf (List.idxOf_lt_length_of_mem (hcode x hx));rw[←a1,←a2];congr 1
  exact⟨p.2,e2,e4,h.dm _ g3 x hx e4⟩
 refine⟨hC,hlen,hfm,fun v hv=>?_,fun v hv=>?_,?_⟩
 ·rw[n4]at hv;obtain⟨u,hu,rfl⟩:=List.mem_map.1 hv;have:=List.idxOf_lt_length_of_mem ((n2 _).2 ⟨u,hu,rfl⟩);dsimp only;omega
 ·rw[n4]at hv;obtain⟨u,hu,rfl⟩:=List.mem_map.1 hv;obtain⟨x,hx,e,hm⟩:=m2 u hu;obtain⟨y,hy,-⟩:=hcm x hx hm;refine⟨y,?_⟩;dsimp only;rw[hold u hu,e];exact hy
 have hel:∀z∈(vrF s.S V).1.map (zk2 (codM (V.zip s.D)) (vrF s.S V).2),∃x∈s.D,z={x with sc:=pos (preS s.S) x.sc}:=fun z hz=>by
  obtain⟨v,hv,rfl⟩:=List.mem_map.1 hz;rw[n4]at hv;obtain⟨u,hu,rfl⟩:=List.mem_map.1 hv;obtain⟨x,hx,e,hm⟩:=m2 u hu;obtain⟨y,hy,h1,h2,h3⟩:=hcm x hx hm;refine⟨x,hx,?_⟩;unfold zk2;dsimp only;rw[hold u hu];have hsg:=(h.dv x hx).sg;subst e;dsimp only[vrD];rw[hy,Option.getD_some,h1,h2,h3];obtain⟨a1,a2,a3,a4,a5,a6,a7,a8,a9,a10⟩:=x;dsimp only at hsg⊢;subst hsg;rfl
 have hF:=h.sf;have hsl:=zlK hF
 have hdk:((vrF s.S V).1.map (zk2 (codM (V.zip s.D)) (vrF s.S V).2)).map dKey=(vrF s.S V).1.map zpk:=by
  rw[List.map_map];rfl
 exact
  {sc:=h.sc,dt:=h.dt,vn:=h.vn,cm:=h.cm
   sn:=hA.n,sm:=fun x hx=>⟨hA.ns x hx,hA.ts x hx⟩,sk:=hA.ks
   sp:=by show preS (scF s.S)=List.range (scF s.S).length;rw[hsl];exact zkc hF
   sf:=zc0 hA.d,su:=hA.u
   dn:=by show((vrF s.S V).1.map _).length≤128;rw[List.length_map];exact hA.m
   dk:=by show(((vrF s.S V).1.map _).map dKey).Nodup;rw[hdk];exact hA.kv
   ds:=by
    have:=zpp (S:=s.S) (V:=V);unfold Srt at this;exact List.pairwise_map.2 this
   dc:=by
    rw[zb6];refine Nat.le_trans (zh6 (m:=zmr s.D []) (zmB _ _ List.nodup_nil) fun c hc=>?_) (by have:=h.dc;rwa [zb6]at this);rcases zmz.1 hc with hc|⟨z,hz,rfl⟩
    ·cases hc
    ·obtain⟨x,hx,rfl⟩:=hel z hz;exact hcode x hx
   dv:=fun z hz=>by
    obtain⟨x,hx,rfl⟩:=hel z hz;have v:=h.dv x hx;show VV (scF s.S).length _;rw[hsl];exact{v with sc:=⟨by show-1≤pos (preS s.S) x.sc;unfold pos;have:=v.sc.1;split<;>omega,zjW hF v.sc.2⟩}
   dm:=fun z hz y hy hzy=>by
    obtain⟨x,hx,rfl⟩:=hel z hz;obtain⟨x',hx',rfl⟩:=hel y hy;exact h.dm x hx x' hx' hzy}
end Go.Proofs.YtcdekelomkcahaaGreatDoor
