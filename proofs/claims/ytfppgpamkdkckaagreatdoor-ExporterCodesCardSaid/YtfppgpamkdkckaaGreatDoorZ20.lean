import Derived.Test.YtfppgpamkdkckaaGreatDoorZ15
import Derived.Test.YtfppgpamkdkckaaGreatDoorZ19
set_option maxRecDepth 100000
set_option maxHeartbeats 16000000
namespace Go.Proofs.YtfppgpamkdkckaaGreatDoor
def varW:List Bs:=[[101,118,101,110,116],[105,110,116,101,103,101,114],[112,97,114,97,109,101,116,101,114],[114,101,97,108],[114,101,97,108,116,105,109,101],[114,101,103],[115,116,114,105,110,103],[115,117,112,112,108,121,48],[115,117,112,112,108,121,49],[116,105,109,101],[116,114,105],[116,114,105,97,110,100],[116,114,105,111,114],[116,114,105,114,101,103],[116,114,105,48],[116,114,105,49],[119,97,110,100],[119,105,114,101],[119,111,114]]
def zn8:List Bs:=[[109,111,100,117,108,101],[116,97,115,107],[102,117,110,99,116,105,111,110],[98,101,103,105,110],[102,111,114,107]]
def znt:Bs:=[36,100,97,116,101]
def znD:Bs:=[36,118,101,114,115,105,111,110]
def zns:Bs:=[36,99,111,109,109,101,110,116]
def znB:Bs:=[36,116,105,109,101,115,99,97,108,101]
def znA:Bs:=[36,115,99,111,112,101]
def znC:Bs:=[36,117,112,115,99,111,112,101]
def sVar:Bs:=[36,118,97,114]
def zny:Bs:=[36,101,110,100,100,101,102,105,110,105,116,105,111,110,115]
def znR:List Bs:=[[49,32,102,115],[49,48,32,102,115],[49,48,48,32,102,115],[49,32,112,115],[49,48,32,112,115],[49,48,48,32,112,115],[49,32,110,115],[49,48,32,110,115],[49,48,48,32,110,115],[49,32,117,115],[49,48,32,117,115],[49,48,48,32,117,115],[49,32,109,115],[49,48,32,109,115],[49,48,48,32,109,115],[49,32,115],[49,48,32,115],[49,48,48,32,115]]
def zrk (l:List Bs) (w:Bs):Int×Bool:=if w∈l then((l.idxOf w:Int),true)else(0,false)
def zjf (l:List Bs) (t:Int):Bs:=if t<0 then []else l.getD t.toNat []
def joinL:List Bs→Bs
 | []=> []
 | [w]=>w
 |w::l=>w++32::joinL l
def zhP (l:List Bs):Bs×Int:=if l.all ztz=false then([],3)else if 200<(joinL l).length then([],9)else(joinL l,0)
def znQ (n:Int):Bs:=if n< -15∨2<n then []else znR.getD (n+15).toNat []
def tight (s:Bs):Bs:=s.filter fun c=>decide (c≠32)
def znP (x:Bs):Int×Int:=match znR.findIdx? fun s=>decide (x=s)||decide (x=tight s)with
 |some i=>((i:Int)-15,0)
 |none=>(0,3)
def zpa (s:Bs):Option Int:=if s=[]∨9<s.length∨s.all isD=false∨s.head? =some 48 then none else some (decN s:Int)
def numT (x:Bs):(Int×Bool)×Bs:=
 let neg:=decide (x.head? =some 45)
 let y:=if neg=true then x.drop 1 else x
 let d:=y.takeWhile isD
 if d.length<1∨9<d.length∨(d.head? =some 48∧(1<d.length∨neg=true))then((0,false),y.drop d.length)
 else((if neg=true then-(decN d:Int)else(decN d:Int),true),y.drop d.length)
def zmT (o mk lk:Bool) (m l:Int) (r:Bs):Int×Int×Int:=
 if o=false∨mk=false∨lk=false∨r≠ [93]then(0,0,3)else if zbj m=false∨zbj l=false then(0,0,2)else(m,l,0)
def zmU (x:Bs):Int×Int×Int:=
 let o:=decide (x.head? =some 91)
 let a:=numT (if o=true then x.drop 1 else x)
 if a.2.head? =some 58 then
  let c:=numT (a.2.drop 1)
  zmT o a.1.2 c.1.2 a.1.1 c.1.1 c.2
 else zmT o a.1.2 true a.1.1 a.1.1 a.2
def refS (ws:List Bs):Option (Bs×Option Bs):=match ws with
 | [w]=>if 91∈w∧w.head? ≠some 92 then some (w.takeWhile fun c=>decide (c≠91),some (w.dropWhile fun c=>decide (c≠91)))else some (w,none)
 | [w,r]=>some (w,some r)
 |_=>none
def refF (ws:List Bs):Bs×Bool×Int×Int×Int:=match refS ws with
 |none=>([],false,0,0,3)
 |some (n,none)=>if zjh n=true then(n,false,0,0,0)else([],false,0,0,4)
 |some (n,some r)=>if zjh n=false then([],false,0,0,4)else if(zmU r).2.2≠0 then([],false,0,0,(zmU r).2.2)else(n,true,(zmU r).1,(zmU r).2.1,0)
structure DS where
 sc:Int
 scd:Bool
 dt:Bs
 dtd:Bool
 vn:Bs
 vnd:Bool
 cm:Bs
 cmd:Bool
 S:List Sc
 D:List Dcl
 now:Int
 skip:Int
 wrong:List Pb
 ended:Bool
def ds0:DS:=⟨-9,false,[],false,[],false,[],false,[],[],-1,0,[],false⟩
def DS.prob (s:DS) (e:Int) (w:Wd):DS:={s with wrong:=s.wrong++ [(e,w.2.1,w.2.2.1,w.2.2.2)]}
def wd0:Wd:=([],0,0,0)
def cAt (c:List Wd) (i:Nat):Wd:=c.getD i wd0
def txt (c:List Wd):List Bs:=c.map (·.1)
def zd4 (S:List Sc) (i:Int):Nat:=(upL S (S.length+1) i).length
def zfp (S:List Sc) (p:Int) (n:Bs):Option Nat:=S.findIdx? fun x=>decide (x.2.2=p)&&decide (x.1=n)
def zkX (s:DS) (w:Wd) (c:List Wd):Option (Int×Wd):=
 if c.length≠2 then some (3,w)
 else if(zrk zn8 (cAt c 0).1).2=false then some (7,cAt c 0)
 else if zjh (cAt c 1).1=false then some (4,cAt c 1)
 else match zfp s.S s.now (cAt c 1).1 with
  |some k=>if s.S.getD k ([],0,0)≠((cAt c 1).1,(zrk zn8 (cAt c 0).1).1,s.now)then some (5,cAt c 1)else none
  |none=>if 32≤s.S.length∨8≤zd4 s.S s.now then some (9,w)else none
def zkY (s:DS) (c:List Wd):DS:=match zfp s.S s.now (cAt c 1).1 with
 |some k=>{s with now:=k}
 |none=>{s with S:=s.S++ [((cAt c 1).1,(zrk zn8 (cAt c 0).1).1,s.now)],now:=s.S.length}
def zn6 (s:DS) (w:Wd) (c:List Wd):DS:=
 if 0<s.skip then{s with skip:=s.skip+1}
 else match zkX s w c with
  |some e=>{s.prob e.1 e.2 with skip:=1}
  |none=>zkY s c
def upP (s:DS) (w:Wd) (c:List Wd):DS:=
 if 0<s.skip then{s with skip:=s.skip-1}
 else if s.now<0 then s.prob 10 w
 else
  let t:={s with now:=parS s.S s.now.toNat}
  if 0<c.length then t.prob 3 w else t
def zc1:List Dcl→List Bs→Nat
 | [],seen=>seen.length
 |x::l,seen=>zc1 l (if x.code∈seen then seen else seen++ [x.code])
def knD (D:List Dcl) (c:Bs):Option Dcl:=D.find? fun x=>decide (x.code=c)
def dupV (x y:Dcl):Bool:=decide (y.nm=x.nm)&&decide (y.sc=x.sc)&&decide (y.sg=x.sg)&&decide (y.rg=x.rg)&&decide (y.mb=x.mb)&&decide (y.lb=x.lb)
def dclF (s:DS) (c:List Wd):Dcl:=
 let t:=(zrk varW (cAt c 0).1).1
 let r:=refF ((txt c).drop 3)
 ⟨r.1,t,s.now,0,r.2.1,r.2.2.1,r.2.2.2.1,(cAt c 2).1,zhW t,if zhW t=0 then(zpa (cAt c 1).1).getD 0 else 0⟩
def zd3 (s:DS) (w:Wd) (c:List Wd):Option (Int×Wd):=
 if c.length<4∨5<c.length then some (3,w)
 else if(zrk varW (cAt c 0).1).2=false then some (7,cAt c 0)
 else match zpa (cAt c 1).1 with
  |none=>some (3,cAt c 1)
  |some n=>
   let x:=dclF s c
   let r:=refF ((txt c).drop 3)
   if x.kind=0∧128<n then some (8,cAt c 1)
   else if codeOk x.code=false then some (3,cAt c 2)
   else if r.2.2.2.2≠0 then some (r.2.2.2.2,cAt c 3)
   else if x.rg=true∧x.kind≠0 then some (7,cAt c (c.length-1))
   else if x.rg=true∧ztw x.mb x.lb≠n then some (8,cAt c (c.length-1))
   else match knD s.D x.code with
    |some o=>if o.kind≠x.kind then some (7,cAt c 2)else if o.width≠x.width then some (8,cAt c 2)
     else if s.D.any (dupV x)=true then some (5,cAt c 3)else if 128≤s.D.length then some (9,w)else none
    |none=>if s.D.any (dupV x)=true then some (5,cAt c 3)else if 128≤s.D.length∨64≤zc1 s.D []then some (9,w)else none
def varP (s:DS) (w:Wd) (c:List Wd):DS:=
 if 0<s.skip then s else match zd3 s w c with
  |some e=>s.prob e.1 e.2
  |none=>{s with D:=s.D++ [dclF s c]}
def endD (s:DS) (w:Wd) (c:List Wd):DS:=
 let t:={s with ended:=true}
 if 0<c.length then t.prob 3 w else t
def znO (s:DS) (w:Wd) (c:List Wd):DS:=
 if(znP (joinL (txt c))).2≠0 then s.prob 3 w else if s.scd=true then s else{s with sc:=(znP (joinL (txt c))).1,scd:=true}
def zdA (s:DS) (w:Wd) (c:List Wd):DS:=if(zhP (txt c)).2≠0 then s.prob (zhP (txt c)).2 w else if s.dtd=true then s else{s with dt:=(zhP (txt c)).1,dtd:=true}
def zsW (s:DS) (w:Wd) (c:List Wd):DS:=if(zhP (txt c)).2≠0 then s.prob (zhP (txt c)).2 w else if s.vnd=true then s else{s with vn:=(zhP (txt c)).1,vnd:=true}
def zc4 (s:DS) (w:Wd) (c:List Wd):DS:=if(zhP (txt c)).2≠0 then s.prob (zhP (txt c)).2 w else if s.cmd=true then s else{s with cm:=(zhP (txt c)).1,cmd:=true}
def secP (s:DS) (w:Wd) (c:List Wd):DS:=
 if w.1=znt then zdA s w c
 else if w.1=znD then zsW s w c
 else if w.1=zns then zc4 s w c
 else if w.1=znB then znO s w c
 else if w.1=znA then zn6 s w c
 else if w.1=znC then upP s w c
 else if w.1=sVar then varP s w c
 else if w.1=zny then endD s w c
 else s.prob 3 w
def zdm (t:List Wd):List Wd:=t.takeWhile fun w=>decide (w.1≠sEnd)
def hasEnd (t:List Wd):Bool:=t.any fun w=>decide (w.1=sEnd)
def zpO (w:Wd):Bool:=decide (w.1.head? =some 35)||decide (w.1=znx)||decide (w.1=znu)||decide (w.1=znw)||decide (w.1=znv)
def ziJ (w:Wd):Bool:=decide (w.1.head? ≠some 36)||decide (w.1=sEnd)
def zdz (s:DS) (w:Wd) (t:List Wd):DS×Option Nat:=
 if zpO w=true then(s.prob 3 w,none)
 else if ziJ w=true then(s.prob 3 w,some 0)
 else if hasEnd t=true then(secP s w (zdm t),some ((zdm t).length+1))
 else(s.prob 3 w,some t.length)
def dRun (s:DS):List Wd→DS×Nat
 | []=>(s,0)
 |w::t=>
  if s.ended=true then(s,0)
  else match (zdz s w t).2 with
   |none=>((zdz s w t).1,0)
   |some k=>((dRun (zdz s w t).1 (t.drop k)).1,(dRun (zdz s w t).1 (t.drop k)).2+(k+1))
termination_by l=>l.length
decreasing_by all_goals (rw[List.length_drop,List.length_cons];omega)
def DS.pre (x:List Pb) (s:DS):DS:={s with wrong:=x++s.wrong}
structure DD where
 sc:Int
 dt:Bs
 vn:Bs
 cm:Bs
 S:List Sc
 D:List Dcl
def szD (x:Dcl):Int:=if x.kind=0 then x.width else if x.kind=1 then 64 else 1
def rngT (m l:Int):Bs:=if m=l then 91::(Lib.itoa m++ [93])else 91::(Lib.itoa m++58::(Lib.itoa l++ [93]))
def refW (x:Dcl):List Bs:=if x.rg=true then [x.nm,rngT x.mb x.lb]else [x.nm]
def refT (x:Dcl):Bs:=joinL (refW x)
def secT (ws:List Bs):Bs:=joinL (ws++ [sEnd])
def varT (x:Dcl):Bs:=secT [sVar,zjf varW x.ty,Lib.itoa (szD x),x.code,refT x]
def zn7 (s:Sc):Bs:=secT [znA,zjf zn8 s.2.1,s.1]
def inT (S:List Sc) (D:List Dcl):Nat→Int→List Bs
 |0,_=> []
 |f+1,p=>(D.filter fun x=>decide (x.sc=p)).map varT++(List.range S.length).flatMap fun i=>if parS S i=p then zn7 (S.getD i ([],0,0))::(inT S D f i++ [secT [znC]])else []
def optT (k t:Bs):List Bs:=if t=[]then []else [secT [k,t]]
def zit (d:DD):List Bs:=optT znt d.dt++(optT znD d.vn++(optT zns d.cm++(optT znB (znQ d.sc)++(inT d.S d.D (d.S.length+1) (-1)++ [secT [zny]]))))
def fmtD (d:DD):Bs:=ziu (zit d)
theorem zhN (w x:Bs) (l:List Bs):joinL (w::x::l)=w++32::joinL (x::l):=rfl
theorem zhQ:∀(l:List Bs),joinL l=Lib.join l [32]
 | []=>rfl
 | [w]=>by rw[Lib.join_cons];simp[joinL,Lib.joinTail]
 |w::x::l=>by
  rw[zhN,zhQ (x::l),Lib.join_cons,Lib.join_cons];simp[Lib.joinTail]
def Rd (s:DS) (L:List Bs) (s':DS):Prop:=∀(ws rest:List Wd),ws.map (·.1)=L→dRun s (ws++rest)=((dRun s' rest).1,(dRun s' rest).2+ws.length)
theorem Rd.refl (s:DS):Rd s [] s:=fun ws rest h=>by
 obtain rfl:ws=[]:=List.map_eq_nil_iff.1 h;simp
theorem Rd.trans {s s' s'':DS} {L M:List Bs} (h:Rd s L s') (k:Rd s' M s''):Rd s (L++M) s'':=fun ws rest he=>by
 obtain⟨u,v,rfl,h1,h2⟩:=ziN he;rw[List.append_assoc,h u _ h1,k v _ h2,List.length_append];refine Prod.ext rfl ?_;show _+_+_=_+_;omega
theorem zbl {m:Int} (h:zbj m=true): -32768≤m∧m≤32768:=by
 unfold zbj at h;rw[Bool.and_eq_true,decide_eq_true_iff,decide_eq_true_iff]at h;exact h
def dKey (x:Dcl):Int×Bs×Bool×Int×Int:=(x.sc,x.nm,x.rg,x.mb,x.lb)
structure VV (n:Nat) (x:Dcl):Prop where
 sc: -1≤x.sc∧x.sc<(n:Int)
 nm:zjh x.nm=true
 ty:0≤x.ty∧x.ty≤18
 sg:x.sg=0
 r0:x.rg=false→x.mb=0∧x.lb=0
 r1:x.rg=true→x.kind=0∧zbj x.mb=true∧zbj x.lb=true∧ztw x.mb x.lb=x.width
 cd:codeOk x.code=true
 kd:x.kind=zhW x.ty
 w0:x.kind=0→1≤x.width∧x.width≤128
 w1:x.kind≠0→x.width=0
structure VD (d:DD):Prop where
 sc: -15≤d.sc∧d.sc≤2
 dt:ztA d.dt=true
 vn:ztA d.vn=true
 cm:ztA d.cm=true
 sn:d.S.length≤32
 sm:∀s∈d.S,zjh s.1=true∧0≤s.2.1∧s.2.1≤4
 sk:(d.S.map znK).Nodup
 sp:preS d.S=List.range d.S.length
 sf:Fst (parS d.S) d.S.length
 su:∀i,i<d.S.length→(upL d.S (i+1) (i:Int)).length≤8
 dn:d.D.length≤128
 dk:(d.D.map dKey).Nodup
 ds:d.D.Pairwise fun x y=>x.sc≤y.sc
 dc:zc1 d.D []≤64
 dv:∀x∈d.D,VV d.S.length x
 dm:∀x∈d.D,∀y∈d.D,x.code=y.code→x.kind=y.kind∧x.width=y.width
def zok:List Dcl→List Bs→List Bs
 | [],s=>s
 |x::l,s=>zok l (if x.code∈s then s else s++ [x.code])
theorem zc2:∀(l:List Dcl) (s:List Bs),zc1 l s=(zok l s).length
 | [],_=>rfl
 |_::l,_=>zc2 l _
theorem seen_app:∀(l m:List Dcl) (s:List Bs),zok (l++m) s=zok m (zok l s)
 | [],_,_=>rfl
 |_::l,m,_=>seen_app l m _
theorem zos:∀{l:List Dcl} {s:List Bs} {c:Bs},c∈zok l s↔c∈s∨∃x∈l,x.code=c
 | [],s,c=>by simp[zok]
 |x::l,s,c=>by
  show c∈zok l (if x.code∈s then s else s++ [x.code])↔_;rw[zos];split
  ·rename_i h
   constructor
   ·rintro(h1|⟨y,h1,h2⟩)
    ·exact .inl h1
    ·exact .inr ⟨y,List.mem_cons_of_mem _ h1,h2⟩
   ·rintro(h1|⟨y,h1,h2⟩)
    ·exact .inl h1
    ·rcases List.mem_cons.1 h1 with rfl|h1
     ·exact .inl (h2▸h)
     ·exact .inr ⟨y,h1,h2⟩
  ·rw[List.mem_append,List.mem_singleton];constructor
   ·rintro((h1|rfl)|⟨y,h1,h2⟩)
    ·exact .inl h1
    ·exact .inr ⟨x,List.mem_cons_self,rfl⟩
    ·exact .inr ⟨y,List.mem_cons_of_mem _ h1,h2⟩
   ·rintro(h1|⟨y,h1,h2⟩)
    ·exact .inl (.inl h1)
    ·rcases List.mem_cons.1 h1 with rfl|h1
     ·exact .inl (.inr h2.symm)
     ·exact .inr ⟨y,h1,h2⟩
theorem zlV {S:List Sc} {a:Nat} (h:a<S.length):parS S a=S[a].2.2:=by
 unfold parS List.getD;rw[List.getElem?_eq_getElem h];rfl
def zoi (s:List Bs) (c:Bs):List Bs:=if c∈s then s else s++ [c]
theorem zoj (s:List Bs) (c:Bs):c∈zoi s c:=by
 unfold zoi;split
 ·assumption
 ·simp
def vrD (x:Dcl) (k:Int):Vr:=⟨x.nm,x.ty,x.sc,k,x.rg,x.mb,x.lb⟩
def zsK:List Dcl→List Bs→List Vr
 | [],_=> []
 |x::l,s=>vrD x ((zoi s x.code).idxOf x.code:Nat)::zsK l (zoi s x.code)
theorem zsM:∀(l:List Dcl) (s:List Bs),(zsK l s).length=l.length
 | [],_=>rfl
 |x::l,s=>by rw[zsK,List.length_cons,List.length_cons,zsM l]
theorem zsN {β:Type} (g:Vr→β) (g':Dcl→β) (hg:∀x k,g (vrD x k)=g' x):∀(l:List Dcl) (s:List Bs),(zsK l s).map g=l.map g'
 | [],_=>rfl
 |x::l,s=>by rw[zsK,List.map_cons,List.map_cons,hg,zsN g g' hg l]
theorem zsP:∀(l:List Dcl) (s:List Bs),∀v∈zsK l s,0≤v.sg
 | [],_,v,h=>by cases h
 |x::l,s,v,h=>by
  rcases List.mem_cons.1 h with rfl|h
  ·exact Int.natCast_nonneg _
  ·exact zsP l _ v h
theorem zsO:∀(l:List Dcl) (s:List Bs),seqN s.length (zsK l s)=some (zok l s).length
 | [],_=>rfl
 |x::l,s=>by
  have ih:=zsO l (zoi s x.code);show(if(s.length:Int)<((zoi s x.code).idxOf x.code:Nat)then none else if(((zoi s x.code).idxOf x.code:Nat):Int)=(s.length:Int)then seqN (s.length+1) (zsK l (zoi s x.code))else seqN s.length (zsK l (zoi s x.code)))=some (zok l (zoi s x.code)).length;by_cases h:x.code∈s
  ·have e:zoi s x.code=s:=if_pos h;rw[e]at ih⊢;have:=List.idxOf_lt_length_of_mem h;rw[if_neg (by omega),if_neg (by omega)];exact ih
  ·have e:zoi s x.code=s++ [x.code]:=if_neg h;rw[e]at ih⊢
   have:(s++ [x.code]).idxOf x.code=s.length:=by
    rw[List.idxOf_append,if_neg h];simp
   rw[this,if_neg (by omega),if_pos rfl];rw[List.length_append]at ih;exact ih
def oldD (D:List Dcl) (x:Dcl):Dcl:=(D.find? fun y=>decide (y.code=x.code)).getD x
def okV (o x:Dcl):Bool:=decide (x.sg=0)&&codeOk x.code&&decide (x.kind=zhW x.ty)&&vt x.kind x.width&&(!x.rg||(decide (x.kind=0)&&decide (ztw x.mb x.lb=x.width)))&&decide (o.kind=x.kind)&&decide (o.width=x.width)
def hOk (S:List Sc) (V:List Vr):Bool:=decide (zb6 S V=0)&&decide (scF S=S)&&decide ((vrF S V).1=V)
def validD (d:DD):Bool:=decide (-15≤d.sc)&&decide (d.sc≤2)&&ztA d.dt&&ztA d.vn&&ztA d.cm&&d.D.all (fun x=>okV (oldD d.D x) x)&&decide ((zok d.D []).length≤64)&&hOk d.S (zsK d.D [])
theorem zkQ {D:List Dcl} {x:Dcl} (hx:x∈D):oldD D x∈D∧(oldD D x).code=x.code:=by
 unfold oldD;cases h:D.find? fun y=>decide (y.code=x.code)with
 |none=>exact⟨hx,rfl⟩
 |some y=>exact⟨List.mem_of_find?_eq_some h,of_decide_eq_true (List.find?_some (p:=fun y:Dcl=>decide (y.code=x.code)) h)⟩
theorem zkP {D:List Dcl} {x y:Dcl} (hx:x∈D) (h:x.code=y.code):oldD D x=oldD D y:=by
 unfold oldD;rw[h];cases hf:D.find? fun z=>decide (z.code=y.code)with
 |some z=>rfl
 |none=>exact absurd (List.find?_eq_none.1 hf x hx) (by simp[h])
theorem zgj {S:List Sc} {V:List Vr}:hOk S V=true↔ ∃m,HierR S V m:=by
 unfold hOk;rw[Bool.and_eq_true,Bool.and_eq_true,decide_eq_true_iff,decide_eq_true_iff,decide_eq_true_iff];constructor
 ·rintro⟨⟨h1,h2⟩,h3⟩;have h4:=(zlm h1).2.2;rw[h2,h3]at h4;refine⟨(vrF S V).2.length,zgM.2 ?_⟩;unfold zll;rw[if_neg (by rw[h1];simp),h2,h4,znm]
 ·rintro⟨m,h⟩;have h0:=h.c;have h1:=zgM.1 h;unfold zll at h1;rw[if_neg (by rw[h0];simp)]at h1;injection h1 with h1 h2;injection h2 with h2 _;exact⟨⟨h0,h1⟩,h2⟩
theorem zti {k n:Int}:vt k n=true↔(k=0∧1≤n∧n≤128)∨((k=1∨k=2∨k=3)∧n=0):=by
 unfold vt;simp only[Bool.or_eq_true,Bool.and_eq_true,decide_eq_true_iff];omega
theorem zhX (t:Int):zhW t=0∨zhW t=1∨zhW t=2∨zhW t=3:=by
 unfold zhW;split
 ·simp
 ·split
  ·simp
  ·split<;>simp
theorem zkO {o x:Dcl}:okV o x=true↔x.sg=0∧codeOk x.code=true∧x.kind=zhW x.ty∧vt x.kind x.width=true∧(x.rg=true→x.kind=0∧ztw x.mb x.lb=x.width)∧o.kind=x.kind∧o.width=x.width:=by
 unfold okV;simp only[Bool.or_eq_true,Bool.and_eq_true,decide_eq_true_iff,Bool.not_eq_true'];constructor
 ·rintro⟨⟨⟨⟨⟨⟨h1,h2⟩,h3⟩,h4⟩,h5⟩,h6⟩,h7⟩;refine⟨h1,h2,h3,h4,fun h=>?_,h6,h7⟩;rcases h5 with h5|h5
  ·rw[h5]at h;cases h
  ·exact h5
 ·rintro⟨h1,h2,h3,h4,h5,h6,h7⟩;refine⟨⟨⟨⟨⟨⟨h1,h2⟩,h3⟩,h4⟩,?_⟩,h6⟩,h7⟩;cases h:x.rg with
  |false=>exact .inl rfl
  |true=>exact .inr (h5 h)
theorem ztx {m l:Int} (h:ztw m l≠0):zbj m=true∧zbj l=true:=by
 unfold ztw at h;by_cases hb:(zbj m&&zbj l)=true
 ·rwa [Bool.and_eq_true]at hb
 ·rw[if_neg hb]at h;exact absurd rfl h
theorem zsA {d:DD}:validD d=true↔VD d:=by
 unfold validD;simp only[Bool.and_eq_true,decide_eq_true_iff,List.all_eq_true,zkO,zgj];have key:(zsK d.D []).map zs1=d.D.map dKey:=zsN _ _ (fun _ _=>rfl) _ _;constructor
 ·rintro⟨⟨⟨⟨⟨⟨⟨h1,h2⟩,h3⟩,h4⟩,h5⟩,h6⟩,h7⟩,m,h8⟩;have hc:=zce.1 h8.c;have hF:=zd0 hc.d;have hV:=zd2 hc.d
  have hp:preS d.S=List.range d.S.length:=by
   have h9:=zgM.1 h8;unfold zll at h9;rw[if_neg (by rw[h8.c];simp)]at h9;injection h9 with h9 _;have:=zmd hF;rwa [h9]at this
  have fromV:∀{p:Dcl→Prop} (q:Vr→Prop),(∀v∈zsK d.D [],q v)→(∀x k,q (vrD x k)→p x)→∀x∈d.D,p x:=fun{p} q hq hpq x hx=>by
   have e:(zsK d.D []).map (fun v=>(v.nm,v.ty,v.sc,v.rg,v.mb,v.lb))=d.D.map (fun x=>(x.nm,x.ty,x.sc,x.rg,x.mb,x.lb)):=zsN _ _ (fun _ _=>rfl) _ _
   have hx':(x.nm,x.ty,x.sc,x.rg,x.mb,x.lb)∈(zsK d.D []).map (fun v=>(v.nm,v.ty,v.sc,v.rg,v.mb,v.lb)):=by
    rw[e];exact List.mem_map.2 ⟨x,hx,rfl⟩
   obtain⟨v,hv,he⟩:=List.mem_map.1 hx';simp only[Prod.mk.injEq]at he;obtain⟨e1,e2,e3,e4,e5,e6⟩:=he;have:=hq v hv;refine hpq x v.sg ?_
   have ev:v=vrD x v.sg:=by
    obtain⟨a1,a2,a3,a4,a5,a6,a7⟩:=v;dsimp only at e1 e2 e3 e4 e5 e6;subst e1 e2 e3 e4 e5 e6;rfl
   rwa [←ev]
  have g1:∀x∈d.D,-1≤x.sc∧x.sc<(d.S.length:Int):=fromV (fun v=> -1≤v.sc∧v.sc<(d.S.length:Int)∧0≤v.sg) hV fun x k h=>⟨h.1,h.2.1⟩;have g2:∀x∈d.D,zjh x.nm=true:=fromV (fun v=>zjh v.nm=true) hc.nv fun x k h=>h;have g3:∀x∈d.D,0≤x.ty∧x.ty≤18:=fromV (fun v=>0≤v.ty∧v.ty≤18) hc.tv fun x k h=>h;have g4:∀x∈d.D,zmS (vrD x 0)=false:=fromV (fun v=>zmS v=false) hc.r fun x k h=>h;refine{sc:=⟨h1,h2⟩,dt:=h3,vn:=h4,cm:=h5,sn:=hc.n,sm:=fun s hs=>⟨hc.ns s hs,hc.ts s hs⟩,sk:=hc.ks,sp:=hp,sf:=hF,su:=hc.u,dn:=?_,dk:=?_,ds:=?_,dc:=?_,dv:=fun x hx=>?_,dm:=fun x hx y hy hxy=>?_}
  ·have:=hc.m;rwa [zsM]at this
  ·have:=hc.kv;rwa [key]at this
  ·have h9:=h8.s;unfold Srt at h9;have:=(List.pairwise_map (f:=fun v:Vr=>v.sc) (R:=fun a b:Int=>a≤b)).2 h9;rw[zsN (fun v:Vr=>v.sc) (fun x:Dcl=>x.sc) (fun _ _=>rfl)]at this;exact List.pairwise_map.1 this
  ·rw[zc2];exact h7
  ·obtain⟨t1,t2,t3,t4,t5,t6,t7⟩:=h6 x hx;have t8:=g4 x hx;unfold zmS vrD at t8;dsimp only at t8;refine{sc:=g1 x hx,nm:=g2 x hx,ty:=g3 x hx,sg:=t1,r0:=fun hr=>?_,r1:=fun hr=>?_,cd:=t2,kd:=t3,w0:=fun hk=>?_,w1:=fun hk=>?_}
   ·rw[hr,if_neg (by simp)]at t8;simpa using t8
   ·rw[if_pos hr]at t8;obtain⟨b1,b2⟩:=ztx (of_decide_eq_false t8);exact⟨(t5 hr).1,b1,b2,(t5 hr).2⟩
   ·have:=zti.1 t4;omega
   ·have:=zti.1 t4;omega
  ·have a:=(h6 x hx).2.2.2.2.2;have b:=(h6 y hy).2.2.2.2.2;rw[zkP hx hxy]at a;exact⟨a.1.symm.trans b.1,a.2.symm.trans b.2⟩
 ·intro h
  have toV:∀{q:Vr→Prop} (p:Dcl→Prop),(∀x∈d.D,p x)→(∀x k,p x→q (vrD x k))→∀v∈zsK d.D [],q v:=fun{q} p hp hpq=>by
   have:∀(l:List Dcl) (s:List Bs),(∀x∈l,p x)→∀v∈zsK l s,q v:=fun l=>by
    induction l with
    |nil=>intro s _ v hv;cases hv
    |cons x l ih=>
     intro s hl v hv;rcases List.mem_cons.1 hv with rfl|hv
     ·exact hpq _ _ (hl x List.mem_cons_self)
     ·exact ih _ (fun y hy=>hl y (List.mem_cons_of_mem _ hy)) v hv
   exact this d.D [] hp
  refine⟨⟨⟨⟨⟨⟨⟨h.sc.1,h.sc.2⟩,h.dt⟩,h.vn⟩,h.cm⟩,fun x hx=>?_⟩,?_⟩,(zok d.D []).length,?_⟩
  ·have v:=h.dv x hx;obtain⟨o1,o2⟩:=zkQ hx;have o3:=h.dm _ o1 x hx o2;refine⟨v.sg,v.cd,v.kd,zti.2 ?_,fun hr=>⟨(v.r1 hr).1,(v.r1 hr).2.2.2⟩,o3.1,o3.2⟩;by_cases hk:x.kind=0
   ·have:=v.w0 hk;omega
   ·have:=v.w1 hk;have:=zhX x.ty;rw[←v.kd]at this;omega
  ·have:=h.dc;rwa [zc2]at this
  ·have hV:∀v∈zsK d.D [],-1≤v.sc∧v.sc<(d.S.length:Int):=toV (fun x=>VV d.S.length x) h.dv fun x k v=>v.sc
   have hC:zb6 d.S (zsK d.D [])=0:=zce.2
    {n:=h.sn,m:=by rw[zsM];exact h.dn,d:=zd1 h.sf fun v hv=>⟨(hV v hv).1,(hV v hv).2,zsP _ _ v hv⟩,u:=h.su
     ns:=fun s hs=>(h.sm s hs).1,nv:=toV (fun x=>VV d.S.length x) h.dv fun x k v=>v.nm
     ts:=fun s hs=>(h.sm s hs).2,tv:=toV (fun x=>VV d.S.length x) h.dv fun x k v=>v.ty
     r:=toV (fun x=>VV d.S.length x) h.dv fun x k v=>by
      unfold zmS vrD;dsimp only;cases hr:x.rg with
      |false=>
       rw[if_neg (by simp),(v.r0 hr).1,(v.r0 hr).2];rfl
      |true=>
       have t:=v.r1 hr;have t2:=v.w0 t.1;rw[if_pos rfl,decide_eq_false];omega
     ks:=h.sk,kv:=by rw[key];exact h.dk}
   refine zgM.2 ?_;have e1:=znH h.sf h.sp;have e2:=zsZ (fun v hv=>(hV v hv).2) h.sp;have e3:=zow (zsK d.D []) 0 (zok d.D []).length (zsP _ _) (zsO d.D [])
   have e4:Srt (fun v:Vr=>v.sc) (zsK d.D []):=by
    unfold Srt;have:=(List.pairwise_map (f:=fun x:Dcl=>x.sc) (R:=fun a b:Int=>a≤b)).2 h.ds;rw[←zsN (fun v:Vr=>v.sc) (fun x:Dcl=>x.sc) (fun _ _=>rfl) d.D []]at this;exact List.pairwise_map.1 this
   unfold zll vrF vr2;rw[if_neg (by rw[hC];simp),e1,e2,zhm e4];rw[show rgI 0=[]from rfl]at e3;rw[e3]
open Go.RowKit
set_option linter.unusedSimpArgs false
def cF (D:List Dcl) (x:BsM):Option Value:=(knD D x).map fun d=>dclV d
theorem zbQ {D:List Dcl} {x:Dcl} (h:knD D x.code=none) (y:BsM):(if y=x.code then some (dclV x)else cF D y)=cF (D++ [x]) y:=by
 unfold cF knD at*;rw[List.find?_append];by_cases hy:y=x.code
 ·subst hy;rw[if_pos rfl,h];simp
 ·rw[if_neg hy];cases hd:D.find? fun z=>decide (z.code=y)with
  |some z=>rfl
  |none=>
   simp only[Option.map_none,Option.none_or];rw[List.find?_cons,decide_eq_false (fun e=>hy e.symm)];rfl
theorem zh7 {D:List Dcl} {c:Bs} (h:knD D c=none):c∉zok D []:=fun hm=>by
 rcases zos.1 hm with hm|⟨x,hx,e⟩
 ·cases hm
 ·unfold knD at h;exact List.find?_eq_none.1 h x hx (decide_eq_true e)
structure DC where
 wk:World
 w0:World
 B:Nat
 tb:Nat
 cb:Nat
 kb:Nat
 m:Nat
 G:BsM→Option Value
theorem zaq.lt {P:Program} {K:TypeId} {w:World} {b n:Nat} {f:BsM→Option Value} (h:zaq P K w b n f):b<w.heap.size:=h.s.lt
theorem zlz {P:Program} {K:TypeId} {W W1:World} {b n:Nat} {f:BsM→Option Value} (hm:zaq P K W b n f) (hg:W.grownBy W1 (some b)) {base e size m:Nat} {v:Value} {xs:List Value} (ho:W.ownsRow base e size v m xs):W1.ownsRow base e size v m xs:=
 ho.kept hg (.inr (Ne.symm (hm.ne_row ho)))
def DC.from (c:DC) (V:World):DC:={c with wk:=V}
end Go.Proofs.YtfppgpamkdkckaaGreatDoor
