import Derived.Test.YtcdekelomkcahaaGreatDoorZ00
import Derived.Lib.Builder
import Derived.Test.YtcdekelomkcahaaGreatDoorZ04
import Derived.Test.YtcdekelomkcahaaGreatDoorZ18
set_option maxRecDepth 100000
set_option maxHeartbeats 16000000
namespace Go.Proofs.YtcdekelomkcahaaGreatDoor
def varW:List Bs:=[[101,118,101,110,116],[105,110,116,101,103,101,114],[112,97,114,97,109,101,116,101,114],[114,101,97,108],[114,101,97,108,116,105,109,101],[114,101,103],[115,116,114,105,110,103],[115,117,112,112,108,121,48],[115,117,112,112,108,121,49],[116,105,109,101],[116,114,105],[116,114,105,97,110,100],[116,114,105,111,114],[116,114,105,114,101,103],[116,114,105,48],[116,114,105,49],[119,97,110,100],[119,105,114,101],[119,111,114]]
def zl4:List Bs:=[[109,111,100,117,108,101],[116,97,115,107],[102,117,110,99,116,105,111,110],[98,101,103,105,110],[102,111,114,107]]
def zlw:Bs:=[36,100,97,116,101]
def zlF:Bs:=[36,118,101,114,115,105,111,110]
def zlv:Bs:=[36,99,111,109,109,101,110,116]
def zlD:Bs:=[36,116,105,109,101,115,99,97,108,101]
def zlC:Bs:=[36,115,99,111,112,101]
def zlE:Bs:=[36,117,112,115,99,111,112,101]
def sVar:Bs:=[36,118,97,114]
def zlB:Bs:=[36,101,110,100,100,101,102,105,110,105,116,105,111,110,115]
def zlV:List Bs:=[[49,32,102,115],[49,48,32,102,115],[49,48,48,32,102,115],[49,32,112,115],[49,48,32,112,115],[49,48,48,32,112,115],[49,32,110,115],[49,48,32,110,115],[49,48,48,32,110,115],[49,32,117,115],[49,48,32,117,115],[49,48,48,32,117,115],[49,32,109,115],[49,48,32,109,115],[49,48,48,32,109,115],[49,32,115],[49,48,32,115],[49,48,48,32,115]]
def zn4 (l:List Bs) (w:Bs):Int×Bool:=if w∈l then((l.idxOf w:Int),true)else(0,false)
def zhx (l:List Bs) (t:Int):Bs:=if t<0 then []else l.getD t.toNat []
def zgc:List Bs→Bs
 | []=> []
 | [w]=>w
 |w::l=>w++32::zgc l
def zgg (l:List Bs):Bs×Int:=if l.all zpZ=false then([],3)else if 200<(zgc l).length then([],9)else(zgc l,0)
def zlU (n:Int):Bs:=if n< -15∨2<n then []else zlV.getD (n+15).toNat []
def znH (s:Bs):Bs:=s.filter fun c=>decide (c≠32)
def zlR (x:Bs):Int×Int:=match zlV.findIdx? fun s=>decide (x=s)||decide (x=znH s)with
 |some i=>((i:Int)-15,0)
 |none=>(0,3)
def zmK (s:Bs):Option Int:=if s=[]∨9<s.length∨s.all isD=false∨s.head? =some 48 then none else some (decN s:Int)
def numT (x:Bs):(Int×Bool)×Bs:=
 let neg:=decide (x.head? =some 45)
 let y:=if neg=true then x.drop 1 else x
 let d:=y.takeWhile isD
 if d.length<1∨9<d.length∨(d.head? =some 48∧(1<d.length∨neg=true))then((0,false),y.drop d.length)
 else((if neg=true then-(decN d:Int)else(decN d:Int),true),y.drop d.length)
def zkK (o mk lk:Bool) (m l:Int) (r:Bs):Int×Int×Int:=
 if o=false∨mk=false∨lk=false∨r≠ [93]then(0,0,3)else if zba m=false∨zba l=false then(0,0,2)else(m,l,0)
def zkN (x:Bs):Int×Int×Int:=
 let o:=decide (x.head? =some 91)
 let a:=numT (if o=true then x.drop 1 else x)
 if a.2.head? =some 58 then
  let c:=numT (a.2.drop 1)
  zkK o a.1.2 c.1.2 a.1.1 c.1.1 c.2
 else zkK o a.1.2 true a.1.1 a.1.1 a.2
def refS (ws:List Bs):Option (Bs×Option Bs):=match ws with
 | [w]=>if 91∈w∧w.head? ≠some 92 then some (w.takeWhile fun c=>decide (c≠91),some (w.dropWhile fun c=>decide (c≠91)))else some (w,none)
 | [w,r]=>some (w,some r)
 |_=>none
def refF (ws:List Bs):Bs×Bool×Int×Int×Int:=match refS ws with
 |none=>([],false,0,0,3)
 |some (n,none)=>if zhz n=true then(n,false,0,0,0)else([],false,0,0,4)
 |some (n,some r)=>if zhz n=false then([],false,0,0,4)else if(zkN r).2.2≠0 then([],false,0,0,(zkN r).2.2)else(n,true,(zkN r).1,(zkN r).2.1,0)
structure DS where
 sc:Int
 scd:Bool
 dt:Bs
 dtd:Bool
 vn:Bs
 vnd:Bool
 cm:Bs
 cmd:Bool
 S:List Sc
 D:List Dcl
 now:Int
 skip:Int
 wrong:List Pb
 ended:Bool
def ds0:DS:=⟨-9,false,[],false,[],false,[],false,[],[],-1,0,[],false⟩
def DS.prob (s:DS) (e:Int) (w:Wd):DS:={s with wrong:=s.wrong++ [(e,w.2.1,w.2.2.1,w.2.2.2)]}
def wd0:Wd:=([],0,0,0)
def cAt (c:List Wd) (i:Nat):Wd:=c.getD i wd0
def txt (c:List Wd):List Bs:=c.map (·.1)
def zdb (S:List Sc) (i:Int):Nat:=(upL S (S.length+1) i).length
def zd6 (S:List Sc) (p:Int) (n:Bs):Option Nat:=S.findIdx? fun x=>decide (x.2.2=p)&&decide (x.1=n)
def ziH (s:DS) (w:Wd) (c:List Wd):Option (Int×Wd):=
 if c.length≠2 then some (3,w)
 else if(zn4 zl4 (cAt c 0).1).2=false then some (7,cAt c 0)
 else if zhz (cAt c 1).1=false then some (4,cAt c 1)
 else match zd6 s.S s.now (cAt c 1).1 with
  |some k=>if s.S.getD k ([],0,0)≠((cAt c 1).1,(zn4 zl4 (cAt c 0).1).1,s.now)then some (5,cAt c 1)else none
  |none=>if 32≤s.S.length∨8≤zdb s.S s.now then some (9,w)else none
def ziM (s:DS) (c:List Wd):DS:=match zd6 s.S s.now (cAt c 1).1 with
 |some k=>{s with now:=k}
 |none=>{s with S:=s.S++ [((cAt c 1).1,(zn4 zl4 (cAt c 0).1).1,s.now)],now:=s.S.length}
def zl1 (s:DS) (w:Wd) (c:List Wd):DS:=
 if 0<s.skip then{s with skip:=s.skip+1}
 else match ziH s w c with
  |some e=>{s.prob e.1 e.2 with skip:=1}
  |none=>ziM s c
def upP (s:DS) (w:Wd) (c:List Wd):DS:=
 if 0<s.skip then{s with skip:=s.skip-1}
 else if s.now<0 then s.prob 10 w
 else
  let t:={s with now:=parS s.S s.now.toNat}
  if 0<c.length then t.prob 3 w else t
def zb5:List Dcl→List Bs→Nat
 | [],seen=>seen.length
 |x::l,seen=>zb5 l (if x.code∈seen then seen else seen++ [x.code])
def knD (D:List Dcl) (c:Bs):Option Dcl:=D.find? fun x=>decide (x.code=c)
def dupV (x y:Dcl):Bool:=decide (y.nm=x.nm)&&decide (y.sc=x.sc)&&decide (y.sg=x.sg)&&decide (y.rg=x.rg)&&decide (y.mb=x.mb)&&decide (y.lb=x.lb)
def dclF (s:DS) (c:List Wd):Dcl:=
 let t:=(zn4 varW (cAt c 0).1).1
 let r:=refF ((txt c).drop 3)
 ⟨r.1,t,s.now,0,r.2.1,r.2.2.1,r.2.2.2.1,(cAt c 2).1,zgo t,if zgo t=0 then(zmK (cAt c 1).1).getD 0 else 0⟩
def zc7 (s:DS) (w:Wd) (c:List Wd):Option (Int×Wd):=
 if c.length<4∨5<c.length then some (3,w)
 else if(zn4 varW (cAt c 0).1).2=false then some (7,cAt c 0)
 else match zmK (cAt c 1).1 with
  |none=>some (3,cAt c 1)
  |some n=>
   let x:=dclF s c
   let r:=refF ((txt c).drop 3)
   if x.kind=0∧128<n then some (8,cAt c 1)
   else if zb1 x.code=false then some (3,cAt c 2)
   else if r.2.2.2.2≠0 then some (r.2.2.2.2,cAt c 3)
   else if x.rg=true∧x.kind≠0 then some (7,cAt c (c.length-1))
   else if x.rg=true∧zpX x.mb x.lb≠n then some (8,cAt c (c.length-1))
   else match knD s.D x.code with
    |some o=>if o.kind≠x.kind then some (7,cAt c 2)else if o.width≠x.width then some (8,cAt c 2)
     else if s.D.any (dupV x)=true then some (5,cAt c 3)else if 128≤s.D.length then some (9,w)else none
    |none=>if s.D.any (dupV x)=true then some (5,cAt c 3)else if 128≤s.D.length∨64≤zb5 s.D []then some (9,w)else none
def varP (s:DS) (w:Wd) (c:List Wd):DS:=
 if 0<s.skip then s else match zc7 s w c with
  |some e=>s.prob e.1 e.2
  |none=>{s with D:=s.D++ [dclF s c]}
def endD (s:DS) (w:Wd) (c:List Wd):DS:=
 let t:={s with ended:=true}
 if 0<c.length then t.prob 3 w else t
def zlQ (s:DS) (w:Wd) (c:List Wd):DS:=
 if(zlR (zgc (txt c))).2≠0 then s.prob 3 w else if s.scd=true then s else{s with sc:=(zlR (zgc (txt c))).1,scd:=true}
def zcG (s:DS) (w:Wd) (c:List Wd):DS:=if(zgg (txt c)).2≠0 then s.prob (zgg (txt c)).2 w else if s.dtd=true then s else{s with dt:=(zgg (txt c)).1,dtd:=true}
def zpc (s:DS) (w:Wd) (c:List Wd):DS:=if(zgg (txt c)).2≠0 then s.prob (zgg (txt c)).2 w else if s.vnd=true then s else{s with vn:=(zgg (txt c)).1,vnd:=true}
def zb9 (s:DS) (w:Wd) (c:List Wd):DS:=if(zgg (txt c)).2≠0 then s.prob (zgg (txt c)).2 w else if s.cmd=true then s else{s with cm:=(zgg (txt c)).1,cmd:=true}
def secP (s:DS) (w:Wd) (c:List Wd):DS:=
 if w.1=zlw then zcG s w c
 else if w.1=zlF then zpc s w c
 else if w.1=zlv then zb9 s w c
 else if w.1=zlD then zlQ s w c
 else if w.1=zlC then zl1 s w c
 else if w.1=zlE then upP s w c
 else if w.1=sVar then varP s w c
 else if w.1=zlB then endD s w c
 else s.prob 3 w
def zck (t:List Wd):List Wd:=t.takeWhile fun w=>decide (w.1≠sEnd)
def zeE (t:List Wd):Bool:=t.any fun w=>decide (w.1=sEnd)
def znk (w:Wd):Bool:=decide (w.1.head? =some 35)||decide (w.1=zlA)||decide (w.1=zlx)||decide (w.1=zlz)||decide (w.1=zly)
def zg4 (w:Wd):Bool:=decide (w.1.head? ≠some 36)||decide (w.1=sEnd)
def zcF (s:DS) (w:Wd) (t:List Wd):DS×Option Nat:=
 if znk w=true then(s.prob 3 w,none)
 else if zg4 w=true then(s.prob 3 w,some 0)
 else if zeE t=true then(secP s w (zck t),some ((zck t).length+1))
 else(s.prob 3 w,some t.length)
def dRun (s:DS):List Wd→DS×Nat
 | []=>(s,0)
 |w::t=>
  if s.ended=true then(s,0)
  else match (zcF s w t).2 with
   |none=>((zcF s w t).1,0)
   |some k=>((dRun (zcF s w t).1 (t.drop k)).1,(dRun (zcF s w t).1 (t.drop k)).2+(k+1))
termination_by l=>l.length
decreasing_by all_goals (rw[List.length_drop,List.length_cons];omega)
theorem zcD (s:DS):dRun s []=(s,0):=by rw[dRun]
theorem zcB {s:DS} (h:s.ended=true):∀l,dRun s l=(s,0)
 | []=>zcD s
 |w::t=>by rw[dRun,if_pos h]
theorem zcE {s s2:DS} {w:Wd} {t:List Wd} (h:s.ended=false) (hs:zcF s w t=(s2,none)):dRun s (w::t)=(s2,0):=by
 rw[dRun,if_neg (by rw[h];simp),hs]
theorem zcC {s s2:DS} {w:Wd} {t:List Wd} {k:Nat} (h:s.ended=false) (hs:zcF s w t=(s2,some k)):dRun s (w::t)=((dRun s2 (t.drop k)).1,(dRun s2 (t.drop k)).2+(k+1)):=by
 rw[dRun,if_neg (by rw[h];simp),hs]
def zjK (ws:List Wd):DS×Nat:=dRun ds0 ws
theorem zcn (w:Wd) (t:List Wd):zck (w::t)=if w.1=sEnd then []else w::zck t:=by
 unfold zck;by_cases h:w.1=sEnd
 ·rw[if_pos h,List.takeWhile_cons_of_neg (by simp[h])]
 ·rw[if_neg h,List.takeWhile_cons_of_pos (by simp[h])]
theorem zeF (w:Wd) (t:List Wd):zeE (w::t)=(decide (w.1=sEnd)||zeE t):=rfl
theorem zcp:∀{t:List Wd},zeE t=true→(zck t).length<t.length
 | [],h=>by cases h
 |w::t,h=>by
  rw[zcn];by_cases he:w.1=sEnd
  ·rw[if_pos he];simp
  ·rw[zeF,decide_eq_false he,Bool.false_or]at h;have:=zcp h;rw[if_neg he,List.length_cons,List.length_cons];omega
theorem zml:∀(t u:List Wd) (n:Nat),zeE t=true→(zck t).length+1≤n→u.take n=t.take n→zck u=zck t∧zeE u=true
 | [],_,_,h,_,_=>by cases h
 |w::t,u,n,h,hn,he=>by
  obtain⟨m,rfl⟩:∃m,n=m+1:=⟨n-1,by omega⟩;cases u with
  |nil=>rw[List.take_nil,List.take_succ_cons]at he;cases he
  |cons x u=>
   rw[List.take_succ_cons,List.take_succ_cons]at he;obtain⟨rfl,he2⟩:=List.cons.inj he;rw[zcn,zcn,zeF];by_cases hw:x.1=sEnd
   ·rw[if_pos hw,if_pos hw,decide_eq_true hw];exact⟨rfl,rfl⟩
   ·rw[zcn,if_neg hw,List.length_cons]at hn;rw[zeF,decide_eq_false hw,Bool.false_or]at h;obtain⟨h1,h2⟩:=zml t u m h (by omega) he2;rw[if_neg hw,if_neg hw,h1,h2];exact⟨rfl,by simp⟩
theorem znh (s:DS) (w:Wd) (t:List Wd):
 (znk w=true∧zcF s w t=(s.prob 3 w,none))∨
 (znk w=false∧zg4 w=true∧zcF s w t=(s.prob 3 w,some 0))∨
 (znk w=false∧zg4 w=false∧zeE t=true∧zcF s w t=(secP s w (zck t),some ((zck t).length+1)))∨
 (znk w=false∧zg4 w=false∧zeE t=false∧zcF s w t=(s.prob 3 w,some t.length)):=by
 unfold zcF;cases znk w
 ·cases zg4 w
  ·cases zeE t
   ·exact .inr (.inr (.inr ⟨rfl,rfl,rfl,by simp⟩))
   ·exact .inr (.inr (.inl ⟨rfl,rfl,rfl,by simp⟩))
  ·exact .inr (.inl ⟨rfl,rfl,by simp⟩)
 ·exact .inl ⟨rfl,by simp⟩
theorem zlp:∀(m:Nat) (ws:List Wd) (s:DS),ws.length≤m→(dRun s ws).2≤ws.length
 |_,[],s,_=>by rw[zcD];exact Nat.le_refl _
 |0,w::t,_,h=>by simp at h
 |m+1,w::t,s,h=>by
  have h:t.length≤m:=by simpa using h
  cases he:s.ended with
  |true=>rw[zcB he];simp
  |false=>
   rcases znh s w t with⟨-,hs⟩|⟨-,-,hs⟩|⟨-,-,hE,hs⟩|⟨-,-,-,hs⟩
   ·rw[zcE he hs];simp
   ·rw[zcC he hs];have:=zlp m (t.drop 0) (s.prob 3 w) (by simpa using h);simp at this⊢;omega
   ·rw[zcC he hs];have:=zlp m (t.drop ((zck t).length+1)) (secP s w (zck t)) (by rw[List.length_drop];omega);have h2:=zcp hE;rw[List.length_drop]at this;simp only[List.length_cons];omega
   ·rw[zcC he hs];have:=zlp m (t.drop t.length) (s.prob 3 w) (by rw[List.length_drop];omega);rw[List.length_drop]at this;simp only[List.length_cons];omega
theorem zlt:∀(m:Nat) (ws v:List Wd) (s:DS),ws.length≤m→(dRun s ws).2<ws.length→v.take ((dRun s ws).2+1)=ws.take ((dRun s ws).2+1)→dRun s v=dRun s ws
 |_,[],_,s,_,h,_=>by simp at h
 |0,w::t,_,_,h,_,_=>by simp at h
 |m+1,w::t,v,s,hm,hn,hv=>by
  have hm2:t.length≤m:=by simpa using hm
  cases v with
  |nil=>rw[List.take_nil,List.take_succ_cons]at hv;cases hv
  |cons x u=>
   rw[List.take_succ_cons,List.take_succ_cons]at hv;obtain⟨rfl,hv⟩:=List.cons.inj hv;cases he:s.ended with
   |true=>rw[zcB he,zcB he]
   |false=>
    rcases znh s x t with⟨h1,hs⟩|⟨h1,h2,hs⟩|⟨h1,h2,hE,hs⟩|⟨-,-,-,hs⟩
    ·have hs2:zcF s x u=(s.prob 3 x,none):=by unfold zcF;rw[if_pos h1]
     rw[zcE he hs,zcE he hs2]
    ·have hs2:zcF s x u=(s.prob 3 x,some 0):=by unfold zcF;rw[if_neg (by rw[h1];simp),if_pos h2]
     rw[zcC he hs]at hn hv;rw[zcC he hs,zcC he hs2];rw[List.drop_zero]at hn hv⊢;have:=zlt m t u (s.prob 3 x) hm2 (by simpa using hn) (by simpa using hv);rw[List.drop_zero,this]
    ·rw[zcC he hs]at hn hv;dsimp only at hn hv;have hc:=zml t u _ hE (by omega) hv
     have hs2:zcF s x u=(secP s x (zck t),some ((zck t).length+1)):=by
      unfold zcF;rw[if_neg (by rw[h1];simp),if_neg (by rw[h2];simp),if_pos hc.2,hc.1]
     have hl:=zcp hE
     have hv2:(u.drop ((zck t).length+1)).take ((dRun (secP s x (zck t)) (t.drop ((zck t).length+1))).2+1)=(t.drop ((zck t).length+1)).take ((dRun (secP s x (zck t)) (t.drop ((zck t).length+1))).2+1):=by
      have:=congrArg (List.drop ((zck t).length+1)) hv;rw[List.drop_take,List.drop_take]at this;have e:(dRun (secP s x (zck t)) (t.drop ((zck t).length+1))).2+((zck t).length+1+1)-((zck t).length+1)=(dRun (secP s x (zck t)) (t.drop ((zck t).length+1))).2+1:=by omega
      rw[e]at this;exact this
     have:=zlt m (t.drop ((zck t).length+1)) (u.drop ((zck t).length+1)) (secP s x (zck t)) (by rw[List.length_drop];omega) (by rw[List.length_drop];rw[List.length_cons]at hn;omega) hv2;rw[zcC he hs,zcC he hs2,this]
    ·rw[zcC he hs]at hn;rw[List.drop_length,zcD]at hn;simp at hn
def DS.pre (x:List Pb) (s:DS):DS:={s with wrong:=x++s.wrong}
theorem zku (x:List Pb) (s:DS) (e:Int) (w:Wd):(s.pre x).prob e w=(s.prob e w).pre x:=by
 unfold DS.pre DS.prob;simp
theorem ziK (x:List Pb) (s:DS) (w:Wd) (c:List Wd):ziH (s.pre x) w c=ziH s w c:=rfl
theorem zda (x:List Pb) (s:DS) (w:Wd) (c:List Wd):zc7 (s.pre x) w c=zc7 s w c:=rfl
theorem ziN (x:List Pb) (s:DS) (c:List Wd):ziM (s.pre x) c=(ziM s c).pre x:=by
 unfold ziM;rw[show(s.pre x).S=s.S from rfl,show(s.pre x).now=s.now from rfl];cases zd6 s.S s.now (cAt c 1).1<;>rfl
theorem zmk (x:List Pb) (s:DS) (w:Wd) (c:List Wd):secP (s.pre x) w c=(secP s w c).pre x:=by
 unfold secP;split
 ·unfold zcG;rw[zku];split
  ·rfl
  ·show(if s.dtd=true then _ else _)=_;split<;>rfl
 split
 ·unfold zpc;rw[zku];split
  ·rfl
  ·show(if s.vnd=true then _ else _)=_;split<;>rfl
 split
 ·unfold zb9;rw[zku];split
  ·rfl
  ·show(if s.cmd=true then _ else _)=_;split<;>rfl
 split
 ·unfold zlQ;rw[zku];split
  ·rfl
  ·show(if s.scd=true then _ else _)=_;split<;>rfl
 split
 ·unfold zl1;rw[ziK];show(if 0<s.skip then _ else _)=_;split
  ·rfl
  ·cases ziH s w c with
   |some e=>dsimp only;rw[zku];rfl
   |none=>exact ziN x s c
 split
 ·unfold upP;show(if 0<s.skip then _ else _)=_;split
  ·rfl
  ·show(if s.now<0 then _ else _)=_;split
   ·rw[zku]
   ·dsimp only;split
    ·exact zku x {s with now:=parS s.S s.now.toNat} 3 w
    ·rfl
 split
 ·unfold varP;rw[zda];show(if 0<s.skip then _ else _)=_;split
  ·rfl
  ·cases zc7 s w c with
   |some e=>exact zku x s e.1 e.2
   |none=>rfl
 split
 ·unfold endD;dsimp only;split
  ·exact zku x {s with ended:=true} 3 w
  ·rfl
 ·exact zku x s 3 w
theorem zls (x:List Pb):∀(m:Nat) (ws:List Wd) (s:DS),ws.length≤m→dRun (s.pre x) ws=((dRun s ws).1.pre x,(dRun s ws).2)
 |_,[],s,_=>by rw[zcD,zcD]
 |0,w::t,_,h=>by simp at h
 |m+1,w::t,s,h=>by
  have h:t.length≤m:=by simpa using h
  cases he:s.ended with
  |true=>rw[zcB he,zcB (s:=s.pre x) he]
  |false=>
   have hs0:∀k s2,zcF s w t=(s2,k)→zcF (s.pre x) w t=(s2.pre x,k):=fun k s2 hk=>by
    unfold zcF at hk⊢;rw[zku,zmk];repeat' split at hk
    all_goals (obtain⟨rfl,rfl⟩:=Prod.mk.inj hk;simp_all)
   have he2:(s.pre x).ended=false:=he;rcases znh s w t with⟨-,hs⟩|⟨-,-,hs⟩|⟨-,-,hE,hs⟩|⟨-,-,-,hs⟩
   ·rw[zcE he hs,zcE he2 (hs0 _ _ hs)]
   all_goals
    rw[zcC he hs,zcC he2 (hs0 _ _ hs),zls x m _ _ (by rw[List.length_drop];omega)]
theorem zmm (s:DS) (w:Wd) (c:List Wd) (h:s.vnd=true):(secP s w c).vn=s.vn∧(secP s w c).vnd=true:=by
 rw[←h];unfold secP;split
 ·unfold zcG;repeat' split
  all_goals exact⟨rfl,rfl⟩
 split
 ·unfold zpc;split
  ·exact⟨rfl,rfl⟩
  ·exact⟨rfl,rfl⟩
 split
 ·unfold zb9;repeat' split
  all_goals exact⟨rfl,rfl⟩
 split
 ·unfold zlQ;repeat' split
  all_goals exact⟨rfl,rfl⟩
 split
 ·unfold zl1 ziM;split
  ·exact⟨rfl,rfl⟩
  ·cases ziH s w c with
   |some e=>exact⟨rfl,rfl⟩
   |none=>cases zd6 s.S s.now (cAt c 1).1<;>exact⟨rfl,rfl⟩
 split
 ·unfold upP;dsimp only;repeat' split
  all_goals exact⟨rfl,rfl⟩
 split
 ·unfold varP;split
  ·exact⟨rfl,rfl⟩
  ·cases zc7 s w c<;>exact⟨rfl,rfl⟩
 split
 ·unfold endD;dsimp only;split<;>exact⟨rfl,rfl⟩
 ·exact⟨rfl,rfl⟩
theorem zlu:∀(m:Nat) (ws:List Wd) (s:DS),ws.length≤m→s.vnd=true→(dRun s ws).1.vn=s.vn
 |_,[],s,_,_=>by rw[zcD]
 |0,w::t,_,h,_=>by simp at h
 |m+1,w::t,s,h,hv=>by
  have h:t.length≤m:=by simpa using h
  cases he:s.ended with
  |true=>rw[zcB he]
  |false=>
   rcases znh s w t with⟨-,hs⟩|⟨-,-,hs⟩|⟨-,-,hE,hs⟩|⟨-,-,-,hs⟩
   ·rw[zcE he hs];rfl
   ·rw[zcC he hs];exact zlu m _ _ (by rw[List.length_drop];omega) hv
   ·rw[zcC he hs];have hsv:=zmm s w (zck t) hv;exact(zlu m _ _ (by rw[List.length_drop];omega) hsv.2).trans hsv.1
   ·rw[zcC he hs];exact zlu m _ _ (by rw[List.length_drop];omega) hv
open Go.RowKit
set_option linter.unusedSimpArgs false
theorem zn3 {ws:List Wd} {k:Nat} (h:k<ws.length):(txt ws).take (k+1)=(txt ws).take k++ [ws[k].1]:=by
 rw[List.take_succ_eq_append_getElem (by unfold txt;rw[List.length_map];exact h)];simp[txt]
theorem zdw (wv:Value) (ws:List Wd) (w:World) (hs:SlR w wv ws.length (wds ws)) (hl:ws.length≤100000):
 Calls Tryz.prog 139 #[wv] w fun e w'=>∃v,e=.returned v∧w'.ownsRow w.heap.size 9 1 v ws.length (strs (txt ws))∧Below w.heap.size w w':=by
 obtain⟨i0,hi0,iz0,iz1,iz2⟩:=info_parts (P:=Tryz.prog) zno;obtain⟨a,cap,rfl,hc,hm⟩:=hs.shape;have HS:=lhd hs;clear hs;go_enter Tryz.func139,Tryz.ntmps139;go_wp2_with fail;go_loopw [3,8] (fun v i wr=>∃k:Nat,k≤ws.length∧i=.int .i64 k∧wr.ownsRow w.heap.size 9 1 v k (strs ((txt ws).take k))∧Below w.heap.size w wr) (fun _ i _=>ws.length-(intOf i).toNat)
 case atStart=>exact⟨0,Nat.zero_le _,rfl,⟨rfl,.inl ⟨rfl,rfl⟩⟩,Below.refl _ _⟩
 case round=>
  obtain⟨k,hk,rfl,ho,hb⟩:=hrel;by_cases hlt:k<ws.length
  ·obtain⟨b,o,rfl,d0,d1,d2,d3⟩:=SlR.wds (HS.out.below hb) hlt;have HT:=lhd (zn3 hlt);obtain⟨⟨t0,q1,q2,q3⟩,hx⟩:∃x,x=ws[k]:=⟨_,rfl⟩;rw[←hx]at d0 d1 d2 d3 HT;dsimp only at d0 d1 d2 d3 HT;have HO:=lhd ho;have HB:=lhd hb
   have HNEW:=lhd (show((wr.alloc (.cells #[.string (bsB t0),.int .i64 q1,.int .i64 q2,.int .i64 q3] 58)).alloc (.cells #[.string (bsB t0)] 9)).heap[wr.heap.size+1]? =some (.cells #[.string (bsB t0)] 9 (0,0))by
    have:=heap_alloc_new (wr.alloc (.cells #[.string (bsB t0),.int .i64 q1,.int .i64 q2,.int .i64 q3] 58)) (.cells #[.string (bsB t0)] 9);simpa using this)
   clear ho hb hx;go_wp2_with (at_builtin;refine wpList_append_own _ rfl _ _ 65 rfl w.heap.size 9 i0 (.string ⟨#[]⟩) 1 16 Tryz.underlying65 hi0 iz0 iz1 iz2 rfl (by decide) _ _ _ rfl (World.ownsRow.alloc (World.ownsRow.alloc (by exact HO.out) _) _) ⟨wr.heap.size+1,0,none⟩ 1 1 [.string (bsB t0)] rfl rfl (World.news_of_block (cs:=#[.string (bsB t0)]) (t:=9) (fr:=(0,0)) (by exact HNEW.out)) (by simp[Value.oneCell']) (by unfold maxLen;omega) (by omega) (by have:=HB.out.size;simp;omega) ?_)
   intro v7 w7 ho7 hg7 _;rw[show strs ((txt ws).take k)++ [Value.string (bsB t0)]=strs ((txt ws).take (k+1))by rw[HT.out];simp[strs,strV]]at ho7;have HO7:=lhd ho7;have HB7:=lhd (((HB.out.alloc HB.out.size _).alloc (by have:=HB.out.size;simp;omega) _).grown hg7 (by have:=HB.out.size;simp;omega) (fun q hq=>(HO.out.lt q hq).1));clear ho7 hg7 HNEW HT HO HB;go_wp2_with fail;go_roundw;case rel=>exact⟨k+1,by omega,by go_num,HO7.out,HB7.out⟩
   case measure=>simp[intOf];omega
  ·obtain rfl:k=ws.length:=by omega
   have HO:=lhd ho;have HB:=lhd hb;rw[List.take_of_length_le (by unfold txt;rw[List.length_map];exact Nat.le_refl _)]at HO;clear ho hb;go_wp2_with fail;go_ret;exact⟨_,rfl,HO.out,HB.out⟩
theorem zbf {x y:Bs}:bsB x=bsB y↔x=y:=⟨fun h=>by
 have:=congrArg (fun b:ByteArray=>b.data.toList) h;rwa [zbh,zbh]at this,fun h=>by rw[h]⟩
theorem ze6 (x:Bs):∀(l:List Bs) (i:Nat),Lib.idxFromS (l.map bsB) (bsB x) i=if x∈l then((i+l.idxOf x:Nat):Int)else-1
 | [],i=>rfl
 |y::l,i=>by
  show(if bsB y=bsB x then((i:Nat):Int)else Lib.idxFromS (l.map bsB) (bsB x) (i+1))=_;by_cases h:y=x
  ·subst h;rw[if_pos rfl,if_pos List.mem_cons_self,List.idxOf_cons_self,Nat.add_zero]
  ·rw[if_neg (fun e=>h (zbf.1 e)),ze6 x l,List.idxOf_cons,show(y==x)=false by simpa using h,cond_false];by_cases hm:x∈l
   ·rw[if_pos hm,if_pos (List.mem_cons_of_mem _ hm)];congr 1
    omega
   ·rw[if_neg hm,if_neg];intro hm2;rcases List.mem_cons.1 hm2 with e|e
    ·exact h e.symm
    ·exact hm e
theorem ze7 (l:List Bs) (x:Bs):Lib.idxOfS (l.map bsB) (bsB x)=if x∈l then((l.idxOf x:Nat):Int)else-1:=by
 unfold Lib.idxOfS;rw[ze6,Nat.zero_add]
theorem zfe (v:Value) (l:List Bs) (x:Bs) (w:World) (hs:SlR w v l.length (strs l)) (h0:0<l.length) (hl:l.length≤1000000):
 Calls Tryz.prog 62 #[v,.string (bsB x)] w fun e w'=>e=.returned (.int .i64 (if x∈l then((l.idxOf x:Nat):Int)else-1))∧w'=w:=by
 obtain⟨b,o,cap,rfl,-,-,hcell⟩:=hs.at h0
 have hx:=Tryz.slices_Index_string b o l.length cap (l.map bsB) (bsB x) w (by simp) (by omega) (fun j hj=>hcell j _ (by
  rw[List.length_map]at hj;simp[strs,strV,List.getD,hj]))
 rw[List.take_of_length_le (by simp),ze7]at hx;exact hx
theorem zdI (v:Value) (l:List Bs) (x:Bs) (w:World) (hs:SlR w v l.length (strs l)) (h0:0<l.length) (hl:l.length≤1000000):
 Calls Tryz.prog 31 #[v,.string (bsB x)] w fun e w'=>e=.returned (.tuple #[.int .i64 (zn4 l x).1,.bool (zn4 l x).2])∧w'=w:=by
 have hx:=zfe v l x w hs h0 hl;unfold zn4;by_cases hm:x∈l
 ·rw[if_pos hm]at hx⊢;have hlt:=List.idxOf_lt_length_of_mem hm;go_enter Tryz.func31,Tryz.ntmps31;go_wp2_with fail;refine hx.mono ?_;rintro e w' ⟨rfl,rfl⟩;go_wp2_with fail;exact bodyPost_ret (v:=.tuple #[.int .i64 ((l.idxOf x:Nat):Int),.bool true]) (by simp[results,Tryz.results31,go_sem]) rfl ⟨rfl,rfl⟩
 ·rw[if_neg hm]at hx⊢;go_enter Tryz.func31,Tryz.ntmps31;go_wp2_with fail;refine hx.mono ?_;rintro e w' ⟨rfl,rfl⟩;go_wp2_with fail;exact bodyPost_ret (v:=.tuple #[.int .i64 0,.bool false]) (by simp[results,Tryz.results31,go_sem];rfl) rfl ⟨rfl,rfl⟩
theorem zhb (w:World) (l:List Bs) (T:TypeId) (hl:l.length≤1000000):SlR (w.alloc (.cells (strs l).toArray T)) (.slice (some ⟨w.heap.size,0,none⟩) l.length l.length) l.length (strs l):=by
 refine⟨_,_,rfl,Nat.le_refl _,by unfold maxLen;omega,fun h=>(by cases h),fun _=>⟨_,_,rfl,fun j u hj=>?_⟩⟩;have:=(zaq.fresh w (strs l).toArray T).cell (j:=j) (v:=u) (by simpa using hj);rwa [Nat.zero_add]
theorem zdx (v:Value) (l:List Bs) (t:Int) (w:World) (hs:SlR w v l.length (strs l)) (h0:0<l.length):
 Calls Tryz.prog 46 #[v,.int .i64 t] w fun e w'=>e=.returned (.string (bsB (zhx l t)))∧w'=w:=by
 obtain⟨b,o,cap,rfl,-,-,hcell⟩:=hs.at h0;clear hs;by_cases h1:t<0
 ·have e1:zhx l t=[]:=if_pos h1;rw[e1];go_enter Tryz.func46,Tryz.ntmps46;go_wp2_with fail;go_ret;exact⟨rfl,rfl⟩
 ·obtain⟨k,rfl⟩:∃k:Nat,t=(k:Int):=⟨t.toNat,by omega⟩;by_cases h2:k<l.length
  ·have e1:zhx l (k:Int)=l[k]:=by unfold zhx;rw[if_neg h1,Int.toNat_natCast];simp[List.getD,h2]
   have hc:=hcell k (.string (bsB l[k])) (by simp[strs,strV,h2]);rw[e1];clear hcell e1;go_enter Tryz.func46,Tryz.ntmps46;go_wp2_with fail;go_ret;exact⟨rfl,rfl⟩
  ·have e1:zhx l (k:Int)=[]:=by unfold zhx;rw[if_neg h1,Int.toNat_natCast];simp[List.getD,List.getElem?_eq_none (Nat.le_of_not_lt h2)]
   rw[e1];clear hcell e1;go_enter Tryz.func46,Tryz.ntmps46;go_wp2_with fail;go_ret;exact⟨rfl,rfl⟩
theorem zdL (w:World):Calls Tryz.prog 32 #[] w fun e w'=>e=.returned (.slice (some ⟨w.heap.size,0,none⟩) 19 19)∧w'=w.alloc (.cells (strs varW).toArray 9):=by
 go_enter Tryz.func32,Tryz.ntmps32;go_wp2_with fail;go_ret;exact⟨rfl,rfl⟩
theorem zdl (x:Bs) (w:World):Calls Tryz.prog 11 #[.string (bsB x)] w fun e w'=>e=.returned (.tuple #[.int .i64 (zn4 varW x).1,.bool (zn4 varW x).2])∧Below w.heap.size w w':=by
 have hb:Below w.heap.size w (w.alloc (.cells (strs varW).toArray 9)):=(Below.refl _ _).alloc (Nat.le_refl _) _;have hs:=zhb w varW 9 (by decide);have HT:=lhd (zdI _ varW x _ hs (by decide) (by decide));clear hs;go_enter Tryz.func11,Tryz.ntmps11;go_wp2_with fail;refine(zdL w).mono ?_;rintro e w1 ⟨rfl,rfl⟩;go_wp2_with fail;refine HT.out.mono ?_;rintro e w2 ⟨rfl,rfl⟩;go_wp2_with fail;exact bodyPost_ret (v:=.tuple #[.int .i64 (zn4 varW x).1,.bool (zn4 varW x).2]) (by simp[results,Tryz.results11,go_sem]) rfl ⟨rfl,hb⟩
theorem zdk (t:Int) (w:World):Calls Tryz.prog 17 #[.int .i64 t] w fun e w'=>e=.returned (.string (bsB (zhx varW t)))∧Below w.heap.size w w':=by
 have hb:Below w.heap.size w (w.alloc (.cells (strs varW).toArray 9)):=(Below.refl _ _).alloc (Nat.le_refl _) _;have hs:=zhb w varW 9 (by decide);have HT:=lhd (zdx _ varW t _ hs (by decide));clear hs;go_enter Tryz.func17,Tryz.ntmps17;go_wp2_with fail;refine(zdL w).mono ?_;rintro e w1 ⟨rfl,rfl⟩;go_wp2_with fail;refine HT.out.mono ?_;rintro e w2 ⟨rfl,rfl⟩;go_wp2_with fail;go_ret;exact⟨rfl,hb⟩
theorem zdB (w:World):Calls Tryz.prog 35 #[] w fun e w'=>e=.returned (.slice (some ⟨w.heap.size,0,none⟩) 5 5)∧w'=w.alloc (.cells (strs zl4).toArray 9):=by
 go_enter Tryz.func35,Tryz.ntmps35;go_wp2_with fail;go_ret;exact⟨rfl,rfl⟩
theorem zdj (x:Bs) (w:World):Calls Tryz.prog 13 #[.string (bsB x)] w fun e w'=>e=.returned (.tuple #[.int .i64 (zn4 zl4 x).1,.bool (zn4 zl4 x).2])∧Below w.heap.size w w':=by
 have hb:Below w.heap.size w (w.alloc (.cells (strs zl4).toArray 9)):=(Below.refl _ _).alloc (Nat.le_refl _) _;have hs:=zhb w zl4 9 (by decide);have HT:=lhd (zdI _ zl4 x _ hs (by decide) (by decide));clear hs;go_enter Tryz.func13,Tryz.ntmps13;go_wp2_with fail;refine(zdB w).mono ?_;rintro e w1 ⟨rfl,rfl⟩;go_wp2_with fail;refine HT.out.mono ?_;rintro e w2 ⟨rfl,rfl⟩;go_wp2_with fail;exact bodyPost_ret (v:=.tuple #[.int .i64 (zn4 zl4 x).1,.bool (zn4 zl4 x).2]) (by simp[results,Tryz.results13,go_sem]) rfl ⟨rfl,hb⟩
theorem zdi (t:Int) (w:World):Calls Tryz.prog 19 #[.int .i64 t] w fun e w'=>e=.returned (.string (bsB (zhx zl4 t)))∧Below w.heap.size w w':=by
 have hb:Below w.heap.size w (w.alloc (.cells (strs zl4).toArray 9)):=(Below.refl _ _).alloc (Nat.le_refl _) _;have hs:=zhb w zl4 9 (by decide);have HT:=lhd (zdx _ zl4 t _ hs (by decide));clear hs;go_enter Tryz.func19,Tryz.ntmps19;go_wp2_with fail;refine(zdB w).mono ?_;rintro e w1 ⟨rfl,rfl⟩;go_wp2_with fail;refine HT.out.mono ?_;rintro e w2 ⟨rfl,rfl⟩;go_wp2_with fail;go_ret;exact⟨rfl,hb⟩
theorem zf2 (pt px:Nat) (p:Dcl→Bool) (v:Value) (L:List Dcl) (w:World) (hs:SlR w v L.length (dcls L))
 (hF:∀x∈L,∀W,Below w.heap.size w W→Calls Tryz.prog 176 #[dclV x,.pointer (some ⟨pt,0,none⟩),.pointer (some ⟨px,0,none⟩)] W fun e w'=>e=.returned (.bool (p x))∧Below W.heap.size W w'):
 Calls Tryz.prog 211 #[v,.func (.func 176) #[] #[.pointer (some ⟨pt,0,none⟩),.pointer (some ⟨px,0,none⟩)]] w fun e w'=>e=.returned (.int .i64 (fixI p L))∧Below w.heap.size w w':=by
 obtain⟨a,cap,rfl,hc,hm⟩:=hs.shape;unfold maxLen at hm;have HS:=lhd hs;have HF:=lhd hF;obtain⟨R,hR⟩:∃R,R=fixI p L:=⟨_,rfl⟩;rw[←hR];have HRR:=lhd hR;clear hs hF hR;go_enter Tryz.func211,Tryz.ntmps211;go_wp2_with fail;go_loopw [8] (fun i wr=>∃j:Nat,j≤L.length∧i=.int .i64 j∧(∀i,∀hi:i<L.length,i<j→p L[i]=false)∧Below w.heap.size w wr) (fun i _=>L.length-(intOf i).toNat)
 case atStart=>exact⟨0,Nat.zero_le _,rfl,fun i _ h=>absurd h (Nat.not_lt_zero _),Below.refl _ _⟩
 case round=>
  obtain⟨j,hj,rfl,hgo,hb⟩:=hrel;have HGO:=lhd hgo;have HB:=lhd hb;clear hgo hb;by_cases hlt:j<L.length
  ·obtain⟨b,o,rfl,hcell⟩:=(HS.out.below HB.out).dcls hlt;have HC:=lhd (fun W hW=>HF.out L[j] (List.getElem_mem hlt) W hW);have HT:=lhd (fun(h:p L[j]=true)=>HRR.out.trans (zea hlt h HGO.out))
   have HN:=lhd (show p L[j]=false→∀i,∀hi:i<L.length,i<j+1→p L[i]=false from fun h i hi hij=>by
    rcases Nat.lt_or_ge i j with h1|h1
    ·exact HGO.out i hi h1
    ·obtain rfl:i=j:=by omega
     exact h)
   generalize L[j]=x at hcell HC HT HN;obtain⟨px0,hpx⟩:∃px0,px0=p x:=⟨_,rfl⟩;rw[←hpx]at HC HT HN;clear hpx;obtain⟨n0,n1,n2,n3,n4,n5,n6,n7,n8,n9⟩:=x;have d0:wr.cell? ⟨b,o+j*10,none⟩=_:=hcell 0 _ rfl;have d1:wr.cell? ⟨b,o+j*10+1,none⟩=_:=hcell 1 _ rfl;have d2:wr.cell? ⟨b,o+j*10+2,none⟩=_:=hcell 2 _ rfl;have d3:wr.cell? ⟨b,o+j*10+3,none⟩=_:=hcell 3 _ rfl;have d4:wr.cell? ⟨b,o+j*10+4,none⟩=_:=hcell 4 _ rfl;have d5:wr.cell? ⟨b,o+j*10+5,none⟩=_:=hcell 5 _ rfl;have d6:wr.cell? ⟨b,o+j*10+6,none⟩=_:=hcell 6 _ rfl;have d7:wr.cell? ⟨b,o+j*10+7,none⟩=_:=hcell 7 _ rfl;have d8:wr.cell? ⟨b,o+j*10+8,none⟩=_:=hcell 8 _ rfl;have d9:wr.cell? ⟨b,o+j*10+9,none⟩=_:=hcell 9 _ rfl;clear hcell;go_wp2_with fail;refine(HC.out _ HB.out).mono ?_;rintro e w1 ⟨rfl,hb1⟩;have HB1:=lhd (zd5 HB.out hb1);clear hb1;cases px0
   ·have HN2:=lhd (HN.out rfl);go_wp2_with fail;go_roundw;case rel=>exact⟨j+1,by omega,by go_num,HN2.out,HB1.out⟩
    case measure=>simp[intOf];omega
   ·obtain rfl:R=(j:Int):=HT.out rfl;go_wp2_with fail;go_ret;exact⟨rfl,HB1.out⟩
  ·obtain rfl:R= -1:=HRR.out.trans (zeb fun i hi=>HGO.out i hi (by omega));go_wp2_with fail;go_ret;exact⟨rfl,HB.out⟩
theorem zd8 {α:Type} (p:α→Bool) (L:List α):(0≤fixI p L)=(L.any p=true):=by
 unfold fixI;cases h:L.findIdx? p with
 |none=>
  have:=List.findIdx?_eq_none_iff.1 h;refine propext ⟨fun h2=>absurd h2 (by decide),fun h2=>?_⟩;obtain⟨x,hx,hp⟩:=List.any_eq_true.1 h2;rw[this x hx]at hp;cases hp
 |some k=>
  obtain⟨hk,hp,-⟩:=List.findIdx?_eq_some_iff_getElem.1 h;exact propext ⟨fun _=>List.any_eq_true.2 ⟨_,List.getElem_mem hk,hp⟩,fun _=>by show(0:Int)≤(k:Int);omega⟩
theorem zbD (pt px:Nat) (p:Dcl→Bool) (v:Value) (L:List Dcl) (w:World) (hs:SlR w v L.length (dcls L))
 (hF:∀x∈L,∀W,Below w.heap.size w W→Calls Tryz.prog 176 #[dclV x,.pointer (some ⟨pt,0,none⟩),.pointer (some ⟨px,0,none⟩)] W fun e w'=>e=.returned (.bool (p x))∧Below W.heap.size W w'):
 Calls Tryz.prog 175 #[v,.func (.func 176) #[] #[.pointer (some ⟨pt,0,none⟩),.pointer (some ⟨px,0,none⟩)]] w fun e w'=>e=.returned (.bool (L.any p))∧Below w.heap.size w w':=by
 have HI:=lhd (zf2 pt px p v L w hs hF);have HA:=lhd (zd8 p L);generalize fixI p L=k at*;go_enter Tryz.func175,Tryz.ntmps175;go_wp2_with fail;refine HI.out.mono ?_;rintro e w1 ⟨rfl,hb⟩;have HB:=lhd hb;clear hb;go_wp2_with fail;go_ret
 exact⟨by
  show Ending.returned (Value.bool (decide (0≤k)))=_
  rw[show decide (0≤k)=L.any p from by
   cases h:L.any p with
   |true=>rw[decide_eq_true_iff,HA.out,h]
   |false=>rw[decide_eq_false_iff_not,HA.out,h];simp],HB.out⟩
theorem zbQ (pt px:Nat) (ty:Int) (x y:Dcl) (W:World) (hx:zaq W px (dclC x)) (hp:px<W.heap.size) (ht:W.cell? ⟨pt,0,none⟩=some (.int .i64 ty)) (hty:x.ty=ty):
 Calls Tryz.prog 176 #[dclV y,.pointer (some ⟨pt,0,none⟩),.pointer (some ⟨px,0,none⟩)] W fun e w'=>e=.returned (.bool (dupV x y))∧Below W.heap.size W w':=by
 obtain⟨n0,n1,n2,n3,n4,n5,n6,n7,n8,n9⟩:=x;obtain rfl:n1=ty:=hty;obtain⟨m0,m1,m2,m3,m4,m5,m6,m7,m8,m9⟩:=y;have hal:Below W.heap.size W (W.alloc (.cells #[.string (bsB m0),.int .i64 n1,.int .i64 m2,.int .i64 m3,.bool m4,.int .i64 m5,.int .i64 m6,.string (bsB m7),.int .i64 m8,.int .i64 m9] 50)):=(Below.refl _ _).alloc (Nat.le_refl _) _;have HB:=lhd hal;have hpt:=zbA ht;have x0:=hx.cell (j:=0) rfl;have x1:=hx.cell (j:=1) rfl;have x2:=hx.cell (j:=2) rfl;have x3:=hx.cell (j:=3) rfl;have x4:=hx.cell (j:=4) rfl;have x5:=hx.cell (j:=5) rfl;have x6:=hx.cell (j:=6) rfl;unfold dupV;dsimp only;clear hx hal;by_cases h0:m0=n0
 rotate_left
 ·have b0:=zbi h0;have hE:(decide (m0=n0)&&decide (m2=n2)&&decide (m3=n3)&&decide (m4=n4)&&decide (m5=n5)&&decide (m6=n6))=false:=by rw[decide_eq_false h0];simp
  clear h0;rw[hE];go_enter Tryz.func176,Tryz.ntmps176;go_wp2_with fail;go_ret;exact⟨rfl,HB.out⟩
 subst h0;by_cases h2:m2=n2
 rotate_left
 ·have b2:(m2==n2)=false:=by rw[beq_eq_false_iff_ne];exact h2
  have hE:(decide (m0=m0)&&decide (m2=n2)&&decide (m3=n3)&&decide (m4=n4)&&decide (m5=n5)&&decide (m6=n6))=false:=by rw[decide_eq_false h2];simp
  clear h2;rw[hE];go_enter Tryz.func176,Tryz.ntmps176;go_wp2_with fail;go_ret;exact⟨rfl,HB.out⟩
 subst h2;by_cases h3:m3=n3
 rotate_left
 ·have b3:(m3==n3)=false:=by rw[beq_eq_false_iff_ne];exact h3
  have hE:(decide (m0=m0)&&decide (m2=m2)&&decide (m3=n3)&&decide (m4=n4)&&decide (m5=n5)&&decide (m6=n6))=false:=by rw[decide_eq_false h3];simp
  clear h3;rw[hE];go_enter Tryz.func176,Tryz.ntmps176;go_wp2_with fail;go_ret;exact⟨rfl,HB.out⟩
 subst h3;by_cases h4:m4=n4
 rotate_left
 ·have b4:(m4==n4)=false:=by rw[beq_eq_false_iff_ne];exact h4
  have hE:(decide (m0=m0)&&decide (m2=m2)&&decide (m3=m3)&&decide (m4=n4)&&decide (m5=n5)&&decide (m6=n6))=false:=by rw[decide_eq_false h4];simp
  clear h4;rw[hE];go_enter Tryz.func176,Tryz.ntmps176;go_wp2_with fail;go_ret;exact⟨rfl,HB.out⟩
 subst h4;by_cases h5:m5=n5
 rotate_left
 ·have b5:(m5==n5)=false:=by rw[beq_eq_false_iff_ne];exact h5
  have hE:(decide (m0=m0)&&decide (m2=m2)&&decide (m3=m3)&&decide (m4=m4)&&decide (m5=n5)&&decide (m6=n6))=false:=by rw[decide_eq_false h5];simp
  clear h5;rw[hE];go_enter Tryz.func176,Tryz.ntmps176;go_wp2_with fail;go_ret;exact⟨rfl,HB.out⟩
 subst h5;by_cases h6:m6=n6
 rotate_left
 ·have b6:(m6==n6)=false:=by rw[beq_eq_false_iff_ne];exact h6
  have hE:(decide (m0=m0)&&decide (m2=m2)&&decide (m3=m3)&&decide (m4=m4)&&decide (m5=m5)&&decide (m6=n6))=false:=by rw[decide_eq_false h6];simp
  clear h6;rw[hE];go_enter Tryz.func176,Tryz.ntmps176;go_wp2_with fail;go_ret;exact⟨rfl,HB.out⟩
 subst h6;have hE:(decide (m0=m0)&&decide (m2=m2)&&decide (m3=m3)&&decide (m4=m4)&&decide (m5=m5)&&decide (m6=m6))=true:=by simp
 rw[hE];go_enter Tryz.func176,Tryz.ntmps176;go_wp2_with fail;go_ret;exact⟨rfl,HB.out⟩
section
variable {P : Program} {ops : Array Oper} {Q : Exit → Act → World → Prop} {md : Region.Mode} {S : World → Prop}
theorem zqf (I:Array Bool→Act→World→Prop)
 (hs:∀(l:Array Bool) (a:Act) (w:World) (i:Nat) (o:Oper),I l a w→i∈Region.ready md ops l→ops[i]? =some o→
   ∀K':Act→World→Prop,Shut (∀a' w',S w'→I (l.setIfInBounds i true) a' w'→K' a' w')→if Region.wanted o (yielded ops a.tmps)=true then Oper.wp P o a w K' Q else K' (a.put o.dst undef) w)
 (hd:∀(l:Array Bool) (a:Act) (w:World),I l a w→Region.ready md ops l=[]→Q .normal a w)
 (hz:∀(l:Array Bool) (a:Act) (w:World),I l a w→l.size=ops.size):
 ∀(fuel:Nat) (l:Array Bool) (a:Act) (w:World),l.toList.count false≤fuel→I l a w→wpAnyH P md ops Q S fuel l a w
 |0,l,a,w,hc,hI=>by
  have hr:Region.ready md ops l=[]:=by
   refine List.eq_nil_iff_forall_not_mem.2 fun i hi=>?_;obtain⟨h1,o,ho,-⟩:=mem_ready.1 hi;have hlt:i<l.size:=by rw[hz l a w hI];exact(Array.getElem?_eq_some_iff.1 ho).1
   have:false∈l.toList:=by
    rw[←h1,Array.getD_eq_getD_getElem?,Array.getElem?_eq_getElem hlt];exact Array.getElem_mem_toList hlt
   have:=List.count_pos_iff.2 this;omega
  exact⟨hr,hd l a w hI hr⟩
 |fuel+1,l,a,w,hc,hI=>by
  refine⟨fun hr=>hd l a w hI hr,fun i hi=>?_⟩;obtain⟨h1,o,ho,-⟩:=mem_ready.1 hi;have hlt:i<l.size:=by rw[hz l a w hI];exact(Array.getElem?_eq_some_iff.1 ho).1
  refine wpOp_step ho (fun K' hK=>hs l a w i o hI hi ho K' fun a' w' hS hW=>hK a' w' ⟨hS,zqf I hs hd hz fuel _ a' w' ?_ hW⟩)
  have hf:l.toList[i]'(by simpa using hlt)=false:=by
   have:=h1;rw[Array.getD_eq_getD_getElem?,Array.getElem?_eq_getElem hlt]at this;simpa using this
  rw[Array.toList_setIfInBounds,List.count_set (by simpa using hlt),hf];have:0<l.toList.count false:=List.count_pos_iff.2 (by rw[←hf];exact List.getElem_mem _);simp only[beq_self_eq_true,if_true,show(true==false)=false from rfl,Bool.false_eq_true,if_false];omega
end
theorem zg2 {md:Region.Mode} {ops:Array Oper} {l:Array Bool} (hr:Region.ready md ops l=[]) {n:Nat} (hz:l.size=n) {i:Nat} {o:Oper} (ho:ops[i]? =some o) (ha:∀e∈o.after,Region.binds md e=true→l.getD e.on false=true) (hn:i<n:=by decide):l.getD i false=true:=by
 cases h:l.getD i false with
 |true=>rfl
 |false=>
  have hg:l.getD i true=l.getD i false:=by
   rw[Array.getD_eq_getD_getElem?,Array.getD_eq_getD_getElem?,Array.getElem?_eq_getElem (by rw[hz];exact hn)];rfl
  have:=mem_ready.2 ⟨hg.trans h,o,ho,ha⟩;rw[hr]at this;cases this
theorem zg1 {md:Region.Mode} {ops:Array Oper} {l:Array Bool} (hr:Region.ready md ops l=[]) {k:Nat} (hz:l.size=k) {i n:Nat} {o:Oper} (ho:ops[i]? =some o) (hn:(o.after.toList.all fun e=>decide (e.on<n))=true) (ha:∀j,j<n→l.getD j false=true) (hk:i<k:=by decide):l.getD i false=true:=
 zg2 hr hz ho (fun e he _=>ha _ (of_decide_eq_true (List.all_eq_true.1 hn e (by simpa using he)))) hk
theorem zet (l:Array Bool) (i j:Nat) (hi:i<l.size):(l.setIfInBounds i true).getD j false=if i=j then true else l.getD j false:=by
 rw[Array.getD_eq_getD_getElem?,Array.getElem?_setIfInBounds,Array.getD_eq_getD_getElem?];split
 ·rename_i h
  subst h;first|rfl|(rw[if_pos hi];rfl)
 ·rfl
theorem zep {l:Array Bool} {j:Nat} (hj:j<l.size):l.getD j true=l.getD j false:=by
 rw[Array.getD_eq_getD_getElem?,Array.getD_eq_getD_getElem?,Array.getElem?_eq_getElem hj];rfl
theorem zdF (B j:Nat) (w:World):Calls Tryz.prog 88 #[.pointer (some ⟨B,0,none⟩),.pointer (some ⟨B,j,none⟩)] w fun e w'=>
 e=.returned (.func (.func 137) #[] #[.pointer (some ⟨w.heap.size,0,none⟩),.pointer (some ⟨w.heap.size+1,0,none⟩)])∧w'=(w.alloc (.cells #[.pointer (some ⟨B,0,none⟩)] 85)).alloc (.cells #[.pointer (some ⟨B,j,none⟩)] 136):=by
 go_enter Tryz.func88,Tryz.ntmps88;go_wp2_with fail;go_ret;exact⟨rfl,rfl⟩
def secL:List Bs:=[zlw,zlF,zlv,zlD,zlC,zlE,sVar,zlB]
abbrev mB (f B:Nat):Value:=.func (.func f) #[.pointer (some ⟨B,0,none⟩)] #[]
abbrev txV (p q:Nat):Value:=.func (.func 137) #[] #[.pointer (some ⟨p,0,none⟩),.pointer (some ⟨q,0,none⟩)]
def secV (B:Nat) (pt tq:Nat→Nat):Nat→Value
 |0=>txV (pt 0) (tq 0)
 |1=>txV (pt 1) (tq 1)
 |2=>txV (pt 2) (tq 2)
 |3=>mB 89 B
 |4=>mB 90 B
 |5=>mB 91 B
 |6=>mB 92 B
 |_=>mB 93 B
def secF (L:Nat→Bool) (B:Nat) (pt tq:Nat→Nat) (s:BsM):Option Value:=match secL.findIdx? fun x=>decide (x=s)with
 |some k=>if L k=true then some (secV B pt tq k)else none
 |none=>none
theorem zmj {k:Nat} {x:Bs} (h:secL[k]? =some x):secL.findIdx? (fun y=>decide (y=x))=some k:=by
 have hk:k<8:=(List.getElem?_eq_some_iff.1 h).1;rcases(by omega:k=0∨k=1∨k=2∨k=3∨k=4∨k=5∨k=6∨k=7)with rfl|rfl|rfl|rfl|rfl|rfl|rfl|rfl<;>(injection h with h;subst h;decide)
theorem zmf {k:Nat} {s:Bs} (h:secL.findIdx? (fun y=>decide (y=s))=some k):secL[k]? =some s:=by
 obtain⟨hk,h1,-⟩:=List.findIdx?_eq_some_iff_getElem.1 h;rw[List.getElem?_eq_getElem hk,of_decide_eq_true h1]
theorem zmd {L L':Nat→Bool} {B:Nat} {pt tq:Nat→Nat} {k:Nat} {x:Bs} (hx:secL[k]? =some x) (hk:L' k=true) (ho:∀j,j≠k→L' j=L j) (s:BsM):(if s=x then some (secV B pt tq k)else secF L B pt tq s)=secF L' B pt tq s:=by
 by_cases h:s=x
 ·subst h;unfold secF;rw[if_pos rfl,zmj hx];dsimp only;rw[if_pos hk]
 ·rw[if_neg h];unfold secF;cases hf:secL.findIdx? (fun y=>decide (y=s))with
  |none=>rfl
  |some j=>
   dsimp only;have hj:=zmf hf;rw[ho j (fun e=>by subst e;rw[hx]at hj;exact h (Option.some.inj hj).symm)]
theorem zmc {L:Nat→Bool} {B:Nat} {pt tq:Nat→Nat} {k p q:Nat} (hk:L k=false) (s:BsM):secF L B pt tq s=secF L B (fun j=>if j=k then p else pt j) (fun j=>if j=k then q else tq j) s:=by
 unfold secF;cases hf:secL.findIdx? (fun y=>decide (y=s))with
 |none=>rfl
 |some j=>
  dsimp only;by_cases hj:j=k
  ·subst hj;rw[hk];rfl
  ·have e:secV B pt tq j=secV B (fun j=>if j=k then p else pt j) (fun j=>if j=k then q else tq j) j:=by
    have hj8:j<8:=(List.findIdx?_eq_some_iff_getElem.1 hf).1;rcases(by omega:j=0∨j=1∨j=2∨j=3∨j=4∨j=5∨j=6∨j=7)with rfl|rfl|rfl|rfl|rfl|rfl|rfl|rfl<;>simp[secV,hj]
   rw[e]
def insL (l:Array Bool):Nat→Bool
 |0=>l.getD 7 false
 |1=>l.getD 14 false
 |2=>l.getD 21 false
 |3=>l.getD 24 false
 |4=>l.getD 27 false
 |5=>l.getD 30 false
 |6=>l.getD 33 false
 |7=>l.getD 36 false
 |_=>false
def insN (l:Array Bool):Nat:=(l.getD 7 false).toNat+(l.getD 14 false).toNat+(l.getD 21 false).toNat+(l.getD 24 false).toNat+(l.getD 27 false).toNat+(l.getD 30 false).toNat+(l.getD 33 false).toNat+(l.getD 36 false).toNat
def BxT (B:Nat) (w0 w:World) (p q j:Nat):Prop:=w0.heap.size≤p∧w0.heap.size≤q∧w.heap[p]? =some (.cells #[.pointer (some ⟨B,0,none⟩)] 85 (0,0))∧w.heap[q]? =some (.cells #[.pointer (some ⟨B,j,none⟩)] 136 (0,0))
theorem BxT.below {B p q j:Nat} {w0 w w':World} (h:BxT B w0 w p q j) (hb:Below w.heap.size w w'):BxT B w0 w' p q j:=
 ⟨h.1,h.2.1,by rw[hb.block p (Array.getElem?_eq_some_iff.1 h.2.2.1).1];exact h.2.2.1,by rw[hb.block q (Array.getElem?_eq_some_iff.1 h.2.2.2).1];exact h.2.2.2⟩
theorem BxT.map {P:Program} {K:TypeId} {B p q j b n:Nat} {f:BsM→Option Value} {w0 w w':World} (h:BxT B w0 w p q j) (hm:SMap P K w b n f) (hg:w.grownBy w' (some b)):BxT B w0 w' p q j:=
 ⟨h.1,h.2.1,by
  rw[hg.block p (Array.getElem?_eq_some_iff.1 h.2.2.1).1 (fun e=>by injection e with e;subst e;exact hm.no_cells h.2.2.1)];exact h.2.2.1,by
  rw[hg.block q (Array.getElem?_eq_some_iff.1 h.2.2.2).1 (fun e=>by injection e with e;subst e;exact hm.no_cells h.2.2.2)];exact h.2.2.2⟩
theorem BxT.new (B j:Nat) (w0 w:World) (h:w0.heap.size≤w.heap.size):BxT B w0 ((w.alloc (.cells #[.pointer (some ⟨B,0,none⟩)] 85)).alloc (.cells #[.pointer (some ⟨B,j,none⟩)] 136)) w.heap.size (w.heap.size+1) j:=by
 refine⟨h,by omega,?_,?_⟩
 ·rw[Below.heap_alloc _ _ _ (by simp)];exact heap_alloc_new w _
 ·have:=heap_alloc_new (w.alloc (.cells #[.pointer (some ⟨B,0,none⟩)] 85)) (.cells #[.pointer (some ⟨B,j,none⟩)] 136);simpa using this
structure SecI (B:Nat) (w0:World) (l:Array Bool) (a:Act) (w:World):Prop where
 z:l.size=39
 p:l.getD 1 false=true∧l.getD 2 false=true∧l.getD 3 false=true∧l.getD 4 false=true∧l.getD 5 false=true∧l.getD 8 false=true∧l.getD 9 false=true∧l.getD 10 false=true∧l.getD 11 false=true∧l.getD 12 false=true∧l.getD 15 false=true∧l.getD 16 false=true∧l.getD 17 false=true∧l.getD 18 false=true∧l.getD 19 false=true∧l.getD 22 false=true∧l.getD 23 false=true∧l.getD 25 false=true∧l.getD 26 false=true∧l.getD 28 false=true∧l.getD 29 false=true∧l.getD 31 false=true∧l.getD 32 false=true∧l.getD 34 false=true∧l.getD 35 false=true
 d:Below w0.heap.size w0 w
 x:∃(v2 v3 v9 v15 v21 v32:Value) (kb:Nat) (pt tq:Nat→Nat),a=({tmps:=#[(.pointer (some ⟨B,0,none⟩)),undef,v2,v3,(.pointer (some ⟨B,0,none⟩)),(.pointer (some ⟨B,0,none⟩)),(.pointer (some ⟨B,0,none⟩)),(.pointer (some ⟨B,0,none⟩)),(.pointer (some ⟨B,1,none⟩)),v9,(.pointer (some ⟨B,0,none⟩)),(.pointer (some ⟨B,0,none⟩)),(.pointer (some ⟨B,0,none⟩)),(.pointer (some ⟨B,0,none⟩)),(.pointer (some ⟨B,2,none⟩)),v15,(.pointer (some ⟨B,0,none⟩)),(.pointer (some ⟨B,0,none⟩)),(.pointer (some ⟨B,0,none⟩)),(.pointer (some ⟨B,0,none⟩)),(.pointer (some ⟨B,3,none⟩)),v21,(.pointer (some ⟨B,0,none⟩)),(mB 89 B),(.pointer (some ⟨B,0,none⟩)),(mB 90 B),(.pointer (some ⟨B,0,none⟩)),(mB 91 B),(.pointer (some ⟨B,0,none⟩)),(mB 92 B),(.pointer (some ⟨B,0,none⟩)),(mB 93 B),v32],defers:=[]}:Act)∧
  (l.getD 0 false=true→v3=.map (some kb)∧w0.heap.size≤kb∧SMap Tryz.prog 9 w kb (insN l) (secF (insL l) B pt tq))∧
  (l.getD 0 false=false→insN l=0)∧
  (l.getD 6 false=true→v9=txV (pt 0) (tq 0)∧BxT B w0 w (pt 0) (tq 0) 1)∧(l.getD 7 false=true→l.getD 6 false=true)∧
  (l.getD 13 false=true→v15=txV (pt 1) (tq 1)∧BxT B w0 w (pt 1) (tq 1) 2)∧(l.getD 14 false=true→l.getD 13 false=true)∧
  (l.getD 20 false=true→v21=txV (pt 2) (tq 2)∧BxT B w0 w (pt 2) (tq 2) 3)∧(l.getD 21 false=true→l.getD 20 false=true)∧
  (l.getD 37 false=true→l.getD 0 false=true∧v32=.map (some kb))∧(l.getD 38 false=true→l.getD 37 false=true∧v2=.map (some kb))
theorem zer {l:Array Bool} {i j:Nat} (hi:i<l.size) (h:l.getD j false=true):(l.setIfInBounds i true).getD j false=true:=by
 rw[zet _ _ _ hi];split
 ·rfl
 ·exact h
theorem zes {l:Array Bool} {i j:Nat} (hi:i<l.size) (h:i≠j):(l.setIfInBounds i true).getD j false=l.getD j false:=by rw[zet _ _ _ hi,if_neg h]
theorem zeq {l:Array Bool} {i:Nat} (hi:i<l.size):(l.setIfInBounds i true).getD i false=true:=by rw[zet _ _ _ hi,if_pos rfl]
theorem zfq {l:Array Bool} {i:Nat} (hi:i<l.size) (h:i≠7∧i≠14∧i≠21∧i≠24∧i≠27∧i≠30∧i≠33∧i≠36):insN (l.setIfInBounds i true)=insN l∧insL (l.setIfInBounds i true)=insL l:=by
 obtain⟨h0,h1,h2,h3,h4,h5,h6,h7⟩:=h;refine⟨by unfold insN;rw[zes hi h0,zes hi h1,zes hi h2,zes hi h3,zes hi h4,zes hi h5,zes hi h6,zes hi h7],funext fun k=>?_⟩;unfold insL;split<;>first|exact zes hi (by assumption)|rfl
theorem zfr {l:Array Bool} (h:insN l=0):∀k,insL l k=false:=fun k=>by
 unfold insN at h;have hb:∀b:Bool,b.toNat=0→b=false:=by decide
 unfold insL;split<;>first|rfl|(apply hb;omega)
theorem zmb {L:Nat→Bool} {B:Nat} {pt tq:Nat→Nat} (h:∀k,L k=false) (s:BsM):secF L B pt tq s=none:=by
 unfold secF;split
 ·rw[h];rfl
 ·rfl
theorem zfp {l:Array Bool} (hi:7<l.size) (h:l.getD 7 false=false):insN (l.setIfInBounds 7 true)=insN l+1∧insL (l.setIfInBounds 7 true) 0=true∧∀q,q≠0→insL (l.setIfInBounds 7 true) q=insL l q:=by
 refine⟨?_,zeq hi,fun q hq=>?_⟩
 ·unfold insN;simp only[zet _ _ _ hi,h];simp;try omega
 ·unfold insL;split<;>first|exact zes hi (by decide)|exact absurd rfl hq|rfl
theorem zfi {l:Array Bool} (hi:14<l.size) (h:l.getD 14 false=false):insN (l.setIfInBounds 14 true)=insN l+1∧insL (l.setIfInBounds 14 true) 1=true∧∀q,q≠1→insL (l.setIfInBounds 14 true) q=insL l q:=by
 refine⟨?_,zeq hi,fun q hq=>?_⟩
 ·unfold insN;simp only[zet _ _ _ hi,h];simp;try omega
 ·unfold insL;split<;>first|exact zes hi (by decide)|exact absurd rfl hq|rfl
theorem zfj {l:Array Bool} (hi:21<l.size) (h:l.getD 21 false=false):insN (l.setIfInBounds 21 true)=insN l+1∧insL (l.setIfInBounds 21 true) 2=true∧∀q,q≠2→insL (l.setIfInBounds 21 true) q=insL l q:=by
 refine⟨?_,zeq hi,fun q hq=>?_⟩
 ·unfold insN;simp only[zet _ _ _ hi,h];simp;try omega
 ·unfold insL;split<;>first|exact zes hi (by decide)|exact absurd rfl hq|rfl
theorem zfk {l:Array Bool} (hi:24<l.size) (h:l.getD 24 false=false):insN (l.setIfInBounds 24 true)=insN l+1∧insL (l.setIfInBounds 24 true) 3=true∧∀q,q≠3→insL (l.setIfInBounds 24 true) q=insL l q:=by
 refine⟨?_,zeq hi,fun q hq=>?_⟩
 ·unfold insN;simp only[zet _ _ _ hi,h];simp;try omega
 ·unfold insL;split<;>first|exact zes hi (by decide)|exact absurd rfl hq|rfl
theorem zfl {l:Array Bool} (hi:27<l.size) (h:l.getD 27 false=false):insN (l.setIfInBounds 27 true)=insN l+1∧insL (l.setIfInBounds 27 true) 4=true∧∀q,q≠4→insL (l.setIfInBounds 27 true) q=insL l q:=by
 refine⟨?_,zeq hi,fun q hq=>?_⟩
 ·unfold insN;simp only[zet _ _ _ hi,h];simp;try omega
 ·unfold insL;split<;>first|exact zes hi (by decide)|exact absurd rfl hq|rfl
theorem zfm {l:Array Bool} (hi:30<l.size) (h:l.getD 30 false=false):insN (l.setIfInBounds 30 true)=insN l+1∧insL (l.setIfInBounds 30 true) 5=true∧∀q,q≠5→insL (l.setIfInBounds 30 true) q=insL l q:=by
 refine⟨?_,zeq hi,fun q hq=>?_⟩
 ·unfold insN;simp only[zet _ _ _ hi,h];simp;try omega
 ·unfold insL;split<;>first|exact zes hi (by decide)|exact absurd rfl hq|rfl
theorem zfn {l:Array Bool} (hi:33<l.size) (h:l.getD 33 false=false):insN (l.setIfInBounds 33 true)=insN l+1∧insL (l.setIfInBounds 33 true) 6=true∧∀q,q≠6→insL (l.setIfInBounds 33 true) q=insL l q:=by
 refine⟨?_,zeq hi,fun q hq=>?_⟩
 ·unfold insN;simp only[zet _ _ _ hi,h];simp;try omega
 ·unfold insL;split<;>first|exact zes hi (by decide)|exact absurd rfl hq|rfl
theorem zfo {l:Array Bool} (hi:36<l.size) (h:l.getD 36 false=false):insN (l.setIfInBounds 36 true)=insN l+1∧insL (l.setIfInBounds 36 true) 7=true∧∀q,q≠7→insL (l.setIfInBounds 36 true) q=insL l q:=by
 refine⟨?_,zeq hi,fun q hq=>?_⟩
 ·unfold insN;simp only[zet _ _ _ hi,h];simp;try omega
 ·unfold insL;split<;>first|exact zes hi (by decide)|exact absurd rfl hq|rfl
def zax (B:Nat) (w:World) (e:Ending) (w':World):Prop:=∃(kb n:Nat) (pt tq:Nat→Nat),e=.returned (.map (some kb))∧w.heap.size≤kb∧SMap Tryz.prog 9 w' kb n (secF (fun _=>true) B pt tq)∧BxT B w w' (pt 0) (tq 0) 1∧BxT B w w' (pt 1) (tq 1) 2∧BxT B w w' (pt 2) (tq 2) 3∧Below w.heap.size w w'
theorem zdD (B:Nat) (w:World):Calls Tryz.prog 47 #[.pointer (some ⟨B,0,none⟩)] w (zax B w):=by
 have hmm:= @run_makeMap Tryz.prog;go_enter Tryz.func47,Tryz.ntmps47;go_wp2_with fail;refine wp_region_held_drew (S:=fun _=>True) (by kernel_rfl) trivial (fun hHeld=>?_);clear hHeld;have hHeld:True:=trivial;refine tkH 1 hHeld (v:=?_) ?_ ?_;rotate_left
 ·intro w h;(try dsimp only at h);go_simp;all_goals with_reducible rfl
 simp only[tkS];refine tkH 2 hHeld (v:=?_) ?_ ?_;rotate_left
 ·intro w h;(try dsimp only at h);go_simp;all_goals with_reducible rfl
 simp only[tkS];refine tkH 3 hHeld (v:=?_) ?_ ?_;rotate_left
 ·intro w h;(try dsimp only at h);go_simp;all_goals with_reducible rfl
 simp only[tkS];refine tkH 4 hHeld (v:=?_) ?_ ?_;rotate_left
 ·intro w h;(try dsimp only at h);go_simp;all_goals with_reducible rfl
 simp only[tkS];refine tkH 5 hHeld (v:=?_) ?_ ?_;rotate_left
 ·intro w h;(try dsimp only at h);go_simp;all_goals with_reducible rfl
 simp only[tkS];refine tkH 8 hHeld (v:=?_) ?_ ?_;rotate_left
 ·intro w h;(try dsimp only at h);go_simp;all_goals with_reducible rfl
 simp only[tkS];refine tkH 9 hHeld (v:=?_) ?_ ?_;rotate_left
 ·intro w h;(try dsimp only at h);go_simp;all_goals with_reducible rfl
 simp only[tkS];refine tkH 10 hHeld (v:=?_) ?_ ?_;rotate_left
 ·intro w h;(try dsimp only at h);go_simp;all_goals with_reducible rfl
 simp only[tkS];refine tkH 11 hHeld (v:=?_) ?_ ?_;rotate_left
 ·intro w h;(try dsimp only at h);go_simp;all_goals with_reducible rfl
 simp only[tkS];refine tkH 12 hHeld (v:=?_) ?_ ?_;rotate_left
 ·intro w h;(try dsimp only at h);go_simp;all_goals with_reducible rfl
 simp only[tkS];refine tkH 15 hHeld (v:=?_) ?_ ?_;rotate_left
 ·intro w h;(try dsimp only at h);go_simp;all_goals with_reducible rfl
 simp only[tkS];refine tkH 16 hHeld (v:=?_) ?_ ?_;rotate_left
 ·intro w h;(try dsimp only at h);go_simp;all_goals with_reducible rfl
 simp only[tkS];refine tkH 17 hHeld (v:=?_) ?_ ?_;rotate_left
 ·intro w h;(try dsimp only at h);go_simp;all_goals with_reducible rfl
 simp only[tkS];refine tkH 18 hHeld (v:=?_) ?_ ?_;rotate_left
 ·intro w h;(try dsimp only at h);go_simp;all_goals with_reducible rfl
 simp only[tkS];refine tkH 19 hHeld (v:=?_) ?_ ?_;rotate_left
 ·intro w h;(try dsimp only at h);go_simp;all_goals with_reducible rfl
 simp only[tkS];refine tkH 22 hHeld (v:=?_) ?_ ?_;rotate_left
 ·intro w h;(try dsimp only at h);go_simp;all_goals with_reducible rfl
 simp only[tkS];refine tkH 23 hHeld (v:=?_) ?_ ?_;rotate_left
 ·intro w h;(try dsimp only at h);go_simp;all_goals with_reducible rfl
 simp only[tkS];refine tkH 25 hHeld (v:=?_) ?_ ?_;rotate_left
 ·intro w h;(try dsimp only at h);go_simp;all_goals with_reducible rfl
 simp only[tkS];refine tkH 26 hHeld (v:=?_) ?_ ?_;rotate_left
 ·intro w h;(try dsimp only at h);go_simp;all_goals with_reducible rfl
 simp only[tkS];refine tkH 28 hHeld (v:=?_) ?_ ?_;rotate_left
 ·intro w h;(try dsimp only at h);go_simp;all_goals with_reducible rfl
 simp only[tkS];refine tkH 29 hHeld (v:=?_) ?_ ?_;rotate_left
 ·intro w h;(try dsimp only at h);go_simp;all_goals with_reducible rfl
 simp only[tkS];refine tkH 31 hHeld (v:=?_) ?_ ?_;rotate_left
 ·intro w h;(try dsimp only at h);go_simp;all_goals with_reducible rfl
 simp only[tkS];refine tkH 32 hHeld (v:=?_) ?_ ?_;rotate_left
 ·intro w h;(try dsimp only at h);go_simp;all_goals with_reducible rfl
 simp only[tkS];refine tkH 34 hHeld (v:=?_) ?_ ?_;rotate_left
 ·intro w h;(try dsimp only at h);go_simp;all_goals with_reducible rfl
 simp only[tkS];refine tkH 35 hHeld (v:=?_) ?_ ?_;rotate_left
 ·intro w h;(try dsimp only at h);go_simp;all_goals with_reducible rfl
 simp only[tkS];refine zqf (I:=SecI B w) (fun l a w1 i o hI hi ho K' hK=>?_) (fun l a w1 hI hr=>?_) ?_ _ _ _ _ (by decide+kernel) ?_
 ·obtain⟨hr1,o',ho',haft⟩:=mem_ready.1 hi;rw[ho]at ho';obtain rfl:=Option.some.inj ho';have hlt:i<39:=(Array.getElem?_eq_some_iff.1 ho).1;obtain⟨hz,hp,hd,v2,v3,v9,v15,v21,v32,kb,pt,tq,rfl,hM,hM0,hc6,hi7,hc13,hi14,hc20,hi21,h37,h38⟩:=hI;obtain⟨p1,p2,p3,p4,p5,p8,p9,p10,p11,p12,p15,p16,p17,p18,p19,p22,p23,p25,p26,p28,p29,p31,p32,p34,p35⟩:=hp;rw[zep (by rw[hz];exact hlt)]at hr1;have hzi:i<l.size:=by rw[hz];exact hlt
  clear ho' hi;rcases(by omega:i=0∨i=1∨i=2∨i=3∨i=4∨i=5∨i=6∨i=7∨i=8∨i=9∨i=10∨i=11∨i=12∨i=13∨i=14∨i=15∨i=16∨i=17∨i=18∨i=19∨i=20∨i=21∨i=22∨i=23∨i=24∨i=25∨i=26∨i=27∨i=28∨i=29∨i=30∨i=31∨i=32∨i=33∨i=34∨i=35∨i=36∨i=37∨i=38)with rfl|rfl|rfl|rfl|rfl|rfl|rfl|rfl|rfl|rfl|rfl|rfl|rfl|rfl|rfl|rfl|rfl|rfl|rfl|rfl|rfl|rfl|rfl|rfl|rfl|rfl|rfl|rfl|rfl|rfl|rfl|rfl|rfl|rfl|rfl|rfl|rfl|rfl|rfl
  ·obtain rfl:=Option.some.inj ho;have hn0:=hM0 hr1;obtain⟨e1,e2⟩:=zfq hzi (by decide);have hal:Below w1.heap.size w1 (w1.alloc (.map #[] 0)):=(Below.refl _ _).alloc (Nat.le_refl _) _;go_simp;refine hK.out _ _ trivial ⟨by simpa using hz,⟨zer hzi p1,zer hzi p2,zer hzi p3,zer hzi p4,zer hzi p5,zer hzi p8,zer hzi p9,zer hzi p10,zer hzi p11,zer hzi p12,zer hzi p15,zer hzi p16,zer hzi p17,zer hzi p18,zer hzi p19,zer hzi p22,zer hzi p23,zer hzi p25,zer hzi p26,zer hzi p28,zer hzi p29,zer hzi p31,zer hzi p32,zer hzi p34,zer hzi p35⟩,hd.alloc hd.size _,v2,_,v9,v15,v21,v32,w1.heap.size,pt,tq,rfl,fun _=>⟨rfl,hd.size,?_⟩,fun h=>(by rw[zeq hzi]at h;cases h),fun h=>(by rw[zes hzi (by decide)]at h;exact⟨(hc6 h).1,(hc6 h).2.below hal⟩),fun h=>(by rw[zes hzi (by decide)]at h⊢;exact hi7 h),fun h=>(by rw[zes hzi (by decide)]at h;exact⟨(hc13 h).1,(hc13 h).2.below hal⟩),fun h=>(by rw[zes hzi (by decide)]at h⊢;exact hi14 h),fun h=>(by rw[zes hzi (by decide)]at h;exact⟨(hc20 h).1,(hc20 h).2.below hal⟩),fun h=>(by rw[zes hzi (by decide)]at h⊢;exact hi21 h),fun h=>(by rw[zes hzi (by decide)]at h;have:=(h37 h).1;rw[hr1]at this;cases this),fun h=>(by rw[zes hzi (by decide)]at h;have:=(h37 (h38 h).1).1;rw[hr1]at this;cases this)⟩;rw[e1,e2,hn0];exact(SMap.made w1 Tryz.prog 9).ext fun s=>(zmb (zfr hn0) s).symm
  ·rw[p1]at hr1;cases hr1
  ·rw[p2]at hr1;cases hr1
  ·rw[p3]at hr1;cases hr1
  ·rw[p4]at hr1;cases hr1
  ·rw[p5]at hr1;cases hr1
  ·obtain rfl:=Option.some.inj ho;obtain⟨e1,e2⟩:=zfq hzi (by decide);have hal:Below w1.heap.size w1 ((w1.alloc (.cells #[.pointer (some ⟨B,0,none⟩)] 85)).alloc (.cells #[.pointer (some ⟨B,1,none⟩)] 136)):=((Below.refl _ _).alloc (Nat.le_refl _) _).alloc (by simp) _
   have hnk:insL l 0=false:=by
    cases h:insL l 0 with
    |false=>rfl
    |true=>have:=hi7 h;rw[hr1]at this;cases this
   go_simp;refine(zdF B 1 w1).mono ?_;rintro e w2 ⟨rfl,rfl⟩;go_wp2_with fail;refine hK.out _ _ trivial ⟨by simpa using hz,⟨zer hzi p1,zer hzi p2,zer hzi p3,zer hzi p4,zer hzi p5,zer hzi p8,zer hzi p9,zer hzi p10,zer hzi p11,zer hzi p12,zer hzi p15,zer hzi p16,zer hzi p17,zer hzi p18,zer hzi p19,zer hzi p22,zer hzi p23,zer hzi p25,zer hzi p26,zer hzi p28,zer hzi p29,zer hzi p31,zer hzi p32,zer hzi p34,zer hzi p35⟩,hd.trans (hal.mono hd.size),v2,v3,_,v15,v21,v32,kb,(fun j=>if j=0 then w1.heap.size else pt j),(fun j=>if j=0 then w1.heap.size+1 else tq j),rfl,fun h=>?_,fun h=>(by rw[zes hzi (by decide)]at h;rw[e1];exact hM0 h),fun _=>⟨rfl,BxT.new B 1 w w1 hd.size⟩,fun h=>zeq hzi,fun h=>(by rw[zes hzi (by decide)]at h;exact⟨(hc13 h).1,(hc13 h).2.below hal⟩),fun h=>(by rw[zes hzi (by decide)]at h⊢;exact hi14 h),fun h=>(by rw[zes hzi (by decide)]at h;exact⟨(hc20 h).1,(hc20 h).2.below hal⟩),fun h=>(by rw[zes hzi (by decide)]at h⊢;exact hi21 h),fun h=>(by rw[zes hzi (by decide)]at h⊢;exact h37 h),fun h=>(by rw[zes hzi (by decide)]at h⊢;exact h38 h)⟩;rw[zes hzi (by decide)]at h;obtain⟨m1,m2,m3⟩:=hM h;refine⟨m1,m2,?_⟩;rw[e1,e2];exact((m3.alloc _).alloc _).ext fun s=>zmc hnk s
  ·obtain rfl:=Option.some.inj ho;have d0:=haft ⟨0,.data⟩ (by simp) rfl;have d1:=haft ⟨6,.data⟩ (by simp) rfl;obtain⟨ev,hbx⟩:=hc6 d1;subst ev;obtain⟨m1,m2,m3⟩:=hM d0;subst m1;obtain⟨e1,e2,e3⟩:=zfp hzi hr1
   have hnm:insN l<maxLen:=by
    have hb:∀b:Bool,b.toNat≤1:=by decide
    unfold insN maxLen;have:=hb (l.getD 7 false);have:=hb (l.getD 14 false);have:=hb (l.getD 21 false);have:=hb (l.getD 24 false);have:=hb (l.getD 27 false);have:=hb (l.getD 30 false);have:=hb (l.getD 33 false);have:=hb (l.getD 36 false);omega
   obtain⟨w2,r2,h2,g2⟩:=m3.put (t:=90) Tryz.underlying9 Tryz.underlying90 hnm (⟨#[36,100,97,116,101]⟩:ByteArray) (by unfold maxLen;decide) (txV (pt 0) (tq 0));go_simp;refine hK.out _ _ trivial ⟨by simpa using hz,⟨zer hzi p1,zer hzi p2,zer hzi p3,zer hzi p4,zer hzi p5,zer hzi p8,zer hzi p9,zer hzi p10,zer hzi p11,zer hzi p12,zer hzi p15,zer hzi p16,zer hzi p17,zer hzi p18,zer hzi p19,zer hzi p22,zer hzi p23,zer hzi p25,zer hzi p26,zer hzi p28,zer hzi p29,zer hzi p31,zer hzi p32,zer hzi p34,zer hzi p35⟩,hd.grown g2 hd.size (fun q hq=>by injection hq with hq;subst hq;exact m2),v2,_,_,v15,v21,v32,kb,pt,tq,rfl,fun h=>⟨rfl,m2,?_⟩,fun h=>(by rw[zes hzi (by decide),d0]at h;cases h),fun h=>⟨rfl,hbx.map m3 g2⟩,fun h=>(by rw[zes hzi (by decide)];exact d1),fun h=>(by rw[zes hzi (by decide)]at h;exact⟨(hc13 h).1,(hc13 h).2.map m3 g2⟩),fun h=>(by rw[zes hzi (by decide)]at h⊢;exact hi14 h),fun h=>(by rw[zes hzi (by decide)]at h;exact⟨(hc20 h).1,(hc20 h).2.map m3 g2⟩),fun h=>(by rw[zes hzi (by decide)]at h⊢;exact hi21 h),fun h=>(by rw[zes hzi (by decide)]at h⊢;exact h37 h),fun h=>(by rw[zes hzi (by decide)]at h⊢;exact h38 h)⟩;rw[e1];exact h2.ext fun s=>zmd (k:=0) (x:=zlw) rfl e2 e3 s
  ·rw[p8]at hr1;cases hr1
  ·rw[p9]at hr1;cases hr1
  ·rw[p10]at hr1;cases hr1
  ·rw[p11]at hr1;cases hr1
  ·rw[p12]at hr1;cases hr1
  ·obtain rfl:=Option.some.inj ho;obtain⟨e1,e2⟩:=zfq hzi (by decide);have hal:Below w1.heap.size w1 ((w1.alloc (.cells #[.pointer (some ⟨B,0,none⟩)] 85)).alloc (.cells #[.pointer (some ⟨B,2,none⟩)] 136)):=((Below.refl _ _).alloc (Nat.le_refl _) _).alloc (by simp) _
   have hnk:insL l 1=false:=by
    cases h:insL l 1 with
    |false=>rfl
    |true=>have:=hi14 h;rw[hr1]at this;cases this
   go_simp;refine(zdF B 2 w1).mono ?_;rintro e w2 ⟨rfl,rfl⟩;go_wp2_with fail;refine hK.out _ _ trivial ⟨by simpa using hz,⟨zer hzi p1,zer hzi p2,zer hzi p3,zer hzi p4,zer hzi p5,zer hzi p8,zer hzi p9,zer hzi p10,zer hzi p11,zer hzi p12,zer hzi p15,zer hzi p16,zer hzi p17,zer hzi p18,zer hzi p19,zer hzi p22,zer hzi p23,zer hzi p25,zer hzi p26,zer hzi p28,zer hzi p29,zer hzi p31,zer hzi p32,zer hzi p34,zer hzi p35⟩,hd.trans (hal.mono hd.size),v2,v3,v9,_,v21,v32,kb,(fun j=>if j=1 then w1.heap.size else pt j),(fun j=>if j=1 then w1.heap.size+1 else tq j),rfl,fun h=>?_,fun h=>(by rw[zes hzi (by decide)]at h;rw[e1];exact hM0 h),fun h=>(by rw[zes hzi (by decide)]at h;exact⟨(hc6 h).1,(hc6 h).2.below hal⟩),fun h=>(by rw[zes hzi (by decide)]at h⊢;exact hi7 h),fun _=>⟨rfl,BxT.new B 2 w w1 hd.size⟩,fun h=>zeq hzi,fun h=>(by rw[zes hzi (by decide)]at h;exact⟨(hc20 h).1,(hc20 h).2.below hal⟩),fun h=>(by rw[zes hzi (by decide)]at h⊢;exact hi21 h),fun h=>(by rw[zes hzi (by decide)]at h⊢;exact h37 h),fun h=>(by rw[zes hzi (by decide)]at h⊢;exact h38 h)⟩;rw[zes hzi (by decide)]at h;obtain⟨m1,m2,m3⟩:=hM h;refine⟨m1,m2,?_⟩;rw[e1,e2];exact((m3.alloc _).alloc _).ext fun s=>zmc hnk s
  ·obtain rfl:=Option.some.inj ho;have d0:=haft ⟨0,.data⟩ (by simp) rfl;have d1:=haft ⟨13,.data⟩ (by simp) rfl;obtain⟨ev,hbx⟩:=hc13 d1;subst ev;obtain⟨m1,m2,m3⟩:=hM d0;subst m1;obtain⟨e1,e2,e3⟩:=zfi hzi hr1
   have hnm:insN l<maxLen:=by
    have hb:∀b:Bool,b.toNat≤1:=by decide
    unfold insN maxLen;have:=hb (l.getD 7 false);have:=hb (l.getD 14 false);have:=hb (l.getD 21 false);have:=hb (l.getD 24 false);have:=hb (l.getD 27 false);have:=hb (l.getD 30 false);have:=hb (l.getD 33 false);have:=hb (l.getD 36 false);omega
   obtain⟨w2,r2,h2,g2⟩:=m3.put (t:=90) Tryz.underlying9 Tryz.underlying90 hnm (⟨#[36,118,101,114,115,105,111,110]⟩:ByteArray) (by unfold maxLen;decide) (txV (pt 1) (tq 1));go_simp;refine hK.out _ _ trivial ⟨by simpa using hz,⟨zer hzi p1,zer hzi p2,zer hzi p3,zer hzi p4,zer hzi p5,zer hzi p8,zer hzi p9,zer hzi p10,zer hzi p11,zer hzi p12,zer hzi p15,zer hzi p16,zer hzi p17,zer hzi p18,zer hzi p19,zer hzi p22,zer hzi p23,zer hzi p25,zer hzi p26,zer hzi p28,zer hzi p29,zer hzi p31,zer hzi p32,zer hzi p34,zer hzi p35⟩,hd.grown g2 hd.size (fun q hq=>by injection hq with hq;subst hq;exact m2),v2,_,v9,_,v21,v32,kb,pt,tq,rfl,fun h=>⟨rfl,m2,?_⟩,fun h=>(by rw[zes hzi (by decide),d0]at h;cases h),fun h=>(by rw[zes hzi (by decide)]at h;exact⟨(hc6 h).1,(hc6 h).2.map m3 g2⟩),fun h=>(by rw[zes hzi (by decide)]at h⊢;exact hi7 h),fun h=>⟨rfl,hbx.map m3 g2⟩,fun h=>(by rw[zes hzi (by decide)];exact d1),fun h=>(by rw[zes hzi (by decide)]at h;exact⟨(hc20 h).1,(hc20 h).2.map m3 g2⟩),fun h=>(by rw[zes hzi (by decide)]at h⊢;exact hi21 h),fun h=>(by rw[zes hzi (by decide)]at h⊢;exact h37 h),fun h=>(by rw[zes hzi (by decide)]at h⊢;exact h38 h)⟩;rw[e1];exact h2.ext fun s=>zmd (k:=1) (x:=zlF) rfl e2 e3 s
  ·rw[p15]at hr1;cases hr1
  ·rw[p16]at hr1;cases hr1
  ·rw[p17]at hr1;cases hr1
  ·rw[p18]at hr1;cases hr1
  ·rw[p19]at hr1;cases hr1
  ·obtain rfl:=Option.some.inj ho;obtain⟨e1,e2⟩:=zfq hzi (by decide);have hal:Below w1.heap.size w1 ((w1.alloc (.cells #[.pointer (some ⟨B,0,none⟩)] 85)).alloc (.cells #[.pointer (some ⟨B,3,none⟩)] 136)):=((Below.refl _ _).alloc (Nat.le_refl _) _).alloc (by simp) _
   have hnk:insL l 2=false:=by
    cases h:insL l 2 with
    |false=>rfl
    |true=>have:=hi21 h;rw[hr1]at this;cases this
   go_simp;refine(zdF B 3 w1).mono ?_;rintro e w2 ⟨rfl,rfl⟩;go_wp2_with fail;refine hK.out _ _ trivial ⟨by simpa using hz,⟨zer hzi p1,zer hzi p2,zer hzi p3,zer hzi p4,zer hzi p5,zer hzi p8,zer hzi p9,zer hzi p10,zer hzi p11,zer hzi p12,zer hzi p15,zer hzi p16,zer hzi p17,zer hzi p18,zer hzi p19,zer hzi p22,zer hzi p23,zer hzi p25,zer hzi p26,zer hzi p28,zer hzi p29,zer hzi p31,zer hzi p32,zer hzi p34,zer hzi p35⟩,hd.trans (hal.mono hd.size),v2,v3,v9,v15,_,v32,kb,(fun j=>if j=2 then w1.heap.size else pt j),(fun j=>if j=2 then w1.heap.size+1 else tq j),rfl,fun h=>?_,fun h=>(by rw[zes hzi (by decide)]at h;rw[e1];exact hM0 h),fun h=>(by rw[zes hzi (by decide)]at h;exact⟨(hc6 h).1,(hc6 h).2.below hal⟩),fun h=>(by rw[zes hzi (by decide)]at h⊢;exact hi7 h),fun h=>(by rw[zes hzi (by decide)]at h;exact⟨(hc13 h).1,(hc13 h).2.below hal⟩),fun h=>(by rw[zes hzi (by decide)]at h⊢;exact hi14 h),fun _=>⟨rfl,BxT.new B 3 w w1 hd.size⟩,fun h=>zeq hzi,fun h=>(by rw[zes hzi (by decide)]at h⊢;exact h37 h),fun h=>(by rw[zes hzi (by decide)]at h⊢;exact h38 h)⟩;rw[zes hzi (by decide)]at h;obtain⟨m1,m2,m3⟩:=hM h;refine⟨m1,m2,?_⟩;rw[e1,e2];exact((m3.alloc _).alloc _).ext fun s=>zmc hnk s
  ·obtain rfl:=Option.some.inj ho;have d0:=haft ⟨0,.data⟩ (by simp) rfl;have d1:=haft ⟨20,.data⟩ (by simp) rfl;obtain⟨ev,hbx⟩:=hc20 d1;subst ev;obtain⟨m1,m2,m3⟩:=hM d0;subst m1;obtain⟨e1,e2,e3⟩:=zfj hzi hr1
   have hnm:insN l<maxLen:=by
    have hb:∀b:Bool,b.toNat≤1:=by decide
    unfold insN maxLen;have:=hb (l.getD 7 false);have:=hb (l.getD 14 false);have:=hb (l.getD 21 false);have:=hb (l.getD 24 false);have:=hb (l.getD 27 false);have:=hb (l.getD 30 false);have:=hb (l.getD 33 false);have:=hb (l.getD 36 false);omega
   obtain⟨w2,r2,h2,g2⟩:=m3.put (t:=90) Tryz.underlying9 Tryz.underlying90 hnm (⟨#[36,99,111,109,109,101,110,116]⟩:ByteArray) (by unfold maxLen;decide) (txV (pt 2) (tq 2));go_simp;refine hK.out _ _ trivial ⟨by simpa using hz,⟨zer hzi p1,zer hzi p2,zer hzi p3,zer hzi p4,zer hzi p5,zer hzi p8,zer hzi p9,zer hzi p10,zer hzi p11,zer hzi p12,zer hzi p15,zer hzi p16,zer hzi p17,zer hzi p18,zer hzi p19,zer hzi p22,zer hzi p23,zer hzi p25,zer hzi p26,zer hzi p28,zer hzi p29,zer hzi p31,zer hzi p32,zer hzi p34,zer hzi p35⟩,hd.grown g2 hd.size (fun q hq=>by injection hq with hq;subst hq;exact m2),v2,_,v9,v15,_,v32,kb,pt,tq,rfl,fun h=>⟨rfl,m2,?_⟩,fun h=>(by rw[zes hzi (by decide),d0]at h;cases h),fun h=>(by rw[zes hzi (by decide)]at h;exact⟨(hc6 h).1,(hc6 h).2.map m3 g2⟩),fun h=>(by rw[zes hzi (by decide)]at h⊢;exact hi7 h),fun h=>(by rw[zes hzi (by decide)]at h;exact⟨(hc13 h).1,(hc13 h).2.map m3 g2⟩),fun h=>(by rw[zes hzi (by decide)]at h⊢;exact hi14 h),fun h=>⟨rfl,hbx.map m3 g2⟩,fun h=>(by rw[zes hzi (by decide)];exact d1),fun h=>(by rw[zes hzi (by decide)]at h⊢;exact h37 h),fun h=>(by rw[zes hzi (by decide)]at h⊢;exact h38 h)⟩;rw[e1];exact h2.ext fun s=>zmd (k:=2) (x:=zlv) rfl e2 e3 s
  ·rw[p22]at hr1;cases hr1
  ·rw[p23]at hr1;cases hr1
  ·obtain rfl:=Option.some.inj ho;have d0:=haft ⟨0,.data⟩ (by simp) rfl;obtain⟨m1,m2,m3⟩:=hM d0;subst m1;obtain⟨e1,e2,e3⟩:=zfk hzi hr1
   have hnm:insN l<maxLen:=by
    have hb:∀b:Bool,b.toNat≤1:=by decide
    unfold insN maxLen;have:=hb (l.getD 7 false);have:=hb (l.getD 14 false);have:=hb (l.getD 21 false);have:=hb (l.getD 24 false);have:=hb (l.getD 27 false);have:=hb (l.getD 30 false);have:=hb (l.getD 33 false);have:=hb (l.getD 36 false);omega
   obtain⟨w2,r2,h2,g2⟩:=m3.put (t:=90) Tryz.underlying9 Tryz.underlying90 hnm (⟨#[36,116,105,109,101,115,99,97,108,101]⟩:ByteArray) (by unfold maxLen;decide) (mB 89 B);go_simp;refine hK.out _ _ trivial ⟨by simpa using hz,⟨zer hzi p1,zer hzi p2,zer hzi p3,zer hzi p4,zer hzi p5,zer hzi p8,zer hzi p9,zer hzi p10,zer hzi p11,zer hzi p12,zer hzi p15,zer hzi p16,zer hzi p17,zer hzi p18,zer hzi p19,zer hzi p22,zer hzi p23,zer hzi p25,zer hzi p26,zer hzi p28,zer hzi p29,zer hzi p31,zer hzi p32,zer hzi p34,zer hzi p35⟩,hd.grown g2 hd.size (fun q hq=>by injection hq with hq;subst hq;exact m2),v2,_,v9,v15,v21,v32,kb,pt,tq,rfl,fun h=>⟨rfl,m2,?_⟩,fun h=>(by rw[zes hzi (by decide),d0]at h;cases h),fun h=>(by rw[zes hzi (by decide)]at h;exact⟨(hc6 h).1,(hc6 h).2.map m3 g2⟩),fun h=>(by rw[zes hzi (by decide)]at h⊢;exact hi7 h),fun h=>(by rw[zes hzi (by decide)]at h;exact⟨(hc13 h).1,(hc13 h).2.map m3 g2⟩),fun h=>(by rw[zes hzi (by decide)]at h⊢;exact hi14 h),fun h=>(by rw[zes hzi (by decide)]at h;exact⟨(hc20 h).1,(hc20 h).2.map m3 g2⟩),fun h=>(by rw[zes hzi (by decide)]at h⊢;exact hi21 h),fun h=>(by rw[zes hzi (by decide)]at h⊢;exact h37 h),fun h=>(by rw[zes hzi (by decide)]at h⊢;exact h38 h)⟩;rw[e1];exact h2.ext fun s=>zmd (k:=3) (x:=zlD) rfl e2 e3 s
  ·rw[p25]at hr1;cases hr1
  ·rw[p26]at hr1;cases hr1
  ·obtain rfl:=Option.some.inj ho;have d0:=haft ⟨0,.data⟩ (by simp) rfl;obtain⟨m1,m2,m3⟩:=hM d0;subst m1;obtain⟨e1,e2,e3⟩:=zfl hzi hr1
   have hnm:insN l<maxLen:=by
    have hb:∀b:Bool,b.toNat≤1:=by decide
    unfold insN maxLen;have:=hb (l.getD 7 false);have:=hb (l.getD 14 false);have:=hb (l.getD 21 false);have:=hb (l.getD 24 false);have:=hb (l.getD 27 false);have:=hb (l.getD 30 false);have:=hb (l.getD 33 false);have:=hb (l.getD 36 false);omega
   obtain⟨w2,r2,h2,g2⟩:=m3.put (t:=90) Tryz.underlying9 Tryz.underlying90 hnm (⟨#[36,115,99,111,112,101]⟩:ByteArray) (by unfold maxLen;decide) (mB 90 B);go_simp;refine hK.out _ _ trivial ⟨by simpa using hz,⟨zer hzi p1,zer hzi p2,zer hzi p3,zer hzi p4,zer hzi p5,zer hzi p8,zer hzi p9,zer hzi p10,zer hzi p11,zer hzi p12,zer hzi p15,zer hzi p16,zer hzi p17,zer hzi p18,zer hzi p19,zer hzi p22,zer hzi p23,zer hzi p25,zer hzi p26,zer hzi p28,zer hzi p29,zer hzi p31,zer hzi p32,zer hzi p34,zer hzi p35⟩,hd.grown g2 hd.size (fun q hq=>by injection hq with hq;subst hq;exact m2),v2,_,v9,v15,v21,v32,kb,pt,tq,rfl,fun h=>⟨rfl,m2,?_⟩,fun h=>(by rw[zes hzi (by decide),d0]at h;cases h),fun h=>(by rw[zes hzi (by decide)]at h;exact⟨(hc6 h).1,(hc6 h).2.map m3 g2⟩),fun h=>(by rw[zes hzi (by decide)]at h⊢;exact hi7 h),fun h=>(by rw[zes hzi (by decide)]at h;exact⟨(hc13 h).1,(hc13 h).2.map m3 g2⟩),fun h=>(by rw[zes hzi (by decide)]at h⊢;exact hi14 h),fun h=>(by rw[zes hzi (by decide)]at h;exact⟨(hc20 h).1,(hc20 h).2.map m3 g2⟩),fun h=>(by rw[zes hzi (by decide)]at h⊢;exact hi21 h),fun h=>(by rw[zes hzi (by decide)]at h⊢;exact h37 h),fun h=>(by rw[zes hzi (by decide)]at h⊢;exact h38 h)⟩;rw[e1];exact h2.ext fun s=>zmd (k:=4) (x:=zlC) rfl e2 e3 s
  ·rw[p28]at hr1;cases hr1
  ·rw[p29]at hr1;cases hr1
  ·obtain rfl:=Option.some.inj ho;have d0:=haft ⟨0,.data⟩ (by simp) rfl;obtain⟨m1,m2,m3⟩:=hM d0;subst m1;obtain⟨e1,e2,e3⟩:=zfm hzi hr1
   have hnm:insN l<maxLen:=by
    have hb:∀b:Bool,b.toNat≤1:=by decide
    unfold insN maxLen;have:=hb (l.getD 7 false);have:=hb (l.getD 14 false);have:=hb (l.getD 21 false);have:=hb (l.getD 24 false);have:=hb (l.getD 27 false);have:=hb (l.getD 30 false);have:=hb (l.getD 33 false);have:=hb (l.getD 36 false);omega
   obtain⟨w2,r2,h2,g2⟩:=m3.put (t:=90) Tryz.underlying9 Tryz.underlying90 hnm (⟨#[36,117,112,115,99,111,112,101]⟩:ByteArray) (by unfold maxLen;decide) (mB 91 B);go_simp;refine hK.out _ _ trivial ⟨by simpa using hz,⟨zer hzi p1,zer hzi p2,zer hzi p3,zer hzi p4,zer hzi p5,zer hzi p8,zer hzi p9,zer hzi p10,zer hzi p11,zer hzi p12,zer hzi p15,zer hzi p16,zer hzi p17,zer hzi p18,zer hzi p19,zer hzi p22,zer hzi p23,zer hzi p25,zer hzi p26,zer hzi p28,zer hzi p29,zer hzi p31,zer hzi p32,zer hzi p34,zer hzi p35⟩,hd.grown g2 hd.size (fun q hq=>by injection hq with hq;subst hq;exact m2),v2,_,v9,v15,v21,v32,kb,pt,tq,rfl,fun h=>⟨rfl,m2,?_⟩,fun h=>(by rw[zes hzi (by decide),d0]at h;cases h),fun h=>(by rw[zes hzi (by decide)]at h;exact⟨(hc6 h).1,(hc6 h).2.map m3 g2⟩),fun h=>(by rw[zes hzi (by decide)]at h⊢;exact hi7 h),fun h=>(by rw[zes hzi (by decide)]at h;exact⟨(hc13 h).1,(hc13 h).2.map m3 g2⟩),fun h=>(by rw[zes hzi (by decide)]at h⊢;exact hi14 h),fun h=>(by rw[zes hzi (by decide)]at h;exact⟨(hc20 h).1,(hc20 h).2.map m3 g2⟩),fun h=>(by rw[zes hzi (by decide)]at h⊢;exact hi21 h),fun h=>(by rw[zes hzi (by decide)]at h⊢;exact h37 h),fun h=>(by rw[zes hzi (by decide)]at h⊢;exact h38 h)⟩;rw[e1];exact h2.ext fun s=>zmd (k:=5) (x:=zlE) rfl e2 e3 s
  ·rw[p31]at hr1;cases hr1
  ·rw[p32]at hr1;cases hr1
  ·obtain rfl:=Option.some.inj ho;have d0:=haft ⟨0,.data⟩ (by simp) rfl;obtain⟨m1,m2,m3⟩:=hM d0;subst m1;obtain⟨e1,e2,e3⟩:=zfn hzi hr1
   have hnm:insN l<maxLen:=by
    have hb:∀b:Bool,b.toNat≤1:=by decide
    unfold insN maxLen;have:=hb (l.getD 7 false);have:=hb (l.getD 14 false);have:=hb (l.getD 21 false);have:=hb (l.getD 24 false);have:=hb (l.getD 27 false);have:=hb (l.getD 30 false);have:=hb (l.getD 33 false);have:=hb (l.getD 36 false);omega
   obtain⟨w2,r2,h2,g2⟩:=m3.put (t:=90) Tryz.underlying9 Tryz.underlying90 hnm (⟨#[36,118,97,114]⟩:ByteArray) (by unfold maxLen;decide) (mB 92 B);go_simp;refine hK.out _ _ trivial ⟨by simpa using hz,⟨zer hzi p1,zer hzi p2,zer hzi p3,zer hzi p4,zer hzi p5,zer hzi p8,zer hzi p9,zer hzi p10,zer hzi p11,zer hzi p12,zer hzi p15,zer hzi p16,zer hzi p17,zer hzi p18,zer hzi p19,zer hzi p22,zer hzi p23,zer hzi p25,zer hzi p26,zer hzi p28,zer hzi p29,zer hzi p31,zer hzi p32,zer hzi p34,zer hzi p35⟩,hd.grown g2 hd.size (fun q hq=>by injection hq with hq;subst hq;exact m2),v2,_,v9,v15,v21,v32,kb,pt,tq,rfl,fun h=>⟨rfl,m2,?_⟩,fun h=>(by rw[zes hzi (by decide),d0]at h;cases h),fun h=>(by rw[zes hzi (by decide)]at h;exact⟨(hc6 h).1,(hc6 h).2.map m3 g2⟩),fun h=>(by rw[zes hzi (by decide)]at h⊢;exact hi7 h),fun h=>(by rw[zes hzi (by decide)]at h;exact⟨(hc13 h).1,(hc13 h).2.map m3 g2⟩),fun h=>(by rw[zes hzi (by decide)]at h⊢;exact hi14 h),fun h=>(by rw[zes hzi (by decide)]at h;exact⟨(hc20 h).1,(hc20 h).2.map m3 g2⟩),fun h=>(by rw[zes hzi (by decide)]at h⊢;exact hi21 h),fun h=>(by rw[zes hzi (by decide)]at h⊢;exact h37 h),fun h=>(by rw[zes hzi (by decide)]at h⊢;exact h38 h)⟩;rw[e1];exact h2.ext fun s=>zmd (k:=6) (x:=sVar) rfl e2 e3 s
  ·rw[p34]at hr1;cases hr1
  ·rw[p35]at hr1;cases hr1
  ·obtain rfl:=Option.some.inj ho;have d0:=haft ⟨0,.data⟩ (by simp) rfl;obtain⟨m1,m2,m3⟩:=hM d0;subst m1;obtain⟨e1,e2,e3⟩:=zfo hzi hr1
   have hnm:insN l<maxLen:=by
    have hb:∀b:Bool,b.toNat≤1:=by decide
    unfold insN maxLen;have:=hb (l.getD 7 false);have:=hb (l.getD 14 false);have:=hb (l.getD 21 false);have:=hb (l.getD 24 false);have:=hb (l.getD 27 false);have:=hb (l.getD 30 false);have:=hb (l.getD 33 false);have:=hb (l.getD 36 false);omega
   obtain⟨w2,r2,h2,g2⟩:=m3.put (t:=90) Tryz.underlying9 Tryz.underlying90 hnm (⟨#[36,101,110,100,100,101,102,105,110,105,116,105,111,110,115]⟩:ByteArray) (by unfold maxLen;decide) (mB 93 B);go_simp;refine hK.out _ _ trivial ⟨by simpa using hz,⟨zer hzi p1,zer hzi p2,zer hzi p3,zer hzi p4,zer hzi p5,zer hzi p8,zer hzi p9,zer hzi p10,zer hzi p11,zer hzi p12,zer hzi p15,zer hzi p16,zer hzi p17,zer hzi p18,zer hzi p19,zer hzi p22,zer hzi p23,zer hzi p25,zer hzi p26,zer hzi p28,zer hzi p29,zer hzi p31,zer hzi p32,zer hzi p34,zer hzi p35⟩,hd.grown g2 hd.size (fun q hq=>by injection hq with hq;subst hq;exact m2),v2,_,v9,v15,v21,v32,kb,pt,tq,rfl,fun h=>⟨rfl,m2,?_⟩,fun h=>(by rw[zes hzi (by decide),d0]at h;cases h),fun h=>(by rw[zes hzi (by decide)]at h;exact⟨(hc6 h).1,(hc6 h).2.map m3 g2⟩),fun h=>(by rw[zes hzi (by decide)]at h⊢;exact hi7 h),fun h=>(by rw[zes hzi (by decide)]at h;exact⟨(hc13 h).1,(hc13 h).2.map m3 g2⟩),fun h=>(by rw[zes hzi (by decide)]at h⊢;exact hi14 h),fun h=>(by rw[zes hzi (by decide)]at h;exact⟨(hc20 h).1,(hc20 h).2.map m3 g2⟩),fun h=>(by rw[zes hzi (by decide)]at h⊢;exact hi21 h),fun h=>(by rw[zes hzi (by decide)]at h⊢;exact h37 h),fun h=>(by rw[zes hzi (by decide)]at h⊢;exact h38 h)⟩;rw[e1];exact h2.ext fun s=>zmd (k:=7) (x:=zlB) rfl e2 e3 s
  ·obtain rfl:=Option.some.inj ho;have d0:=haft ⟨0,.data⟩ (by simp) rfl;obtain⟨m1,m2,m3⟩:=hM d0;subst m1;obtain⟨e1,e2⟩:=zfq hzi (by decide);go_simp;refine hK.out _ _ trivial ⟨by simpa using hz,⟨zer hzi p1,zer hzi p2,zer hzi p3,zer hzi p4,zer hzi p5,zer hzi p8,zer hzi p9,zer hzi p10,zer hzi p11,zer hzi p12,zer hzi p15,zer hzi p16,zer hzi p17,zer hzi p18,zer hzi p19,zer hzi p22,zer hzi p23,zer hzi p25,zer hzi p26,zer hzi p28,zer hzi p29,zer hzi p31,zer hzi p32,zer hzi p34,zer hzi p35⟩,hd,v2,_,v9,v15,v21,_,kb,pt,tq,rfl,fun h=>⟨rfl,m2,by rw[e1,e2];exact m3⟩,fun h=>(by rw[zes hzi (by decide),d0]at h;cases h),fun h=>(by rw[zes hzi (by decide)]at h;exact hc6 h),fun h=>(by rw[zes hzi (by decide)]at h⊢;exact hi7 h),fun h=>(by rw[zes hzi (by decide)]at h;exact hc13 h),fun h=>(by rw[zes hzi (by decide)]at h⊢;exact hi14 h),fun h=>(by rw[zes hzi (by decide)]at h;exact hc20 h),fun h=>(by rw[zes hzi (by decide)]at h⊢;exact hi21 h),fun h=>⟨by rw[zes hzi (by decide)];exact d0,rfl⟩,fun h=>(by rw[zes hzi (by decide)]at h;have:=(h38 h).1;rw[hr1]at this;cases this)⟩
  ·obtain rfl:=Option.some.inj ho;have d37:=haft ⟨37,.data⟩ (by simp) rfl;obtain⟨q0,q1⟩:=h37 d37;subst q1;obtain⟨m1,m2,m3⟩:=hM q0;subst m1;obtain⟨e1,e2⟩:=zfq hzi (by decide);go_simp;refine hK.out _ _ trivial ⟨by simpa using hz,⟨zer hzi p1,zer hzi p2,zer hzi p3,zer hzi p4,zer hzi p5,zer hzi p8,zer hzi p9,zer hzi p10,zer hzi p11,zer hzi p12,zer hzi p15,zer hzi p16,zer hzi p17,zer hzi p18,zer hzi p19,zer hzi p22,zer hzi p23,zer hzi p25,zer hzi p26,zer hzi p28,zer hzi p29,zer hzi p31,zer hzi p32,zer hzi p34,zer hzi p35⟩,hd,.map (some kb),.map (some kb),v9,v15,v21,.map (some kb),kb,pt,tq,rfl,fun h=>(by rw[zes hzi (by decide)]at h;rw[e1,e2];exact hM h),fun h=>(by rw[zes hzi (by decide)]at h;rw[e1];exact hM0 h),fun h=>(by rw[zes hzi (by decide)]at h;exact hc6 h),fun h=>(by rw[zes hzi (by decide)]at h⊢;exact hi7 h),fun h=>(by rw[zes hzi (by decide)]at h;exact hc13 h),fun h=>(by rw[zes hzi (by decide)]at h⊢;exact hi14 h),fun h=>(by rw[zes hzi (by decide)]at h;exact hc20 h),fun h=>(by rw[zes hzi (by decide)]at h⊢;exact hi21 h),fun h=>(by rw[zes hzi (by decide)]at h⊢;exact⟨(h37 h).1,rfl⟩),fun h=>⟨by rw[zes hzi (by decide)];exact d37,rfl⟩⟩
 ·obtain⟨hz,hp,hd,v2,v3,v9,v15,v21,v32,kb,pt,tq,rfl,hM,hM0,hc6,hi7,hc13,hi14,hc20,hi21,h37,h38⟩:=hI;obtain⟨p1,p2,p3,p4,p5,p8,p9,p10,p11,p12,p15,p16,p17,p18,p19,p22,p23,p25,p26,p28,p29,p31,p32,p34,p35⟩:=hp;have hz':=hz;have g0:=zg2 hr hz (i:=0) rfl (fun e he _=>by simp at he)
  have g6:=zg2 hr hz (i:=6) rfl (fun e he _=>by
   simp at he;rcases he with rfl|rfl<;>assumption)
  have g13:=zg2 hr hz (i:=13) rfl (fun e he _=>by
   simp at he;rcases he with rfl|rfl|rfl<;>assumption)
  have g20:=zg2 hr hz (i:=20) rfl (fun e he _=>by
   simp at he;rcases he with rfl|rfl|rfl<;>assumption)
  have g7:=zg2 hr hz (i:=7) rfl (fun e he _=>by
   simp at he;rcases he with rfl|rfl<;>assumption)
  have g14:=zg2 hr hz (i:=14) rfl (fun e he _=>by
   simp at he;rcases he with rfl|rfl<;>assumption)
  have g21:=zg2 hr hz (i:=21) rfl (fun e he _=>by
   simp at he;rcases he with rfl|rfl<;>assumption)
  have g24:=zg2 hr hz (i:=24) rfl (fun e he _=>by
   simp at he;rcases he with rfl|rfl<;>assumption)
  have g27:=zg2 hr hz (i:=27) rfl (fun e he _=>by
   simp at he;rcases he with rfl|rfl<;>assumption)
  have g30:=zg2 hr hz (i:=30) rfl (fun e he _=>by
   simp at he;rcases he with rfl|rfl<;>assumption)
  have g33:=zg2 hr hz (i:=33) rfl (fun e he _=>by
   simp at he;rcases he with rfl|rfl<;>assumption)
  have g36:=zg2 hr hz (i:=36) rfl (fun e he _=>by
   simp at he;rcases he with rfl|rfl<;>assumption)
  have ha37:∀j,j<37→l.getD j false=true:=fun j hj=>by
   rcases(by omega:j=0∨j=1∨j=2∨j=3∨j=4∨j=5∨j=6∨j=7∨j=8∨j=9∨j=10∨j=11∨j=12∨j=13∨j=14∨j=15∨j=16∨j=17∨j=18∨j=19∨j=20∨j=21∨j=22∨j=23∨j=24∨j=25∨j=26∨j=27∨j=28∨j=29∨j=30∨j=31∨j=32∨j=33∨j=34∨j=35∨j=36)with rfl|rfl|rfl|rfl|rfl|rfl|rfl|rfl|rfl|rfl|rfl|rfl|rfl|rfl|rfl|rfl|rfl|rfl|rfl|rfl|rfl|rfl|rfl|rfl|rfl|rfl|rfl|rfl|rfl|rfl|rfl|rfl|rfl|rfl|rfl|rfl|rfl<;>assumption
  have g37:=zg1 hr hz (i:=37) (n:=37) rfl (by kernel_rfl) ha37
  have ha38:∀j,j<38→l.getD j false=true:=fun j hj=>by
   rcases Nat.lt_or_ge j 37 with h|h
   ·exact ha37 j h
   ·obtain rfl:j=37:=by omega
    exact g37
  have g38:=zg1 hr hz (i:=38) (n:=38) rfl (by kernel_rfl) ha38;obtain⟨m1,m2,m3⟩:=hM g0;obtain⟨-,e38⟩:=h38 g38;subst m1 e38;have HM:=lhd m3;have HC0:=lhd (hc6 g6).2;have HC1:=lhd (hc13 g13).2;have HC2:=lhd (hc20 g20).2;have HD:=lhd hd
  have HI:=lhd (show ∀k,k<8→insL l k=true from fun k hk=>by
   rcases(by omega:k=0∨k=1∨k=2∨k=3∨k=4∨k=5∨k=6∨k=7)with rfl|rfl|rfl|rfl|rfl|rfl|rfl|rfl<;>assumption)
  clear hM hM0 hc6 hc13 hc20 hi7 hi14 hi21 h37 h38 m3 hd hr ha37 ha38;go_wp2_with fail;go_ret;refine⟨kb,_,pt,tq,rfl,m2,HM.out.ext fun s=>?_,HC0.out,HC1.out,HC2.out,HD.out⟩;unfold secF;cases hf:secL.findIdx? (fun y=>decide (y=s))with
  |none=>rfl
  |some j=>
   dsimp only;rw[HI.out j (List.findIdx?_eq_some_iff_getElem.1 hf).1]
 ·exact fun l a w1 hI=>hI.z
 ·exact⟨by decide+kernel,⟨by decide+kernel,by decide+kernel,by decide+kernel,by decide+kernel,by decide+kernel,by decide+kernel,by decide+kernel,by decide+kernel,by decide+kernel,by decide+kernel,by decide+kernel,by decide+kernel,by decide+kernel,by decide+kernel,by decide+kernel,by decide+kernel,by decide+kernel,by decide+kernel,by decide+kernel,by decide+kernel,by decide+kernel,by decide+kernel,by decide+kernel,by decide+kernel,by decide+kernel⟩,(Below.refl _ _).drew,_,_,_,_,_,_,0,fun _=>0,fun _=>0,rfl,fun h=>absurd h (by decide+kernel),fun _=>by decide+kernel,fun h=>absurd h (by decide+kernel),fun h=>absurd h (by decide+kernel),fun h=>absurd h (by decide+kernel),fun h=>absurd h (by decide+kernel),fun h=>absurd h (by decide+kernel),fun h=>absurd h (by decide+kernel),fun h=>absurd h (by decide+kernel),fun h=>absurd h (by decide+kernel)⟩
end Go.Proofs.YtcdekelomkcahaaGreatDoor
