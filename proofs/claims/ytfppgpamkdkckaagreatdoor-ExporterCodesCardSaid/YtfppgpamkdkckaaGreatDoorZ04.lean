import Derived.Test.YtfppgpamkdkckaaGreatDoorZ00
import Derived.BigQuiet
import Derived.BigRegion
import Derived.Deep.DeepCutAuto
import Derived.Deep.QuietTactic
import Derived.Deep.RegionHeld3
import Derived.Laws.EntriesVeiled
import Derived.Laws.RangeAny
import Derived.Laws.Runes
import Derived.Laws.Strings
import Derived.Lib.AppendIntMem
import Derived.Lib.AppendStr
import Derived.Lib.ItoaLen
import Derived.Lib.ItoaNum
import Derived.Lib.Strings
import Derived.Test.YtfppgpamkdkckaaGreatDoorZ01
import Derived.Test.YtfppgpamkdkckaaGreatDoorZ02
set_option maxRecDepth 100000
set_option maxHeartbeats 16000000
namespace Go.Proofs.YtfppgpamkdkckaaGreatDoor
abbrev Bs:=List UInt8
def isW (c:UInt8):Bool:=decide (c=32)||(decide (9≤c.toNat)&&decide (c.toNat≤13))
def zir (l:Bs):Bs:=l++ [10]
def prn (c:UInt8):Bool:=decide (33≤c.toNat)&&decide (c.toNat≤126)
theorem zmz {c:UInt8} (h:prn c=true):isW c=false:=by
 unfold prn at h;rw[Bool.and_eq_true,decide_eq_true_iff,decide_eq_true_iff]at h;unfold isW;rw[Bool.or_eq_false_iff,Bool.and_eq_false_iff,decide_eq_false_iff_not,decide_eq_false_iff_not,decide_eq_false_iff_not];refine⟨fun e=>?_,.inr (by omega)⟩;subst e;have:(32:UInt8).toNat=32:=rfl;omega
def hexd (n:Nat):UInt8:=if n<10 then UInt8.ofNat (48+n)else UInt8.ofNat (87+n)
def quoC (c:UInt8):Bs:=if c=92 then [92,92]else if c.toNat<33∨126<c.toNat then [92,120,hexd (c.toNat/16),hexd (c.toNat % 16)]else [c]
def quoL (s:Bs):Bs:=s.flatMap quoC
def hexv (c:UInt8):Option Nat:=if 48≤c.toNat∧c.toNat≤57 then some (c.toNat-48)else if 97≤c.toNat∧c.toNat≤102 then some (c.toNat-87)else none
def unqF:Bs→Option (UInt8×Bs)
 | []=>none
 |c::t=>if c=92 then(match t with
   | []=>none
   |d::r=>if d=92 then some (92,r)else if d=120 then(match r with
     |h::l::r'=>(match hexv h,hexv l with
       |some a,some b=>some (UInt8.ofNat (16*a+b),r')
       |_,_=>none)
     |_=>none)else none)
  else if prn c=true then some (c,t)else none
theorem zrv {s r:Bs} {c:UInt8} (h:unqF s=some (c,r)):r.length<s.length:=by
 unfold unqF at h;split at h
 ·cases h
 ·rename_i c' t
  split at h
  ·split at h
   ·cases h
   ·rename_i d r2
    split at h
    ·injection h with h;injection h with _ h;subst h;simp;omega
    ·split at h
     ·split at h
      ·split at h
       ·injection h with h;injection h with _ h;subst h;simp;omega
       ·cases h
      ·cases h
     ·cases h
  ·split at h
   ·injection h with h;injection h with _ h;subst h;simp
   ·cases h
def unqL (s:Bs):Option Bs:=
 if s=[]then some []else
 match _h:unqF s with
 |none=>none
 |some (c,r)=>(unqL r).map (c:: ·)
termination_by s.length
decreasing_by exact zrv _h
theorem zrw:unqL []=some []:=by rw[unqL,if_pos rfl]
theorem zrx {s r:Bs} {c:UInt8} (hs:s≠ []) (h:unqF s=some (c,r)):unqL s=(unqL r).map (c:: ·):=by
 rw[unqL,if_neg hs];split
 ·rename_i h2;rw[h]at h2;cases h2
 ·rename_i h2;rw[h]at h2;injection h2 with h2;injection h2 with e1 e2;subst e1 e2;rfl
def unqR (s:Bs):Bs×Int:=match unqL s with
 |none=>([],3)
 |some o=>if 64<o.length then([],9)else(o,0)
theorem zgp:∀n:Fin 16,hexv (hexd n.val)=some n.val∧prn (hexd n.val)=true:=by decide
theorem zgq {n:Nat} (h:n<16):hexv (hexd n)=some n:=(zgp ⟨n,h⟩).1
theorem zmw {n:Nat} (h:n<16):prn (hexd n)=true:=(zgp ⟨n,h⟩).2
theorem zmL (c:UInt8):quoC c≠ []:=by
 unfold quoC;split
 ·simp
 ·split<;>simp
theorem zrB (c:UInt8) (t:Bs):unqF (quoC c++t)=some (c,t):=by
 unfold quoC;split
 ·rename_i h;subst h;rfl
 ·rename_i h
  have hc:=c.toNat_lt;split
  ·show(match hexv (hexd (c.toNat/16)),hexv (hexd (c.toNat % 16))with
    |some a,some b=>some (UInt8.ofNat (16*a+b),t)
    |_,_=>none)=some (c,t)
   rw[zgq (by omega),zgq (by omega)];dsimp only;rw[show 16*(c.toNat/16)+c.toNat % 16=c.toNat by omega,UInt8.ofNat_toNat]
  ·rename_i h2
   show(if c=92 then _ else if prn c=true then some (c,t)else none)=some (c,t);rw[if_neg h,if_pos];unfold prn;rw[Bool.and_eq_true,decide_eq_true_iff,decide_eq_true_iff];omega
theorem zrA:∀s:Bs,unqL (quoL s)=some s
 | []=>zrw
 |c::s=>by
  show unqL (quoC c++quoL s)=_;rw[zrx (fun h=>zmL c (List.append_eq_nil_iff.1 h).1) (zrB c (quoL s)),zrA s];rfl
theorem zrz {s:Bs} (h:s.length≤64):unqR (quoL s)=(s,0):=by
 unfold unqR;rw[zrA];dsimp only;rw[if_neg (by omega)]
theorem zry {s v:Bs} (h:unqR s=(v,0)):v.length≤64:=by
 unfold unqR at h;split at h
 ·cases h
 ·split at h
  ·cases h
  ·injection h with h _;subst h;omega
theorem zmy {s:Bs} {c:UInt8} (h:c∈quoL s):prn c=true:=by
 unfold quoL at h;rw[List.mem_flatMap]at h;obtain⟨d,-,h⟩:=h;unfold quoC at h;have hd:=d.toNat_lt;split at h
 ·simp at h;subst h;decide
 ·split at h
  ·simp at h;rcases h with rfl|rfl|rfl|rfl
   ·decide
   ·decide
   ·exact zmw (by omega)
   ·exact zmw (by omega)
  ·simp at h;subst h;unfold prn;rw[Bool.and_eq_true,decide_eq_true_iff,decide_eq_true_iff];omega
def shoL:Bs→Bs
 |c::d::t=>if(c=d∧c≠49)∨(c=48∧d=49)then shoL (d::t)else c::d::t
 |s=>s
def frD (s:Bs):UInt8:=match s with
 | []=>0
 |c::_=>if c=49 then 48 else c
def extB (n:Nat) (s:Bs):Bs:=List.replicate (n-s.length) (frD s)++s
theorem zoM:∀s:Bs,(shoL s).length≤s.length
 | []=>Nat.le_refl _
 | [c]=>Nat.le_refl _
 |c::d::t=>by
  unfold shoL;split
  ·have:=zoM (d::t);simp at this⊢;omega
  ·exact Nat.le_refl _
theorem zoO:∀{s:Bs},s≠ []→shoL s≠ []
 | [],h=>absurd rfl h
 | [c],_=>by simp[shoL]
 |c::d::t,_=>by
  unfold shoL;split
  ·exact zoO (by simp)
  ·simp
theorem zoN:∀{s:Bs} {c:UInt8},c∈shoL s→c∈s
 | [],_,h=>h
 | [c],_,h=>h
 |c::d::t,x,h=>by
  unfold shoL at h;split at h
  ·exact List.mem_cons_of_mem _ (zoN h)
  ·exact h
theorem zfi:∀s:Bs,extB s.length (shoL s)=s∧frD (shoL s)=frD s
 | []=>⟨rfl,rfl⟩
 | [c]=>by
   refine⟨?_,rfl⟩;show List.replicate (1-1) _++ [c]=[c];rfl
 |c::d::t=>by
  obtain⟨h1,h2⟩:=zfi (d::t);have hl:=zoM (d::t);unfold shoL;split
  ·rename_i hc
   have hf:frD (d::t)=c∧frD (c::d::t)=c:=by
    rcases hc with⟨rfl,hc⟩|⟨rfl,rfl⟩
    ·simp[frD,hc]
    ·simp[frD]
   refine⟨?_,by rw[h2,hf.1,hf.2]⟩;unfold extB at h1⊢;rw[h2,hf.1]at h1⊢;rw[show(c::d::t).length-(shoL (d::t)).length=((d::t).length-(shoL (d::t)).length)+1 by simp at hl⊢;omega,List.replicate_succ,List.cons_append,h1]
  ·refine⟨?_,rfl⟩;unfold extB;rw[Nat.sub_self];rfl
theorem zfh (s:Bs):extB s.length (shoL s)=s:=(zfi s).1
def bsB (l:Bs):ByteArray:=⟨l.toArray⟩
theorem zbq (l:Bs):(bsB l).data.toList=l:=by simp[bsB]
theorem zbt (l:Bs):(bsB l).size=l.length:=by simp[bsB,ByteArray.size]
theorem zbs (s:ByteArray):bsB s.data.toList=s:=by cases s;simp[bsB]
theorem zbp (v:Bs):(bsB v).toList.isEmpty=decide (v=[]):=by
 rw[ByteArray.toList_eq,zbq];cases v with
 |nil=>rfl
 |cons a l=>rfl
theorem zbr {c c':Bs} (h:c≠c'):((bsB c).toList==(bsB c').toList)=false:=by
 rw[ByteArray.toList_eq,ByteArray.toList_eq,zbq,zbq,beq_eq_false_iff_ne];exact h
def isD (c:UInt8):Bool:=decide (48≤c.toNat)&&decide (c.toNat≤57)
def decN (l:Bs):Nat:=l.foldl (fun n c=>10*n+(c.toNat-48)) 0
def zqy (s:Bs):Option Int:=if s=[]∨15<s.length∨s.all isD=false then none else some (decN s:Int)
theorem zea:∀d:Fin 10,isD (UInt8.ofNat (48+d.val))=true∧(UInt8.ofNat (48+d.val)).toNat-48=d.val:=by decide
theorem zhi {c:UInt8} (h:isD c=true):isW c=false:=by
 unfold isD at h;rw[Bool.and_eq_true,decide_eq_true_iff,decide_eq_true_iff]at h;exact zmz (by unfold prn;rw[Bool.and_eq_true,decide_eq_true_iff,decide_eq_true_iff];omega)
theorem zdF (u:Nat):(Lib.decDigits u).all isD=true:=by
 induction u using Nat.strongRecOn with
 |_ u ih=>
  rw[Lib.decDigits];split
  ·rename_i h
   rw[List.all_cons,(zea ⟨u,h⟩).1];rfl
  ·rw[List.all_append,ih (u/10) (by omega),List.all_cons,(zea ⟨u % 10,by omega⟩).1];rfl
theorem zdG (u:Nat):Lib.decDigits u≠ []:=by
 intro h;have h1:=congrArg List.length h;rw[Lib.decDigits_length]at h1;have:=Lib.nDigits_pos u;simp at h1;omega
theorem zje:∀(k u:Nat),u<10^(k+1)→Lib.nDigits u≤k+1
 |0,u,h=>by rw[Lib.nDigits_small (by simpa using h)];exact Nat.le_refl _
 |k+1,u,h=>by
  by_cases h1:u<10
  ·rw[Lib.nDigits_small h1];omega
  ·rw[Lib.nDigits_big h1];have:=zje k (u/10) (by rw[Nat.pow_succ]at h;omega);omega
structure Vals where
 vt:Int→Int→Bool
 vv:Int→Int→Bs→Bool
 vi:Int→Int→Bs
 par:Int→Int→Bs→Bs×Int
 fmt:Int→Int→Bs→Bs
def codeOk (id:Bs):Bool:=!decide (id=[])&&decide (id.length≤8)&&id.all prn&&!decide (id=[36,101,110,100])
structure ValsOk (V:Vals):Prop where
 par_fmt:∀k n v,V.vt k n=true→V.vv k n v=true→V.par k n (V.fmt k n v)=(v,0)
 par_ok:∀k n t v,V.par k n t=(v,0)→V.vv k n v=true
 vi_ok:∀k n,V.vt k n=true→V.vv k n (V.vi k n)=true
 solid:∀k n v,V.vt k n=true→V.vv k n v=true→∀c∈V.fmt k n v,isW c=false
 one:∀v,V.vv 0 1 v=true→V.fmt 0 1 v=[48]∨V.fmt 0 1 v=[49]∨V.fmt 0 1 v=[120]∨V.fmt 0 1 v=[122]
 ev:∀n v,V.fmt 3 n v=[49]
 kind:∀k n,V.vt k n=true→k=0∨k=1∨k=2∨k=3
 vt_vv:∀k n v,V.vv k n v=true→V.vt k n=true
abbrev Dc:=Bs×Int×Int
abbrev Wd:=Bs×Int×Int×Int
abbrev Rc:=Int×Int×Bs×Bs
abbrev Pb:=Int×Int×Int×Int
def letter (k:Int):UInt8:=if k=0 then 98 else if k=1 then 114 else 115
def zoQ (k n:Int):Bool:=decide (k=3)||(decide (k=0)&&decide (n=1))
def cmdL (V:Vals) (k n:Int) (v id:Bs):Bs:=
 if(V.vt k n&&V.vv k n v&&codeOk id)=true then(if zoQ k n=true then V.fmt k n v++id else letter k::V.fmt k n v++32::id)else []
def cnt (V:Vals) (x:Dc):Bool:=V.vt x.2.1 x.2.2&&codeOk x.1
def knL (V:Vals) (l:List Dc) (c:Bs):Option Dc:=l.find? fun x=>cnt V x&&decide (x.1=c)
structure PS where
 last:Int
 off:Bool
 opn:Bool
 skip:Bool
 out:List Rc
 wrong:List Pb
deriving DecidableEq
def PS.prob (s:PS) (e:Int) (w:Wd):PS:={s with wrong:=s.wrong++ [(e,w.2.1,w.2.2.1,w.2.2.2)]}
def PS.put (s:PS) (r:Rc):PS:=if s.skip=true then s else{s with out:=s.out++ [r]}
def zqx (s:PS) (w:Wd):PS:=match zqy (w.1.drop 1)with
 |none=>{s with skip:=true}.prob 3 w
 |some t=>if t>1099511627776∨t<s.last then{s with skip:=true}.prob 2 w else{s with skip:=false,last:=t}.put (0,t,[],[])
def zet (s:PS) (w:Wd):PS:={(if s.opn=true then s.prob 10 w else s)with opn:=true}.put (4,0,[],[])
def zrh (s:PS) (w:Wd) (o:Bool):PS:=
 let s1:PS:={(if(s.opn||(s.off==o))=true then s.prob 10 w else s)with opn:=true}
 if((s.off==o)||s.skip)=true then s1 else{s1 with off:=o}.put (if o=true then 2 else 3,0,[],[])
def endP (s:PS) (w:Wd):PS:={(if s.opn=true then s else s.prob 3 w)with opn:=false}
def zb3 (V:Vals) (K:Bs→Option Dc) (s:PS) (w h:Wd) (code text:Bs) (kinds:List Int):PS:=
 if s.skip=true then s else
 match K code with
 |none=>s.prob 4 h
 |some x=>
  if kinds.contains x.2.1=false then s.prob 7 w else
  if(V.par x.2.1 x.2.2 text).2≠0 then s.prob (V.par x.2.1 x.2.2 text).2 w else
  if s.off=true∧x.2.1=0 then(if(V.par x.2.1 x.2.2 text).1=V.vi x.2.1 x.2.2 then s else s.prob 10 w)
  else s.put (1,0,code,(V.par x.2.1 x.2.2 text).1)
def behind:List Wd→Option (List Wd)
 | []=>none
 |w::t=>if w.1=[36,101,110,100]then some t else behind t
def zoh (s:PS) (w:Wd) (t:List Wd):PS×List Wd:=match behind t with
 |none=>(s.prob 3 w,[])
 |some r=>(if w.1=[36,99,111,109,109,101,110,116]then s else s.prob 3 w,r)
def znN (c:UInt8):Bool:=c==48||c==49||c==120||c==122||c==88||c==90
def vecK (c:UInt8):Option Int:=if c=98∨c=66 then some 0 else if c=114∨c=82 then some 1 else if c=115∨c=83 then some 2 else none
def znx:Bs:=[36,100,117,109,112,118,97,114,115]
def znu:Bs:=[36,100,117,109,112,97,108,108]
def znv:Bs:=[36,100,117,109,112,111,102,102]
def znw:Bs:=[36,100,117,109,112,111,110]
def sEnd:Bs:=[36,101,110,100]
def zlT (V:Vals) (K:Bs→Option Dc) (s:PS) (w:Wd) (t:List Wd):PS×List Wd:=
 match w.1 with
 | []=>(s.prob 3 w,t)
 |c::u=>
  if c=35 then(zqx s w,t)
  else if c=36 then
   (if c::u=znx∨c::u=znu then(zet s w,t)
    else if c::u=znv then(zrh s w true,t)
    else if c::u=znw then(zrh s w false,t)
    else if c::u=sEnd then(endP s w,t)
    else zoh s w t)
  else if znN c=true then
   (if u=[]then(if s.skip=true then s else s.prob 3 w,t)else(zb3 V K s w w u [c] [0,3],t))
  else match vecK c with
   |none=>(s.prob 3 w,t)
   |some k=>match t with
    | []=>(if s.skip=true then s else s.prob 3 w,[])
    |h::t'=>(zb3 V K s w h h.1 u [k],t')
theorem za4:∀{t r:List Wd},behind t=some r→r.length<t.length
 | [],r,h=>by cases h
 |w::t,r,h=>by
  unfold behind at h;split at h
  ·injection h with h;subst h;simp
  ·have:=za4 h;simp;omega
theorem zlU (V:Vals) (K:Bs→Option Dc) (s:PS) (w:Wd) (t:List Wd):(zlT V K s w t).2.length≤t.length:=by
 unfold zlT;split
 ·exact Nat.le_refl _
 ·split
  ·exact Nat.le_refl _
  ·split
   ·split
    ·exact Nat.le_refl _
    ·split
     ·exact Nat.le_refl _
     ·split
      ·exact Nat.le_refl _
      ·split
       ·exact Nat.le_refl _
       ·unfold zoh;split
        ·simp
        ·rename_i h;have:=za4 h;simp;omega
   ·split
    ·split<;>exact Nat.le_refl _
    ·split
     ·exact Nat.le_refl _
     ·split<;>simp
def pRun (V:Vals) (K:Bs→Option Dc) (s:PS):List Wd→PS
 | []=>s
 |w::t=>pRun V K (zlT V K s w t).1 (zlT V K s w t).2
termination_by ws=>ws.length
decreasing_by have:=zlU V K s w t;simp;omega
theorem zlS (V:Vals) (K:Bs→Option Dc) (s:PS):pRun V K s []=s:=by rw[pRun]
theorem zlR (V:Vals) (K:Bs→Option Dc) (s:PS) (w:Wd) (t:List Wd):pRun V K s (w::t)=pRun V K (zlT V K s w t).1 (zlT V K s w t).2:=by rw[pRun]
def zsz (V:Vals) (K:Bs→Option Dc):Int→Bool→List Rc→Bool
 |_,_,[]=>true
 |last,off,r::t=>
  if r.1=0 then(decide (r.2.2=([],[]))&&!decide (r.2.1<last)&&decide (r.2.1≤1099511627776))&&zsz V K r.2.1 off t
  else if r.1=1 then(match K r.2.2.1 with
   |none=>false
   |some x=>(decide (r.2.1=0)&&!decide (cmdL V x.2.1 x.2.2 r.2.2.2 r.2.2.1=[])&&!(off&&decide (x.2.1=0)))&&zsz V K last off t)
  else if r.1=2∨r.1=3 then(decide (r.2=(0,[],[]))&&(off !=decide (r.1=2)))&&zsz V K last (!off) t
  else if r.1=4 then decide (r.2=(0,[],[]))&&zsz V K last off t
  else false
def cmdK (V:Vals) (K:Bs→Option Dc) (r:Rc):Bs:=match K r.2.2.1 with
 |none=> []
 |some x=>cmdL V x.2.1 x.2.2 r.2.2.2 r.2.2.1
def zkG (V:Vals):List Bs→List Dc→List Bs
 |_,[]=> []
 |done,x::t=>
  if cnt V x=true then
   (if x.2.1=0∧x.1∉done then cmdL V x.2.1 x.2.2 (V.vi x.2.1 x.2.2) x.1::zkG V (x.1::done) t else zkG V (x.1::done) t)
  else zkG V done t
def zmY (V:Vals) (K:Bs→Option Dc) (l:List Dc) (r:Rc):List Bs:=
 if r.1=0 then [35::Lib.itoa r.2.1]
 else if r.1=1 then [cmdK V K r]
 else if r.1=2 then znv::zkG V [] l++ [sEnd]
 else if r.1=3 then [znw]
 else [znx]
def zk6 (r:Rc) (o:Bool):Bool:=if r.1=1 then o else decide (r.1=3)||decide (r.1=4)
def zfC (V:Vals) (K:Bs→Option Dc) (l:List Dc):Bool→List Rc→List Bs
 |o,[]=>if o=true then [sEnd]else []
 |o,r::t=>(if o=true∧r.1≠1 then [sEnd]else [])++zmY V K l r++zfC V K l (zk6 r o) t
def ziu (L:List Bs):Bs:=L.flatMap zir
def zfM (V:Vals) (l:List Dc) (rs:List Rc):Bs:=if zsz V (knL V l) 0 false rs=true then ziu (zfC V (knL V l) l false rs)else []
open Go.RowKit
def allR (n:Int) (c:UInt8):ByteArray:=if n<1∨128<n∨codeOf c= -1 then⟨#[]⟩else⟨(List.replicate n.toNat c).toArray⟩
theorem repeatL_one (c:UInt8) (n:Nat):Lib.repeatL [c] n=List.replicate n c:=by
 induction n with
 |zero=>rfl
 |succ n ih=>rw[Lib.repeatL,ih];rfl
theorem one_byte (P:Program) (w:World) (src dst e:TypeId) (c:UInt8) (hs:P.underlying src=some (.slice e)) (he:P.underlying e=some (.int .u8)) (hd:P.underlying dst=some .string):
 (convert src dst (.slice (some ⟨w.heap.size,0,none⟩) 1 1)).run P (w.alloc (.cells #[.int .u8 c.toNat] e))=.ok (.string ⟨#[c]⟩) (w.alloc (.cells #[.int .u8 c.toNat] e)):=by
 have:=run_convert_bytes_back (P:=P) (w.alloc (.cells #[.int .u8 c.toNat] e)) src dst e ⟨w.heap.size,0,none⟩ 1 [c] hs he hd (fun j hj=>by
  simp at hj;subst hj;rw[addr_add,World.cell?_alloc_mark];rfl)
 exact this
theorem zbe (n:Int) (c:UInt8) (w:World):
 Calls Tryz.prog 224 #[.int .i64 n,.int .u8 c.toNat] w fun e w'=>e=.returned (.string (allR n c))∧Below w.heap.size w w':=by
 by_cases h1:n<1∨128<n
 ·have e:allR n c=⟨#[]⟩:=by rw[allR,if_pos];omega
  have E:=lhd e;clear e;rcases h1 with h1|h1
  all_goals
   go_enter Tryz.func224,Tryz.ntmps224;go_wp2_with fail;go_ret;exact⟨znf E.out.symm,Below.refl _ _⟩
 obtain⟨g1,g2⟩:1≤n∧n≤128:=by omega
 clear h1;by_cases h2:codeOf c= -1
 ·have e:allR n c=⟨#[]⟩:=by rw[allR,if_pos];omega
  have E:=lhd e;have h3:(codeOf c != -1)=false:=by simp[h2]
  clear e h2;go_enter Tryz.func224,Tryz.ntmps224;go_wp2_with fail;refine(ziH _ _).mono ?_;rintro e w' ⟨rfl,rfl⟩;go_wp2_with fail;go_ret;exact⟨znf E.out.symm,Below.refl _ _⟩
 ·have e:allR n c=⟨(List.replicate n.toNat c).toArray⟩:=by rw[allR,if_neg];omega
  have E:=lhd e;have h3:(codeOf c != -1)=true:=by simp[h2]
  clear e h2;obtain⟨k,rfl⟩:=Int.eq_ofNat_of_zero_le (show 0≤n by omega);have hcb:=one_byte Tryz.prog w 62 9 5 c Tryz.underlying62 Tryz.underlying5 Tryz.underlying9;go_enter Tryz.func224,Tryz.ntmps224;go_wp2_with fail;refine(ziH _ _).mono ?_;rintro e w' ⟨rfl,rfl⟩;go_wp2_with fail;refine(Tryz.strings_Repeat ⟨#[c]⟩ k _ (by omega) (by simp[ByteArray.size];omega)).mono ?_;rintro e w1 ⟨rfl,hb⟩;go_wp2_with fail;go_ret;exact⟨znf (by rw[E.out,Int.toNat_natCast,repeatL_one]),((Below.refl _ _).alloc (Nat.le_refl _) _).trans (hb.mono (by simp))⟩
def zpQ:Value→Nat| .string s=>s.size|_=>0
theorem drop1 {v:ByteArray}:(v.extract 1 v.size).data.toList=v.data.toList.drop 1:=by
 rw[Lib.extract_data];rw[List.take_of_length_le (by simp)]
theorem zoL {v:ByteArray} (h:1<v.size):v.data.toList=v[0]::v[1]::v.data.toList.drop 2:=by
 have hl:v.data.toList.length=v.size:=by simp
 have e0:v.data.toList[0]'(by omega)=v[0]:=by simp;rfl
 have e1:v.data.toList[1]'(by omega)=v[1]:=by simp;rfl
 rw[←e0,←e1,←List.drop_eq_getElem_cons (by omega)];rw[←List.drop_eq_getElem_cons (by omega)];rfl
def shoB (s:ByteArray):ByteArray:=bsB (shoL s.data.toList)
theorem zbf (s:ByteArray) (w:World) (hs:bvIs s=true):Calls Tryz.prog 226 #[.string s] w fun e w'=>e=.returned (.string (shoB s))∧Below w.heap.size w w':=by
 have hbd:1≤s.size∧s.size≤128:=by
  unfold bvIs at hs;rw[Bool.and_eq_true,Bool.and_eq_true,decide_eq_true_iff,decide_eq_true_iff]at hs;exact hs.1
 have HI:=lhd (zbi s w (by unfold maxLen;omega));rw[hs]at HI;obtain⟨h1,h2⟩:=hbd;clear hs;go_enter Tryz.func226,Tryz.ntmps226;go_wp2_with fail;refine HI.out.mono ?_;rintro e w1 ⟨rfl,hb⟩;have HB1:=lhd hb;clear hb;go_wp2_with fail;go_loopw [0] (fun v_ wr=>∃v:ByteArray,v_=.string v∧shoL v.data.toList=shoL s.data.toList∧(1≤v.size∧v.size≤128)∧Below w.heap.size w wr) (fun v_ _=>zpQ v_)
 case atStart=>exact⟨s,rfl,rfl,⟨h1,h2⟩,HB1.out⟩
 case round=>
  obtain⟨v,rfl,hsh,⟨v1,v2⟩,hb⟩:=hrel;have HB:=lhd hb;have HSL:=lhd hsh;clear hb hsh HB1;by_cases hv:1<v.size
  ·have hvd:decide ((v.size:Int)>1)=true:=by rw[decide_eq_true_iff];omega
   have hvn:decide (1<v.size)=true:=by rw[decide_eq_true_iff];exact hv
   have hc:=zoL hv;have hp0:0<v.size:=by omega
   have hpi0:(0:Int)<(v.size:Int):=by omega
   have hpi1:(1:Int)<(v.size:Int):=by omega
   have HSZ:=lhd (show 1≤(v.extract 1 v.size).size∧(v.extract 1 v.size).size≤128 by simp;omega);have hq:=HSL.out;rw[hc]at hq;have hd1:v.data.toList.drop 1=v[1]::v.data.toList.drop 2:=by rw[hc];rfl
   have HD1:=lhd hd1;have HC:=lhd hc;obtain⟨c,hc0⟩:∃c,c=v[0]:=⟨_,rfl⟩;obtain⟨d,hd0⟩:∃d,d=v[1]:=⟨_,rfl⟩;rw[←hc0,←hd0]at hq HC;rw[←hd0]at HD1;replace hc0:=hc0.symm;replace hd0:=hd0.symm;clear hc hd1;have hcn:(c.toNat<256)∧d.toNat<256:=⟨c.toNat_lt,d.toNat_lt⟩;have hun:∀x y:UInt8,x≠y→((x.toNat:Int)==(y.toNat:Int))=false:=fun x y h=>by rw[beq_eq_false_iff_ne];intro e;exact h (UInt8.toNat_inj.1 (by omega))
   have HUN:=lhd hun;have HV:=lhd (zbs v);clear hun hcn;have h49v:((49:UInt8).toNat:Int)=49:=rfl;have h48v:((48:UInt8).toNat:Int)=48:=rfl;have H49:=lhd h49v;have H48:=lhd h48v;clear h49v h48v;by_cases hcd:c=d
   ·subst hcd;by_cases h49:c=49
    ·subst h49
     have HSH:=lhd (show v=shoB s by
      unfold shoB;rw[←HSL.out,HC.out];unfold shoL;rw[if_neg (by rintro(⟨-,h⟩|⟨h,-⟩);(exact h rfl);(exact absurd h (by decide))),←HC.out,zbs])
     clear hq;go_wp2_with fail;go_quiet (fail);go_wp2_with fail;go_ret;exact⟨znf HSH.out,below_drewN HB.out _⟩
    ·have HSH:=lhd (show shoL (v.data.toList.drop 1)=shoL s.data.toList by
      rw[←hq,HD1.out];conv=>rhs;unfold shoL
      rw[if_pos (.inl ⟨rfl,h49⟩)])
     have e1:=HUN.out c 49 h49;rw[H49.out]at e1;have e1b:((c.toNat:Int) !=49)=true:=by rw[bne,e1];rfl
     clear hq h49;go_wp2_with fail;go_quiet (fail);go_wp2_with fail;go_roundw;case rel=>exact⟨_,rfl,by rw[drop1];exact HSH.out,HSZ.out,below_drewN HB.out _⟩
     case measure=>
      show(v.extract 1 v.size).size<v.size;have:=HSZ.out;have h2:(v.extract 1 v.size).size=v.size-1:=by simp
      omega
   ·have e0:=HUN.out c d hcd;by_cases h48:c=48
    ·subst h48;by_cases hd49:d=49
     ·subst hd49
      have HSH:=lhd (show shoL (v.data.toList.drop 1)=shoL s.data.toList by
       rw[←hq,HD1.out];conv=>rhs;unfold shoL
       rw[if_pos (.inr ⟨rfl,rfl⟩)])
      clear hq hcd;go_wp2_with fail;go_quiet (fail);go_wp2_with fail;go_roundw;case rel=>exact⟨_,rfl,by rw[drop1];exact HSH.out,HSZ.out,below_drewN HB.out _⟩
      case measure=>
       show(v.extract 1 v.size).size<v.size;have:=HSZ.out;have h2:(v.extract 1 v.size).size=v.size-1:=by simp
       omega
     ·have HSH:=lhd (show v=shoB s by
       unfold shoB;rw[←HSL.out,HC.out];unfold shoL;rw[if_neg (by rintro(⟨h,-⟩|⟨-,h⟩);(exact hcd h);(exact hd49 h)),←HC.out,zbs])
      have e1:=HUN.out d 49 hd49;rw[H49.out]at e1;rw[H48.out]at e0;clear hq hcd hd49;go_wp2_with fail;go_quiet (fail);go_wp2_with fail;go_ret;exact⟨znf HSH.out,below_drewN HB.out _⟩
    ·have HSH:=lhd (show v=shoB s by
      unfold shoB;rw[←HSL.out,HC.out];unfold shoL;rw[if_neg (by rintro(⟨h,-⟩|⟨h,-⟩);(exact hcd h);(exact h48 h)),←HC.out,zbs])
     have e1:=HUN.out c 48 h48;rw[H48.out]at e1;clear hq hcd h48;go_wp2_with fail;go_quiet (fail);go_wp2_with fail;go_ret;exact⟨znf HSH.out,below_drewN HB.out _⟩
  ·have hvd:decide ((v.size:Int)>1)=false:=by rw[decide_eq_false_iff_not];omega
   have hvn:decide (1<v.size)=false:=by rw[decide_eq_false_iff_not];exact hv
   have HSH:=lhd (show v=shoB s by
    unfold shoB;rw[←HSL.out];have hl:v.data.toList.length=1:=by simp;omega
    match hvl:v.data.toList,hl with
    | [c],_=>
      show v=bsB [c];rw[←hvl,zbs])
   go_wp2_with fail;go_quiet (fail);go_wp2_with fail;go_ret;exact⟨znf HSH.out,below_drewN HB.out _⟩
set_option linter.unusedSimpArgs false
theorem zmx {c:UInt8} (h:128≤c.toNat):prn c=false:=by
 unfold prn;rw[Bool.and_eq_false_iff,decide_eq_false_iff_not,decide_eq_false_iff_not];exact .inr (by omega)
theorem zaM {p:UInt8→Bool} {s:ByteArray} {pos:Nat} (h:pos<s.size):(s.data.toList.take (pos+1)).all p=((s.data.toList.take pos).all p&&p (s[pos]'h)):=by
 rw[List.take_succ_eq_append_getElem (by simpa using h),List.all_append];simp;rfl
theorem zaL {p:UInt8→Bool} {s:ByteArray} {pos:Nat} (h:pos<s.size) (hd:p (s[pos]'h)=false):s.data.toList.all p=false:=by
 rw[List.all_eq_false]
 exact⟨s[pos],by
  have:s[pos]=s.data.toList[pos]'(by simpa using h):=by simp;rfl
  rw[this];exact List.getElem_mem _,by rw[hd];simp⟩
theorem zmQ (s:ByteArray) (w:World):Calls Tryz.prog 310 #[.string s] w fun e w'=>e=.returned (.bool (s.data.toList.all prn))∧Below w.heap.size w w':=by
 go_enter Tryz.func310,Tryz.ntmps310;go_wp2_with fail;go_loopw [2] (fun r_ w'=>∃pos:Nat,pos≤s.size∧r_=.bool false∧(s.data.toList.take pos).all prn=true∧w'=w.iter s pos) (fun _ w'=>s.size-w'.iterPos w.heap.size)
 case atStart=>exact⟨0,by omega,rfl,rfl,rfl⟩
 case round=>
  obtain⟨pos,hps,rfl,hall,rfl⟩:=hrel;have HA:=lhd hall;clear hall;by_cases hp:pos<s.size
  ·have hnx:∀ty,(Instr.next (.pointer (some ⟨w.heap.size,0,none⟩)) true ty).run Tryz.prog (w.iter s pos)=_:=fun ty=>run_next_any w s pos ty hp;have HT:=lhd (zaM (p:=prn) hp);have HN:=lhd (fun h=>zaL (p:=prn) hp h);by_cases ha:(s[pos]'hp).toNat<128
   ·rw[show Utf8.decode s pos=((s[pos]'hp).toNat,1)from decode_ascii s pos hp ha]at hnx;generalize s[pos]'hp=c at ha hnx HT HN;dsimp only at hnx;by_cases c1:c.toNat<33
    ·have HR:=lhd (HN.out (by unfold prn;rw[decide_eq_false (show ¬33≤c.toNat by omega)];rfl));have hb1:decide ((c.toNat:Int)<33)=true:=by rw[decide_eq_true_iff];omega
     go_wp2_with fail;go_ret;exact⟨znc (HR.out).symm,(Below.refl _ _).alloc (Nat.le_refl _) _⟩
    ·have hb1:decide ((c.toNat:Int)<33)=false:=by rw[decide_eq_false_iff_not];omega
     by_cases c2:126<c.toNat
     ·have HR:=lhd (HN.out (by unfold prn;rw[decide_eq_false (show ¬c.toNat≤126 by omega),Bool.and_false]));have hb2:decide ((126:Int)<(c.toNat:Int))=true:=by rw[decide_eq_true_iff];omega
      go_wp2_with fail;go_ret;exact⟨znc (HR.out).symm,(Below.refl _ _).alloc (Nat.le_refl _) _⟩
     ·have hb2:decide ((126:Int)<(c.toNat:Int))=false:=by rw[decide_eq_false_iff_not];omega
      have HA2:=lhd (show(s.data.toList.take (pos+1)).all prn=true by
       rw[HT.out,HA.out];unfold prn;rw[decide_eq_true (show 33≤c.toNat by omega),decide_eq_true (show c.toNat≤126 by omega)];rfl)
      go_wp2_with fail;go_roundw;case rel=>exact⟨pos+1,by omega,rfl,HA2.out,rfl⟩
      case measure=>simp;omega
   ·have HR:=lhd (HN.out (zmx (by omega)));have hd:=(decode_high s pos hp (by omega)).1;have hb1:decide (((Utf8.decode s pos).1:Int)<33)=false:=by rw[decide_eq_false_iff_not];omega
    have hb2:decide ((126:Int)<((Utf8.decode s pos).1:Int))=true:=by rw[decide_eq_true_iff];omega
    clear hd;go_wp2_with fail;go_ret;exact⟨znc (HR.out).symm,(Below.refl _ _).alloc (Nat.le_refl _) _⟩
  ·obtain rfl:pos=s.size:=by omega
   have hnx:∀ty,(Instr.next (.pointer (some ⟨w.heap.size,0,none⟩)) true ty).run Tryz.prog (w.iter s s.size)=_:=fun ty=>run_next_end w s s.size ty hp
   have HR:=lhd (show s.data.toList.all prn=true by
    have:=HA.out;rwa [List.take_of_length_le (by simp)]at this)
   go_wp2_with fail;go_ret;exact⟨znc (HR.out).symm,(Below.refl _ _).alloc (Nat.le_refl _) _⟩
abbrev hexS:ByteArray:=⟨#[48,49,50,51,52,53,54,55,56,57,97,98,99,100,101,102]⟩
theorem zaW {s:ByteArray} {k:Nat} {c:UInt8} (h:s.data.toList[k]? =some c):∃hk:k<s.size,s[k]=c:=by
 obtain⟨h1,h2⟩:=List.getElem?_eq_some_iff.1 h;have h3:k<s.size:=by simpa using h1
 exact⟨h3,by rw[←h2];simp;rfl⟩
theorem zbc {w W:World} (h:Below w.drew.heap.size w.drew W):Below w.heap.size w W:=⟨h.os,h.tape,h.output,h.size,h.block⟩
def zad (s:ByteArray) (w:World) (e:Ending) (w':World):Prop:=
 (∃(a:Int) (b:ByteArray) (ok:Bool),e=.returned (.tuple #[.int .u8 a,.string b,.bool ok])∧(match unqF s.data.toList with|some (c,r)=>a=(c.toNat:Int)∧b=bsB r∧ok=true|none=>ok=false))∧Below w.heap.size w w'
theorem zad.none {s:ByteArray} {w w':World} {a:Int} {b:ByteArray} (h:unqF s.data.toList=none) (hb:Below w.heap.size w w'):zad s w (.returned (.tuple #[.int .u8 a,.string b,.bool false])) w':=⟨⟨a,b,false,rfl,by rw[h]⟩,hb⟩
theorem zad.some {s:ByteArray} {w w':World} {c:UInt8} {r:Bs} (h:unqF s.data.toList=some (c,r)) (hb:Below w.heap.size w w'):zad s w (.returned (.tuple #[.int .u8 (c.toNat:Int),.string (bsB r),.bool true])) w':=⟨⟨_,_,true,rfl,by rw[h];exact⟨rfl,rfl,rfl⟩⟩,hb⟩
theorem beqB (s:ByteArray) (l:Bs):(s.toList==l)=decide (s.data.toList=l):=by
 rw[ByteArray.toList_eq];by_cases h:s.data.toList=l
 ·rw[decide_eq_true h,beq_iff_eq];exact h
 ·rw[decide_eq_false h,beq_eq_false_iff_ne];exact h
set_option linter.unusedSimpArgs false in
theorem zr6 (s:ByteArray) (w:World) (hm:s.size≤140737488351232):Calls Tryz.prog 121 #[.string s] w fun e w'=>e=.returned (.bool (codeOk s.data.toList))∧w'=w:=by
 go_enter Tryz.func121,Tryz.ntmps121;go_wp2_with fail;go_loop [6] (fun i=>∃k:Nat,k≤s.size∧i=.int .i64 k∧(s.data.toList.take k).all prn=true) (fun i=>s.size-(intOf i).toNat)
 case atStart=>exact⟨0,Nat.zero_le _,rfl,rfl⟩
 case round=>
  obtain⟨k,hk,rfl,hall⟩:=hrel;have HA:=lhd hall;clear hall;by_cases hlt:k<s.size
  ·have hlt2:(k:Int)<(s.size:Int):=by omega
   have HT:=lhd (zaM (p:=prn) hlt);have HN:=lhd (fun h=>zaL (p:=prn) hlt h);by_cases hp:33≤(s[k]'hlt).toNat∧(s[k]'hlt).toNat≤126
   ·have hb1:decide (((s[k]'hlt).toNat:Int)<33)=false:=by rw[decide_eq_false_iff_not];omega
    have hb2:decide ((126:Int)<((s[k]'hlt).toNat:Int))=false:=by rw[decide_eq_false_iff_not];omega
    have HA2:=lhd (show(s.data.toList.take (k+1)).all prn=true by
     rw[HT.out,HA.out];unfold prn;rw[decide_eq_true hp.1,decide_eq_true hp.2];rfl)
    clear hp;go_wp2_with fail;go_round
    case rel=>exact⟨k+1,by omega,by go_num,HA2.out⟩
    case measure=>simp[intOf];omega
   ·have HR:=lhd (show codeOk s.data.toList=false by
     unfold codeOk
     rw[HN.out (by
      unfold prn;rw[Bool.and_eq_false_iff,decide_eq_false_iff_not,decide_eq_false_iff_not];omega)]
     simp)
    by_cases h1:(s[k]'hlt).toNat<33
    ·have hb1:decide (((s[k]'hlt).toNat:Int)<33)=true:=by rw[decide_eq_true_iff];omega
     go_wp2_with fail;refine bodyPost_ret (v:=.bool false) (by simp[results,Tryz.results121,go_sem]) rfl ?_;rw[HR.out];exact⟨rfl,rfl⟩
    ·have hb1:decide (((s[k]'hlt).toNat:Int)<33)=false:=by rw[decide_eq_false_iff_not];omega
     have hb2:decide ((126:Int)<((s[k]'hlt).toNat:Int))=true:=by rw[decide_eq_true_iff];omega
     go_wp2_with fail;refine bodyPost_ret (v:=.bool false) (by simp[results,Tryz.results121,go_sem]) rfl ?_;rw[HR.out];exact⟨rfl,rfl⟩
  ·obtain rfl:k=s.size:=by omega
   have hlt2:¬(s.size:Int)<(s.size:Int):=by omega
   have HAL:=lhd (show s.data.toList.all prn=true by
    have:=HA.out;rwa [List.take_of_length_le (by simp)]at this)
   have HSZ:=lhd (show s.data.toList.length=s.size by simp);clear hlt;by_cases h0:s.size=0
   ·obtain rfl:s=⟨#[]⟩:=by
     have:s.data=#[]:=Array.eq_empty_of_size_eq_zero h0;cases s;simp_all
    have HR:=lhd (show codeOk (⟨#[]⟩:ByteArray).data.toList=false from rfl);have hb1:(⟨#[]⟩:ByteArray).toList.isEmpty=true:=by rw[ByteArray.toList_eq];rfl
    go_wp2_with fail;refine bodyPost_ret (v:=.bool false) (by simp[results,Tryz.results121,go_sem]) rfl ?_;rw[HR.out];exact⟨rfl,rfl⟩
   ·have hb1:=zqQ s h0;by_cases h8:s.size≤8
    ·have hb2:decide ((s.size:Int)≤8)=true:=by rw[decide_eq_true_iff];omega
     by_cases he:s.data.toList=[36,101,110,100]
     ·have hb3:(s.toList==[36,101,110,100])=true:=by rw[beqB,decide_eq_true he]
      have HR:=lhd (show codeOk s.data.toList=false by rw[he];decide);clear he;go_wp2_with fail;refine bodyPost_ret (v:=.bool false) (by simp[results,Tryz.results121,go_sem]) rfl ?_;rw[HR.out];exact⟨rfl,rfl⟩
     ·have hb3:(s.toList==[36,101,110,100])=false:=by rw[beqB,decide_eq_false he]
      have HR:=lhd (show codeOk s.data.toList=true by
       unfold codeOk;rw[HAL.out,decide_eq_false he,decide_eq_true (show s.data.toList.length≤8 by have:=HSZ.out;omega),decide_eq_false (fun e=>by have h2:=HSZ.out;rw[e]at h2;simp at h2;omega)];rfl)
      clear he;go_wp2_with fail;refine bodyPost_ret (v:=.bool true) (by simp[results,Tryz.results121,go_sem]) rfl ?_;rw[HR.out];exact⟨rfl,rfl⟩
    ·have hb2:decide ((s.size:Int)≤8)=false:=by rw[decide_eq_false_iff_not];omega
     have HR:=lhd (show codeOk s.data.toList=false by
      unfold codeOk;rw[decide_eq_false (show ¬s.data.toList.length≤8 by have:=HSZ.out;omega)];simp)
     go_wp2_with fail;refine bodyPost_ret (v:=.bool false) (by simp[results,Tryz.results121,go_sem]) rfl ?_;rw[HR.out];exact⟨rfl,rfl⟩
end Go.Proofs.YtfppgpamkdkckaaGreatDoor
