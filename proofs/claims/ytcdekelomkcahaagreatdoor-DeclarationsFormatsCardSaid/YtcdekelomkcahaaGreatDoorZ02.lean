import Derived.Test.YtcdekelomkcahaaGreatDoorZ00
import Derived.BigQuiet
import Derived.BigRegion
import Derived.Deep.AppendLies
import Derived.Deep.DeepCutAuto
import Derived.Deep.QuietTactic
import Derived.Deep.RegionHeld
import Derived.Deep.RegionHeld3
import Derived.Deep.RegionLaw
import Derived.DeepKeys4
import Derived.Ground.Names2Prog
import Derived.Ground.SlgnProg
import Derived.Laws.BytesArg
import Derived.Laws.BytesString
import Derived.Laws.EntriesVeiled
import Derived.Laws.OwnMore
import Derived.Laws.RangeAny
import Derived.Laws.Runes
import Derived.Laws.Strings
import Derived.Lib.AppendIntMem
import Derived.Lib.AppendStr
import Derived.Lib.AtoiAll
import Derived.Lib.Hide
import Derived.Lib.IndexAny
import Derived.Lib.ItoaLen
import Derived.Lib.ItoaNum
import Derived.Lib.OwnBridge
import Derived.Lib.Strings
import Derived.LoopIn
import Derived.LoopNIn
import Derived.Maps.AppendAt
import Derived.Maps.OwnSet
import Derived.OneCell
import Derived.OrdersHeld
import Derived.OrdersIn
import Derived.OwnWalkIn
import Derived.RangeFuncBound
import Derived.RangeFuncCalls
import Derived.RangeFuncLeaves
import Derived.RangeFuncNested
import Derived.RegionTactic
import Derived.Shelf.Abstract
import Derived.Shelf.Bits.Mul64
import Derived.Shelf.LaysC
import Derived.Shelf.LaysM
import Derived.Shelf.RegionOpen
import Derived.Shelf.Slices.Cells
import Derived.Shelf.Slices.ReverseS
import Derived.Shelf.Slices.SearchI
import Derived.Shelf.Slices.Turned
import Derived.Shelf.SlicesE.Reverse
import Derived.Shelf.Small.Strs
import Derived.Shelf.Small.Utf8
import Derived.Shelf.Small.Wraps
import Derived.Shelf.Strconv.Atoi
import Derived.Shelf.Strconv.AtoiAll
import Derived.Shelf.Strconv.AtoiErr
import Derived.Shelf.Strconv.AtoiErrFast
import Derived.Shelf.Strconv.AtoiFail
import Derived.Shelf.Strconv.AtoiInnerAll
import Derived.Shelf.Strconv.AtoiLong
import Derived.Shelf.Strconv.Clone
import Derived.Shelf.Strconv.ErrVar
import Derived.Shelf.Strconv.ErrVarAll
import Derived.Shelf.Strconv.Itoa0
import Derived.Shelf.Strconv.Itoa1
import Derived.Shelf.Strconv.Itoa2
import Derived.Shelf.Strconv.Itoa3
import Derived.Shelf.Strconv.Lower
import Derived.Shelf.Strconv.ParseInt10
import Derived.Shelf.Strconv.ParseInt10All
import Derived.Shelf.Strconv.ParseInt10At16
import Derived.Shelf.Strconv.ParseInt10At32
import Derived.Shelf.Strconv.ParseInt10At64
import Derived.Shelf.Strconv.ParseInt10At8
import Derived.Shelf.Strconv.ParseIntEmpty
import Derived.Shelf.Strconv.ParseUint10
import Derived.Shelf.Strconv.ParseUint10Any
import Derived.Shelf.Strconv.ParseUint10At
import Derived.Shelf.Strconv.ParseUint10Empty
import Derived.Shelf.Strconv.ParseUint10b16
import Derived.Shelf.Strconv.ParseUint10b32
import Derived.Shelf.Strconv.ParseUint10b64
import Derived.Shelf.Strconv.ParseUint10b8
import Derived.Shelf.Strconv.ParseUintEmpty
import Derived.Shelf.Strconv.RangeError
import Derived.Shelf.Strconv.SyntaxError
import Derived.Shelf.Strconv.ToError
import Derived.Shelf.Strconv.ToErrorRange
import Derived.Shelf.Strings.AsciiSet
import Derived.Shelf.Strings.Builder1
import Derived.Shelf.Strings.Builder2
import Derived.Shelf.Strings.Builder2Cap
import Derived.Shelf.Strings.BuilderCap
import Derived.Shelf.Strings.BuilderF
import Derived.Shelf.Strings.BuilderK
import Derived.Shelf.Strings.Count
import Derived.Shelf.Strings.Explode
import Derived.Shelf.Strings.IndexAny
import Derived.Shelf.Strings.IndexAnyAll
import Derived.Shelf.Strings.OnBuilder
import Derived.Shelf.Strings.Prefix
import Derived.Shelf.Strings.Repeat
import Derived.Shelf.Strings.Replace
import Derived.Shelf.Strings.RuneCount
import Derived.Shelf.Strings.Runes
import Derived.Shelf.Strings.Search1
import Derived.Shelf.Strings.Search2
import Derived.Shelf.Strings.Search3
import Derived.Shelf.Strings.Shaped
import Derived.Shelf.Strings.Split
import Derived.Shelf.Strings.SplitShaped
import Derived.Shelf.Unicode.Decode
import Derived.Shelf.Unicode.DecodeAny
import Derived.Shelf.Unicode.DecodeSlow
import Derived.Shelf.Utf8.RuneCount
import Derived.TacticsInMore
import Derived.Test.YtcdekelomkcahaaGreatDoorProg
import Derived.WalkKit
import Derived.WalkLawsBesides
import Derived.WalkSpells
set_option maxRecDepth 100000
set_option maxHeartbeats 16000000
namespace Go.Proofs.YtcdekelomkcahaaGreatDoor
open Go.RowKit Go.WideMaps
abbrev BsM:=List UInt8
def vR (v:Value):Option (DataW Value×List MemPlace):=some (.held v,[])
def SMap (P:Program) (K:TypeId) (w:World) (b n:Nat) (f:BsM→Option Value):Prop:=
 ∃D:DataW Value,w.ownsMap P K vR b n D∧∀s:BsM,Maps.has D (.string s)=(f s).isSome∧∀v,f s=some v→∀z,D.atKey (.string s) z=.held v
section
variable {P : Program} {K t e : TypeId} {w : World} {b n : Nat} {f : BsM → Option Value}
theorem SMap.at (h:SMap P K w b n f) (s:BsM):∃D:DataW Value,w.ownsMap P K vR b n D∧Maps.has D (.string s)=(f s).isSome∧∀z,D.atKey (.string s) (.held z)=.held ((f s).getD z):=by
 obtain⟨D,ho,hf⟩:=h;obtain⟨h1,h2⟩:=hf s;refine⟨D,ho,h1,fun z=>?_⟩;cases hs:f s with
 |none=>
  rw[hs]at h1;exact Maps.atKey_of_not_has h1 _
 |some v=>exact h2 v hs _
theorem SMap.look (h:SMap P K w b n f) (hK:P.underlying K=some .string) (ht:P.underlying t=some (.map K e)) {z:Value} (hz:(zeroValue e).run P w=.ok z w) (s:ByteArray) (hs:s.size≤maxLen):
 (Instr.lookup t (.map (some b)) (.string s) true).run P w=.ok (.tuple #[(f s.data.toList).getD z,.bool (f s.data.toList).isSome]) w:=by
 obtain⟨D,ho,h1,h2⟩:=h.at s.data.toList;obtain⟨v,ps,hr,hv⟩:=ho.look_ok (Maps.string_keyed hK) ht hz (zd:=.held z) (zp:=[]) rfl (keyOf_string_mk hK hs);rw[hr,h1];rw[h2 z]at hv;unfold vR at hv;injection hv with hv;injection hv with hv _;injection hv with hv;rw[hv]
theorem SMap.look1 (h:SMap P K w b n f) (hK:P.underlying K=some .string) (ht:P.underlying t=some (.map K e)) {z:Value} (hz:(zeroValue e).run P w=.ok z w) (s:ByteArray) (hs:s.size≤maxLen):
 (Instr.lookup t (.map (some b)) (.string s) false).run P w=.ok ((f s.data.toList).getD z) w:=by
 obtain⟨D,ho,h1,h2⟩:=h.at s.data.toList;obtain⟨v,ps,hr,hv⟩:=ho.lookup (Maps.string_keyed hK) ht hz (zd:=.held z) (zp:=[]) rfl (keyOf_string_mk hK hs);rw[hr];rw[h2 z]at hv;unfold vR at hv;injection hv with hv;injection hv with hv _;injection hv with hv;rw[hv]
theorem znm (s:BsM):WideAt.IsKeyLit (.string s):=trivial
theorem SMap.put (h:SMap P K w b n f) (hK:P.underlying K=some .string) (ht:P.underlying t=some (.map K e)) (hn:n<maxLen) (s:ByteArray) (hs:s.size≤maxLen) (v:Value):
 ∃w',(Instr.mapUpdate t (.map (some b)) (.string s) v).run P w=.ok () w'∧SMap P K w' b (n+1) (fun x=>if x=s.data.toList then some v else f x)∧w.grownBy w' (some b):=by
 obtain⟨D,ho,hf⟩:=h;obtain⟨w',hr,ho',hg⟩:=ho.update (Maps.string_keyed hK) ht hn (keyOf_string_mk hK hs) (val:=v) (d:=.held v) (ps:=[]) rfl;refine⟨w',hr,⟨_,ho',fun x=>?_⟩,hg⟩;by_cases hx:x=s.data.toList
 ·subst hx;simp only[if_true];refine⟨Maps.has_put_same ho.isMap (znm _) _,fun u hu z=>?_⟩;injection hu with hu;subst hu;exact Maps.atKey_put_same ho.isMap (znm _) _ _
 ·have hne:(Lit.string x)≠Lit.string s.data.toList:=fun h=>hx (by injection h);simp only[if_neg hx];exact⟨(Maps.has_put_other hne _).trans (hf x).1,fun u hu z=>(Maps.atKey_put_other hne _ _).trans ((hf x).2 u hu z)⟩
theorem SMap.made (w:World) (P:Program) (K:TypeId):SMap P K (w.alloc (.map #[] 0)) w.heap.size 0 (fun _=>none):=
 ⟨_,World.ownsMap_made w P K vR,fun _=>⟨rfl,fun _ h=>by cases h⟩⟩
theorem SMap.ext (h:SMap P K w b n f) {g:BsM→Option Value} (he:∀s,f s=g s):SMap P K w b n g:=by
 rw[show g=f from funext fun s=>(he s).symm];exact h
theorem SMap.lt (h:SMap P K w b n f):b<w.heap.size:=by
 obtain⟨D,ho,-⟩:=h;exact ho.lt
theorem SMap.kept {w':World} {row:Option Nat} (h:SMap P K w b n f) (hg:w.grownBy w' row) (hne:some b≠row):SMap P K w' b n f:=by
 obtain⟨D,ho,hf⟩:=h;exact⟨D,ho.kept hg hne,hf⟩
theorem SMap.same {w':World} (h:SMap P K w b n f) (hb:w'.heap[b]? =w.heap[b]?):SMap P K w' b n f:=by
 obtain⟨D,⟨es,clock,h1,h2⟩,hf⟩:=h;exact⟨D,⟨es,clock,hb.trans h1,h2⟩,hf⟩
theorem SMap.below {w':World} {B:Nat} (h:SMap P K w b n f) (hb:Below B w w') (hB:b<B):SMap P K w' b n f:=h.same (hb.block b hB)
theorem SMap.setCell {a:Addr} (h:SMap P K w b n f) (ha:b≠a.block) (u:Value):SMap P K (w.setCell a u) b n f:=by
 obtain⟨D,ho,hf⟩:=h;exact⟨D,ho.setCell ha u,hf⟩
theorem SMap.alloc (h:SMap P K w b n f) (o:Obj):SMap P K (w.alloc o) b n f:=h.kept (World.grownBy_alloc w o none) (by simp)
theorem SMap.drew (h:SMap P K w b n f):SMap P K w.drew b n f:=h
theorem SMap.no_cells (h:SMap P K w b n f) {C:Array Value} {T:TypeId} {fr:Nat×Nat}:w.heap[b]? ≠some (.cells C T fr):=by
 obtain⟨D,⟨es,clock,h1,-⟩,-⟩:=h;rw[h1];intro h;cases h
theorem SMap.ne_row (h:SMap P K w b n f) {B T size m:Nat} {v:Value} {xs:List Value} (ho:w.ownsRow B T size v m xs):some b≠v.ownBlock:=by
 rcases ho with⟨-,⟨rfl,-⟩|⟨g,cap,cur,rfl,-,hg,-⟩⟩
 ·intro h;cases h
 ·intro e;injection e with e;subst e;exact h.no_cells hg
end
abbrev Bs:=List UInt8
def isW (c:UInt8):Bool:=decide (c=32)||(decide (9≤c.toNat)&&decide (c.toNat≤13))
def wrd:Bs→Bs→List Bs
 | [],cur=>if cur=[]then []else [cur]
 |c::t,cur=>if isW c=true then(if cur=[]then wrd t []else cur::wrd t [])else wrd t (cur++ [c])
def zp1 (s:Bs):List Bs:=wrd s []
def zgN (l:Bs):Bs:=l++ [10]
def prn (c:UInt8):Bool:=decide (33≤c.toNat)&&decide (c.toNat≤126)
theorem zkz {c:UInt8} (h:prn c=true):isW c=false:=by
 unfold prn at h;rw[Bool.and_eq_true,decide_eq_true_iff,decide_eq_true_iff]at h;unfold isW;rw[Bool.or_eq_false_iff,Bool.and_eq_false_iff,decide_eq_false_iff_not,decide_eq_false_iff_not,decide_eq_false_iff_not];refine⟨fun e=>?_,.inr (by omega)⟩;subst e;have:(32:UInt8).toNat=32:=rfl;omega
def hexd (n:Nat):UInt8:=if n<10 then UInt8.ofNat (48+n)else UInt8.ofNat (87+n)
def quoC (c:UInt8):Bs:=if c=92 then [92,92]else if c.toNat<33∨126<c.toNat then [92,120,hexd (c.toNat/16),hexd (c.toNat % 16)]else [c]
def quoL (s:Bs):Bs:=s.flatMap quoC
def hexv (c:UInt8):Option Nat:=if 48≤c.toNat∧c.toNat≤57 then some (c.toNat-48)else if 97≤c.toNat∧c.toNat≤102 then some (c.toNat-87)else none
def unqF:Bs→Option (UInt8×Bs)
 | []=>none
 |c::t=>if c=92 then(match t with
   | []=>none
   |d::r=>if d=92 then some (92,r)else if d=120 then(match r with
     |h::l::r'=>(match hexv h,hexv l with
       |some a,some b=>some (UInt8.ofNat (16*a+b),r')
       |_,_=>none)
     |_=>none)else none)
  else if prn c=true then some (c,t)else none
theorem zof {s r:Bs} {c:UInt8} (h:unqF s=some (c,r)):r.length<s.length:=by
 unfold unqF at h;split at h
 ·cases h
 ·rename_i c' t
  split at h
  ·split at h
   ·cases h
   ·rename_i d r2
    split at h
    ·injection h with h;injection h with _ h;subst h;simp;omega
    ·split at h
     ·split at h
      ·split at h
       ·injection h with h;injection h with _ h;subst h;simp;omega
       ·cases h
      ·cases h
     ·cases h
  ·split at h
   ·injection h with h;injection h with _ h;subst h;simp
   ·cases h
def unqL (s:Bs):Option Bs:=
 if s=[]then some []else
 match _h:unqF s with
 |none=>none
 |some (c,r)=>(unqL r).map (c:: ·)
termination_by s.length
decreasing_by exact zof _h
def unqR (s:Bs):Bs×Int:=match unqL s with
 |none=>([],3)
 |some o=>if 64<o.length then([],9)else(o,0)
def shoL:Bs→Bs
 |c::d::t=>if(c=d∧c≠49)∨(c=48∧d=49)then shoL (d::t)else c::d::t
 |s=>s
def frD (s:Bs):UInt8:=match s with
 | []=>0
 |c::_=>if c=49 then 48 else c
def extB (n:Nat) (s:Bs):Bs:=List.replicate (n-s.length) (frD s)++s
def bsB (l:Bs):ByteArray:=⟨l.toArray⟩
theorem zbh (l:Bs):(bsB l).data.toList=l:=by simp[bsB]
theorem zbk (l:Bs):(bsB l).size=l.length:=by simp[bsB,ByteArray.size]
theorem zbj (s:ByteArray):bsB s.data.toList=s:=by cases s;simp[bsB]
theorem zbg (v:Bs):(bsB v).toList.isEmpty=decide (v=[]):=by
 rw[ByteArray.toList_eq,zbh];cases v with
 |nil=>rfl
 |cons a l=>rfl
theorem zbi {c c':Bs} (h:c≠c'):((bsB c).toList==(bsB c').toList)=false:=by
 rw[ByteArray.toList_eq,ByteArray.toList_eq,zbh,zbh,beq_eq_false_iff_ne];exact h
def isD (c:UInt8):Bool:=decide (48≤c.toNat)&&decide (c.toNat≤57)
def decN (l:Bs):Nat:=l.foldl (fun n c=>10*n+(c.toNat-48)) 0
def znK (s:Bs):Option Int:=if s=[]∨15<s.length∨s.all isD=false then none else some (decN s:Int)
theorem zcP (l:Bs) (c:UInt8):decN (l++ [c])=10*decN l+(c.toNat-48):=by simp[decN]
theorem zdd:∀d:Fin 10,isD (UInt8.ofNat (48+d.val))=true∧(UInt8.ofNat (48+d.val)).toNat-48=d.val:=by decide
theorem zcK (u:Nat):(Lib.decDigits u).all isD=true:=by
 induction u using Nat.strongRecOn with
 |_ u ih=>
  rw[Lib.decDigits];split
  ·rename_i h
   rw[List.all_cons,(zdd ⟨u,h⟩).1];rfl
  ·rw[List.all_append,ih (u/10) (by omega),List.all_cons,(zdd ⟨u % 10,by omega⟩).1];rfl
theorem zcM (u:Nat):decN (Lib.decDigits u)=u:=by
 induction u using Nat.strongRecOn with
 |_ u ih=>
  rw[Lib.decDigits];split
  ·rename_i h
   show 10*0+((UInt8.ofNat (48+u)).toNat-48)=u;rw[(zdd ⟨u,h⟩).2];simp
  ·rw[zcP,ih (u/10) (by omega),(zdd ⟨u % 10,by omega⟩).2];simp only;omega
theorem zcL (u:Nat):Lib.decDigits u≠ []:=by
 intro h;have h1:=congrArg List.length h;rw[Lib.decDigits_length]at h1;have:=Lib.nDigits_pos u;simp at h1;omega
theorem zhw:∀(k u:Nat),u<10^(k+1)→Lib.nDigits u≤k+1
 |0,u,h=>by rw[Lib.nDigits_small (by simpa using h)];exact Nat.le_refl _
 |k+1,u,h=>by
  by_cases h1:u<10
  ·rw[Lib.nDigits_small h1];omega
  ·rw[Lib.nDigits_big h1];have:=zhw k (u/10) (by rw[Nat.pow_succ]at h;omega);omega
structure Vals where
 vt:Int→Int→Bool
 vv:Int→Int→Bs→Bool
 vi:Int→Int→Bs
 par:Int→Int→Bs→Bs×Int
 fmt:Int→Int→Bs→Bs
def zb1 (id:Bs):Bool:=!decide (id=[])&&decide (id.length≤8)&&id.all prn&&!decide (id=[36,101,110,100])
structure ValsOk (V:Vals):Prop where
 par_fmt:∀k n v,V.vt k n=true→V.vv k n v=true→V.par k n (V.fmt k n v)=(v,0)
 par_ok:∀k n t v,V.par k n t=(v,0)→V.vv k n v=true
 vi_ok:∀k n,V.vt k n=true→V.vv k n (V.vi k n)=true
 solid:∀k n v,V.vt k n=true→V.vv k n v=true→∀c∈V.fmt k n v,isW c=false
 one:∀v,V.vv 0 1 v=true→V.fmt 0 1 v=[48]∨V.fmt 0 1 v=[49]∨V.fmt 0 1 v=[120]∨V.fmt 0 1 v=[122]
 ev:∀n v,V.fmt 3 n v=[49]
 kind:∀k n,V.vt k n=true→k=0∨k=1∨k=2∨k=3
 vt_vv:∀k n v,V.vv k n v=true→V.vt k n=true
abbrev Dc:=Bs×Int×Int
abbrev Wd:=Bs×Int×Int×Int
abbrev Rc:=Int×Int×Bs×Bs
abbrev Pb:=Int×Int×Int×Int
def zgF (k:Int):UInt8:=if k=0 then 98 else if k=1 then 114 else 115
def zmG (k n:Int):Bool:=decide (k=3)||(decide (k=0)&&decide (n=1))
def cmdL (V:Vals) (k n:Int) (v id:Bs):Bs:=
 if(V.vt k n&&V.vv k n v&&zb1 id)=true then(if zmG k n=true then V.fmt k n v++id else zgF k::V.fmt k n v++32::id)else []
def cnt (V:Vals) (x:Dc):Bool:=V.vt x.2.1 x.2.2&&zb1 x.1
def knL (V:Vals) (l:List Dc) (c:Bs):Option Dc:=l.find? fun x=>cnt V x&&decide (x.1=c)
structure PS where
 last:Int
 off:Bool
 opn:Bool
 skip:Bool
 out:List Rc
 wrong:List Pb
deriving DecidableEq
def PS.prob (s:PS) (e:Int) (w:Wd):PS:={s with wrong:=s.wrong++ [(e,w.2.1,w.2.2.1,w.2.2.2)]}
def PS.put (s:PS) (r:Rc):PS:=if s.skip=true then s else{s with out:=s.out++ [r]}
def znJ (s:PS) (w:Wd):PS:=match znK (w.1.drop 1)with
 |none=>{s with skip:=true}.prob 3 w
 |some t=>if t>1099511627776∨t<s.last then{s with skip:=true}.prob 2 w else{s with skip:=false,last:=t}.put (0,t,[],[])
def zdS (s:PS) (w:Wd):PS:={(if s.opn=true then s.prob 10 w else s)with opn:=true}.put (4,0,[],[])
def znZ (s:PS) (w:Wd) (o:Bool):PS:=
 let s1:PS:={(if(s.opn||(s.off==o))=true then s.prob 10 w else s)with opn:=true}
 if((s.off==o)||s.skip)=true then s1 else{s1 with off:=o}.put (if o=true then 2 else 3,0,[],[])
def endP (s:PS) (w:Wd):PS:={(if s.opn=true then s else s.prob 3 w)with opn:=false}
def zbE (V:Vals) (K:Bs→Option Dc) (s:PS) (w h:Wd) (code text:Bs) (kinds:List Int):PS:=
 if s.skip=true then s else
 match K code with
 |none=>s.prob 4 h
 |some x=>
  if kinds.contains x.2.1=false then s.prob 7 w else
  if(V.par x.2.1 x.2.2 text).2≠0 then s.prob (V.par x.2.1 x.2.2 text).2 w else
  if s.off=true∧x.2.1=0 then(if(V.par x.2.1 x.2.2 text).1=V.vi x.2.1 x.2.2 then s else s.prob 10 w)
  else s.put (1,0,code,(V.par x.2.1 x.2.2 text).1)
def zaX:List Wd→Option (List Wd)
 | []=>none
 |w::t=>if w.1=[36,101,110,100]then some t else zaX t
def zmo (s:PS) (w:Wd) (t:List Wd):PS×List Wd:=match zaX t with
 |none=>(s.prob 3 w,[])
 |some r=>(if w.1=[36,99,111,109,109,101,110,116]then s else s.prob 3 w,r)
def zlP (c:UInt8):Bool:=c==48||c==49||c==120||c==122||c==88||c==90
def vecK (c:UInt8):Option Int:=if c=98∨c=66 then some 0 else if c=114∨c=82 then some 1 else if c=115∨c=83 then some 2 else none
def zlA:Bs:=[36,100,117,109,112,118,97,114,115]
def zlx:Bs:=[36,100,117,109,112,97,108,108]
def zly:Bs:=[36,100,117,109,112,111,102,102]
def zlz:Bs:=[36,100,117,109,112,111,110]
def sEnd:Bs:=[36,101,110,100]
def zjB (V:Vals) (K:Bs→Option Dc) (s:PS) (w:Wd) (t:List Wd):PS×List Wd:=
 match w.1 with
 | []=>(s.prob 3 w,t)
 |c::u=>
  if c=35 then(znJ s w,t)
  else if c=36 then
   (if c::u=zlA∨c::u=zlx then(zdS s w,t)
    else if c::u=zly then(znZ s w true,t)
    else if c::u=zlz then(znZ s w false,t)
    else if c::u=sEnd then(endP s w,t)
    else zmo s w t)
  else if zlP c=true then
   (if u=[]then(if s.skip=true then s else s.prob 3 w,t)else(zbE V K s w w u [c] [0,3],t))
  else match vecK c with
   |none=>(s.prob 3 w,t)
   |some k=>match t with
    | []=>(if s.skip=true then s else s.prob 3 w,[])
    |h::t'=>(zbE V K s w h h.1 u [k],t')
theorem zaZ:∀{t r:List Wd},zaX t=some r→r.length<t.length
 | [],r,h=>by cases h
 |w::t,r,h=>by
  unfold zaX at h;split at h
  ·injection h with h;subst h;simp
  ·have:=zaZ h;simp;omega
theorem zjC (V:Vals) (K:Bs→Option Dc) (s:PS) (w:Wd) (t:List Wd):(zjB V K s w t).2.length≤t.length:=by
 unfold zjB;split
 ·exact Nat.le_refl _
 ·split
  ·exact Nat.le_refl _
  ·split
   ·split
    ·exact Nat.le_refl _
    ·split
     ·exact Nat.le_refl _
     ·split
      ·exact Nat.le_refl _
      ·split
       ·exact Nat.le_refl _
       ·unfold zmo;split
        ·simp
        ·rename_i h;have:=zaZ h;simp;omega
   ·split
    ·split<;>exact Nat.le_refl _
    ·split
     ·exact Nat.le_refl _
     ·split<;>simp
def pRun (V:Vals) (K:Bs→Option Dc) (s:PS):List Wd→PS
 | []=>s
 |w::t=>pRun V K (zjB V K s w t).1 (zjB V K s w t).2
termination_by ws=>ws.length
decreasing_by have:=zjC V K s w t;simp;omega
theorem zjA (V:Vals) (K:Bs→Option Dc) (s:PS):pRun V K s []=s:=by rw[pRun]
theorem zjz (V:Vals) (K:Bs→Option Dc) (s:PS) (w:Wd) (t:List Wd):pRun V K s (w::t)=pRun V K (zjB V K s w t).1 (zjB V K s w t).2:=by rw[pRun]
def zoO (V:Vals) (K:Bs→Option Dc):Int→Bool→List Rc→Bool
 |_,_,[]=>true
 |last,off,r::t=>
  if r.1=0 then(decide (r.2.2=([],[]))&&!decide (r.2.1<last)&&decide (r.2.1≤1099511627776))&&zoO V K r.2.1 off t
  else if r.1=1 then(match K r.2.2.1 with
   |none=>false
   |some x=>(decide (r.2.1=0)&&!decide (cmdL V x.2.1 x.2.2 r.2.2.2 r.2.2.1=[])&&!(off&&decide (x.2.1=0)))&&zoO V K last off t)
  else if r.1=2∨r.1=3 then(decide (r.2=(0,[],[]))&&(off !=decide (r.1=2)))&&zoO V K last (!off) t
  else if r.1=4 then decide (r.2=(0,[],[]))&&zoO V K last off t
  else false
def zgS (L:List Bs):Bs:=L.flatMap zgN
theorem zhd {ws:List Wd} {a b:List Bs} (h:ws.map (·.1)=a++b):∃u v,ws=u++v∧u.map (·.1)=a∧v.map (·.1)=b:=List.map_eq_append_iff.1 h|>.elim fun u ⟨v,h1,h2,h3⟩=>⟨u,v,h1,h2,h3⟩
theorem zgv {V:Vals} {l:List Dc} {c:Bs} {x:Dc} (h:knL V l c=some x):cnt V x=true∧x.1=c:=by
 have:=List.find?_some h;rw[Bool.and_eq_true,decide_eq_true_iff]at this;exact this
theorem zbX {V:Vals} {x:Dc}:cnt V x=true↔V.vt x.2.1 x.2.2=true∧zb1 x.1=true:=by unfold cnt;rw[Bool.and_eq_true]
theorem zb4 {id:Bs} (h:zb1 id=true):id≠ []∧(∀c∈id,isW c=false)∧id≠sEnd:=by
 unfold zb1 at h;rw[Bool.and_eq_true,Bool.and_eq_true,Bool.and_eq_true,Bool.not_eq_true',decide_eq_false_iff_not,Bool.not_eq_true',decide_eq_false_iff_not,List.all_eq_true]at h;exact⟨h.1.1.1,fun c hc=>zkz (h.1.2 c hc),h.2⟩
def zgA:Int→List Rc→Int
 |last,[]=>last
 |last,r::t=>zgA (if r.1=0 then r.2.1 else last) t
def offA:Bool→List Rc→Bool
 |off,[]=>off
 |off,r::t=>offA (if r.1=2∨r.1=3 then !off else off) t
theorem zoR {V:Vals} {K:Bs→Option Dc}:∀(a b:List Rc) (last:Int) (off:Bool),zoO V K last off (a++b)=(zoO V K last off a&&zoO V K (zgA last a) (offA off a) b)
 | [],b,last,off=>by simp[zoO,zgA,offA]
 |r::a,b,last,off=>by
  rw[List.cons_append,zoO,zoO,zgA,offA];by_cases h0:r.1=0
  ·rw[if_pos h0,if_pos h0,if_pos h0,if_neg (by omega),zoR a b];simp only[Bool.and_assoc]
  rw[if_neg h0,if_neg h0,if_neg h0];by_cases h1:r.1=1
  ·rw[if_pos h1,if_pos h1,if_neg (by omega)];cases K r.2.2.1 with
   |none=>rfl
   |some x=>dsimp only;rw[zoR a b];simp only[Bool.and_assoc]
  rw[if_neg h1,if_neg h1];by_cases h2:r.1=2∨r.1=3
  ·rw[if_pos h2,if_pos h2,if_pos h2,zoR a b];simp only[Bool.and_assoc]
  rw[if_neg h2,if_neg h2,if_neg h2];by_cases h4:r.1=4
  ·rw[if_pos h4,if_pos h4,zoR a b];simp only[Bool.and_assoc]
  ·rw[if_neg h4,if_neg h4];rfl
open Go.RowKit
theorem zd5 {a b c:World} (h:Below a.heap.size a b) (k:Below b.heap.size b c):Below a.heap.size a c:=h.trans (k.mono h.size)
theorem zbA {w:World} {b o:Nat} {v:Value} (h:w.cell? ⟨b,o,none⟩=some v):b<w.heap.size:=World.block_lt_of_cell? (h:=h)
theorem zrM {k:IntKind} {a b:Int} (h:a=b):Ending.returned (.int k a)=.returned (.int k b):=by rw[h]
theorem zle {a b:Bool} (h:a=b):Ending.returned (.bool a)=.returned (.bool b):=by rw[h]
theorem zaD (b o j:Nat):(⟨b,o,none⟩:Addr).add j=⟨b,o+j,none⟩:=by unfold Addr.add;split<;>simp_all
def zaq (w:World) (b:Nat) (xs:List Value):Prop:=
 ∀j v,xs[j]? =some v→w.cell? ⟨b,j,none⟩=some v∧w.frozen? ⟨b,j,none⟩=false
theorem zaq.cell {w:World} {b:Nat} {xs:List Value} (h:zaq w b xs) {j:Nat} {v:Value} (hj:xs[j]? =some v):w.cell? ⟨b,j,none⟩=some v:=(h j v hj).1
theorem zaq.free {w:World} {b:Nat} {xs:List Value} (h:zaq w b xs) {j:Nat} (hj:j<xs.length):w.frozen? ⟨b,j,none⟩=false:=(h j _ (List.getElem?_eq_getElem hj)).2
theorem zaq.below {w w':World} {B b:Nat} {xs:List Value} (h:zaq w b xs) (hb:Below B w w') (hB:b<B):zaq w' b xs:=
 fun j v hj=>⟨(hb.cell (p:=⟨b,j,none⟩) hB).trans (h j v hj).1,(hb.frozen (p:=⟨b,j,none⟩) hB).trans (h j v hj).2⟩
theorem zaq.drew {w:World} {b:Nat} {xs:List Value} (h:zaq w b xs):zaq w.drew b xs:=h
theorem zaq.set {w:World} {b:Nat} {xs:List Value} (h:zaq w b xs) {j:Nat} (hj:j<xs.length) (u:Value):zaq (w.setCell ⟨b,j,none⟩ u) b (xs.set j u):=by
 intro i v hi;have hc:=h.cell (List.getElem?_eq_getElem hj);by_cases e:i=j
 ·subst e;rw[List.getElem?_set_self hj]at hi;obtain rfl:=Option.some.inj hi;exact⟨World.cell?_setCell_same _ _ _ hc,by rw[World.frozen?_setCell];exact h.free hj⟩
 ·rw[List.getElem?_set_ne (fun h=>e h.symm)]at hi;refine⟨?_,by rw[World.frozen?_setCell];exact(h i v hi).2⟩;rw[World.cell?_setCell_other (h:=by intro h;apply e;injection h with _ h2 _;exact h2.symm)];exact(h i v hi).1
def SlR (w:World) (v:Value) (n:Nat) (xs:List Value):Prop:=
 ∃a cap,v=.slice a n cap∧n≤cap∧cap≤maxLen∧(a=none→cap=0)∧(0<n→∃b o,a=some ⟨b,o,none⟩∧∀j u,xs[j]? =some u→w.cell? ⟨b,o+j,none⟩=some u)
theorem SlR.below {w w':World} {v:Value} {n:Nat} {xs:List Value} (h:SlR w v n xs) (hb:Below w.heap.size w w'):SlR w' v n xs:=by
 obtain⟨a,cap,hv,h1,h2,h3,h4⟩:=h;refine⟨a,cap,hv,h1,h2,h3,fun hn=>?_⟩;obtain⟨b,o,ha,hc⟩:=h4 hn;refine⟨b,o,ha,fun j u hj=>?_⟩;have:=hc j u hj;exact(hb.cell (p:=⟨b,o+j,none⟩) (zbA this)).trans this
theorem SlR.nil (w:World):SlR w (.slice none 0 0) 0 []:=⟨none,0,rfl,Nat.le_refl _,by simp[maxLen],fun _=>rfl,fun h=>absurd h (by simp)⟩
theorem SlR.of_own {w:World} {base e size:Nat} {v:Value} {n:Nat} {xs:List Value} (h:w.ownsRow base e size v n xs):SlR w v n xs:=by
 rcases h.2 with⟨rfl,rfl⟩|⟨g,cap,cur,rfl,hb,hg,hn,hm,hs,hx⟩
 ·exact⟨none,0,rfl,Nat.le_refl _,by simp[maxLen],fun _=>rfl,fun h=>absurd h (by simp)⟩
 ·refine⟨some ⟨g,0,none⟩,cap,rfl,hn,hm,fun h=>by simp at h,fun _=>⟨g,0,rfl,fun j u hj=>?_⟩⟩;have:=h.cells (g:=g) rfl j u hj;rwa [zaD]at this
theorem SlR.at {w:World} {v:Value} {n:Nat} {xs:List Value} (h:SlR w v n xs) (hn:0<n):
 ∃b o cap,v=.slice (some ⟨b,o,none⟩) n cap∧n≤cap∧cap≤maxLen∧∀j u,xs[j]? =some u→w.cell? ⟨b,o+j,none⟩=some u:=by
 obtain⟨a,cap,hv,h1,h2,h3,h4⟩:=h;obtain⟨b,o,rfl,hc⟩:=h4 hn;exact⟨b,o,cap,hv,h1,h2,hc⟩
theorem SlR.zero {w:World} {v:Value} {xs:List Value} (h:SlR w v 0 xs):∃a cap,v=.slice a 0 cap∧cap≤maxLen∧(a=none→cap=0):=by
 obtain⟨a,cap,hv,h1,h2,h3,h4⟩:=h;exact⟨a,cap,hv,h2,h3⟩
theorem SlR.shape {w:World} {v:Value} {n:Nat} {xs:List Value} (h:SlR w v n xs):∃a cap,v=.slice a n cap∧n≤cap∧cap≤maxLen:=by
 obtain⟨a,cap,hv,h1,h2,h3,h4⟩:=h;exact⟨a,cap,hv,h1,h2⟩
theorem zaV (a:ByteArray) (l:List UInt8) (h:a.data.toList=l):a=⟨l.toArray⟩:=by
 obtain⟨d⟩:=a;subst h;rfl
theorem zaq.fresh (w:World) (C:Array Value) (T:TypeId):zaq (w.alloc (.cells C T)) w.heap.size C.toList:=by
 intro j v hj;refine⟨?_,?_⟩
 ·rw[World.cell?_alloc_mark];simpa using hj
 ·rw[World.frozen?_alloc_mark];simp
theorem zaq.alloc {w:World} {b:Nat} {xs:List Value} (h:zaq w b xs) (hb:b<w.heap.size) (o:Obj):zaq (w.alloc o) b xs:=
 h.below ((Below.refl _ w).alloc (Nat.le_refl _) o) hb
theorem zbz {w:World} {b o:Nat} {v:Value} (h:w.cell? ⟨b,o,none⟩=some v) (x:Obj):(w.alloc x).cell? ⟨b,o,none⟩=some v:=
 (((Below.refl _ w).alloc (Nat.le_refl _) x).cell (p:=⟨b,o,none⟩) (zbA h)).trans h
theorem zd3 {w w1:World} {o:Obj} (hb:Below (w.alloc o).heap.size (w.alloc o) w1):Below w.heap.size w w1:=
 ((Below.refl _ _).alloc (Nat.le_refl _) o).trans (hb.mono (by simp))
theorem boxN {w W:World} {C:Array Value} {T:TypeId} (hb:Below (w.alloc (.cells C T)).heap.size (w.alloc (.cells C T)) W) (i:Nat):
 W.cell? ⟨w.heap.size,i,none⟩=C[i]? ∧W.frozen? ⟨w.heap.size,i,none⟩=false:=by
 refine⟨?_,?_⟩
 ·rw[hb.cell (p:=⟨w.heap.size,i,none⟩) (by simp),World.cell?_alloc_mark]
 ·rw[hb.frozen (p:=⟨w.heap.size,i,none⟩) (by simp),World.frozen?_alloc_mark];simp
theorem zaW {s v:ByteArray} (h:s≠v):(s.toList==v.toList)=false:=by
 rw[beq_eq_false_iff_ne,ByteArray.toList_eq,ByteArray.toList_eq];intro e;apply h;obtain⟨⟨a⟩⟩:=s;obtain⟨⟨b⟩⟩:=v;simp at e;rw[e]
def zb0 (c:UInt8):Int:=if c=48 then 0 else if c=49 then 1 else if c=120 then 2 else if c=122 then 3 else-1
theorem znM (s:ByteArray) (h:s.size≠0):s.toList.isEmpty=false:=by
 rw[ByteArray.toList_eq];cases hl:s.data.toList with
 |nil=>exact absurd (by have:=congrArg List.length hl;simpa using this) h
 |cons=>rfl
def bvIs (s:ByteArray):Bool:=decide (1≤s.size)&&decide (s.size≤128)&&s.data.toList.all (fun c=>zb0 c != -1)
def zbq (c:UInt8):Value:=.int .u8 c.toNat
set_option linter.unusedSimpArgs false
theorem zky {c:UInt8} (h:128≤c.toNat):prn c=false:=by
 unfold prn;rw[Bool.and_eq_false_iff,decide_eq_false_iff_not,decide_eq_false_iff_not];exact .inr (by omega)
theorem zaG {p:UInt8→Bool} {s:ByteArray} {pos:Nat} (h:pos<s.size):(s.data.toList.take (pos+1)).all p=((s.data.toList.take pos).all p&&p (s[pos]'h)):=by
 rw[List.take_succ_eq_append_getElem (by simpa using h),List.all_append];simp;rfl
theorem zaF {p:UInt8→Bool} {s:ByteArray} {pos:Nat} (h:pos<s.size) (hd:p (s[pos]'h)=false):s.data.toList.all p=false:=by
 rw[List.all_eq_false]
 exact⟨s[pos],by
  have:s[pos]=s.data.toList[pos]'(by simpa using h):=by simp;rfl
  rw[this];exact List.getElem_mem _,by rw[hd];simp⟩
theorem zkH (s:ByteArray) (w:World):Calls Tryz.prog 204 #[.string s] w fun e w'=>e=.returned (.bool (s.data.toList.all prn))∧Below w.heap.size w w':=by
 go_enter Tryz.func204,Tryz.ntmps204;go_wp2_with fail;go_loopw [2] (fun r_ w'=>∃pos:Nat,pos≤s.size∧r_=.bool false∧(s.data.toList.take pos).all prn=true∧w'=w.iter s pos) (fun _ w'=>s.size-w'.iterPos w.heap.size)
 case atStart=>exact⟨0,by omega,rfl,rfl,rfl⟩
 case round=>
  obtain⟨pos,hps,rfl,hall,rfl⟩:=hrel;have HA:=lhd hall;clear hall;by_cases hp:pos<s.size
  ·have hnx:∀ty,(Instr.next (.pointer (some ⟨w.heap.size,0,none⟩)) true ty).run Tryz.prog (w.iter s pos)=_:=fun ty=>run_next_any w s pos ty hp;have HT:=lhd (zaG (p:=prn) hp);have HN:=lhd (fun h=>zaF (p:=prn) hp h);by_cases ha:(s[pos]'hp).toNat<128
   ·rw[show Utf8.decode s pos=((s[pos]'hp).toNat,1)from decode_ascii s pos hp ha]at hnx;generalize s[pos]'hp=c at ha hnx HT HN;dsimp only at hnx;by_cases c1:c.toNat<33
    ·have HR:=lhd (HN.out (by unfold prn;rw[decide_eq_false (show ¬33≤c.toNat by omega)];rfl));have hb1:decide ((c.toNat:Int)<33)=true:=by rw[decide_eq_true_iff];omega
     go_wp2_with fail;go_ret;exact⟨zle (HR.out).symm,(Below.refl _ _).alloc (Nat.le_refl _) _⟩
    ·have hb1:decide ((c.toNat:Int)<33)=false:=by rw[decide_eq_false_iff_not];omega
     by_cases c2:126<c.toNat
     ·have HR:=lhd (HN.out (by unfold prn;rw[decide_eq_false (show ¬c.toNat≤126 by omega),Bool.and_false]));have hb2:decide ((126:Int)<(c.toNat:Int))=true:=by rw[decide_eq_true_iff];omega
      go_wp2_with fail;go_ret;exact⟨zle (HR.out).symm,(Below.refl _ _).alloc (Nat.le_refl _) _⟩
     ·have hb2:decide ((126:Int)<(c.toNat:Int))=false:=by rw[decide_eq_false_iff_not];omega
      have HA2:=lhd (show(s.data.toList.take (pos+1)).all prn=true by
       rw[HT.out,HA.out];unfold prn;rw[decide_eq_true (show 33≤c.toNat by omega),decide_eq_true (show c.toNat≤126 by omega)];rfl)
      go_wp2_with fail;go_roundw;case rel=>exact⟨pos+1,by omega,rfl,HA2.out,rfl⟩
      case measure=>simp;omega
   ·have HR:=lhd (HN.out (zky (by omega)));have hd:=(decode_high s pos hp (by omega)).1;have hb1:decide (((Utf8.decode s pos).1:Int)<33)=false:=by rw[decide_eq_false_iff_not];omega
    have hb2:decide ((126:Int)<((Utf8.decode s pos).1:Int))=true:=by rw[decide_eq_true_iff];omega
    clear hd;go_wp2_with fail;go_ret;exact⟨zle (HR.out).symm,(Below.refl _ _).alloc (Nat.le_refl _) _⟩
  ·obtain rfl:pos=s.size:=by omega
   have hnx:∀ty,(Instr.next (.pointer (some ⟨w.heap.size,0,none⟩)) true ty).run Tryz.prog (w.iter s s.size)=_:=fun ty=>run_next_end w s s.size ty hp
   have HR:=lhd (show s.data.toList.all prn=true by
    have:=HA.out;rwa [List.take_of_length_le (by simp)]at this)
   go_wp2_with fail;go_ret;exact⟨zle (HR.out).symm,(Below.refl _ _).alloc (Nat.le_refl _) _⟩
theorem zfJ:∀n:Fin 256,isW (UInt8.ofNat n.val)=(((n.val:Int)==32)||(decide ((9:Int)≤(n.val:Int))&&decide ((n.val:Int)≤13))):=by decide+kernel
theorem zfK (c:UInt8):isW c=(((c.toNat:Int)==32)||(decide ((9:Int)≤(c.toNat:Int))&&decide ((c.toNat:Int)≤13))):=by
 have:=zfJ ⟨c.toNat,c.toNat_lt⟩;simpa using this
theorem zgK (c:UInt8) (w:World):Calls Tryz.prog 61 #[.int .u8 (c.toNat:Int)] w fun e w'=>e=.returned (.bool (isW c))∧w'=w:=by
 have HW:=lhd (zfK c);cases h1:((c.toNat:Int)==32)
 all_goals cases h2:decide ((9:Int)≤(c.toNat:Int))
 all_goals cases h3:decide ((c.toNat:Int)≤13)
 all_goals
  have HV:=lhd (HW.out.trans (by rw[h1,h2,h3]));go_enter Tryz.func61,Tryz.ntmps61;go_wp2_with fail;go_ret;exact⟨zle (by rw[HV.out];rfl),rfl⟩
section
variable {α : Type} (k : α → Int)
def Srt (l:List α):Prop:=l.Pairwise fun x y=>k x≤k y
def ins (a:α):List α→List α
 | []=> [a]
 |x::l=>if k x<k a then x::ins a l else a::x::l
def zfL:List α→List α
 | []=> []
 |a::l=>ins k a (zfL l)
def mrg (A B:List α):List α:=A.foldr (ins k) B
variable {k}
theorem zfy {a:α}:∀{l:List α} {x:α},x∈ins k a l↔x=a∨x∈l
 | [],x=>by simp[ins]
 |y::l,x=>by
  unfold ins;split
  ·rw[List.mem_cons,zfy,List.mem_cons];constructor
   ·rintro(h|h|h)
    ·exact .inr (.inl h)
    ·exact .inl h
    ·exact .inr (.inr h)
   ·rintro(h|h|h)
    ·exact .inr (.inl h)
    ·exact .inl h
    ·exact .inr (.inr h)
  ·exact List.mem_cons
theorem zfx (a:α):∀l:List α,(ins k a l).length=l.length+1
 | []=>rfl
 |x::l=>by
  unfold ins;split
  ·rw[List.length_cons,zfx a l,List.length_cons]
  ·rfl
theorem zfB {a:α}:∀{l:List α},Srt k l→Srt k (ins k a l)
 | [],_=>List.pairwise_singleton _ _
 |x::l,h=>by
  have h':=List.pairwise_cons.1 h;unfold ins;split
  ·rename_i hx
   refine List.pairwise_cons.2 ⟨fun y hy=>?_,zfB h'.2⟩;rcases zfy.1 hy with rfl|hy
   ·omega
   ·exact h'.1 y hy
  ·rename_i hx
   refine List.pairwise_cons.2 ⟨fun y hy=>?_,h⟩;rcases List.mem_cons.1 hy with rfl|hy
   ·omega
   ·have:=h'.1 y hy;omega
theorem zhq (B:List α):mrg k [] B=B:=rfl
theorem zhj (a:α) (A B:List α):mrg k (a::A) B=ins k a (mrg k A B):=rfl
theorem zhi (A A' B:List α):mrg k (A++A') B=mrg k A (mrg k A' B):=by simp[mrg]
theorem zhp {B:List α} {x:α}:∀{A:List α},x∈mrg k A B↔x∈A∨x∈B
 | []=>by simp[zhq]
 |a::A=>by rw[zhj,zfy,zhp,List.mem_cons,or_assoc]
theorem zho (B:List α):∀A:List α,(mrg k A B).length=A.length+B.length
 | []=>by simp[zhq]
 |a::A=>by rw[zhj,zfx,zho B A,List.length_cons];omega
theorem zhv {B:List α} (h:Srt k B):∀A:List α,Srt k (mrg k A B)
 | []=>h
 |_::A=>zfB (zhv h A)
theorem zfT:∀l:List α,Srt k (zfL k l)
 | []=>List.Pairwise.nil
 |_::l=>zfB (zfT l)
theorem zfO:∀l:List α,(zfL k l).length=l.length
 | []=>rfl
 |a::l=>by unfold zfL;rw[zfx,zfO l,List.length_cons]
theorem zfP {x:α}:∀{l:List α},x∈zfL k l↔x∈l
 | []=>Iff.rfl
 |a::l=>by unfold zfL;rw[zfy,zfP,List.mem_cons]
theorem zfA (a:α):∀l:List α,(ins k a l).Perm (a::l)
 | []=>List.Perm.refl _
 |x::l=>by
  unfold ins;split
  ·exact((zfA a l).cons x).trans (List.Perm.swap a x l)
  ·exact List.Perm.refl _
theorem zfR:∀l:List α,(zfL k l).Perm l
 | []=>List.Perm.refl _
 |a::l=>(zfA a _).trans ((zfR l).cons a)
theorem zft {x:α} {D:List α} (h:∀y∈D,k x≤k y):ins k x D=x::D:=by
 cases D with
 |nil=>rfl
 |cons y D=>unfold ins;rw[if_neg (by have:=h y (by simp);omega)]
theorem zfz {x:α} {D:List α}:∀{B:List α},(∀y∈B,k y<k x)→ins k x (B++D)=B++ins k x D
 | [],_=>rfl
 |b::B,h=>by
  rw[List.cons_append];show(if k b<k x then b::ins k x (B++D)else x::b::(B++D))=_;rw[if_pos (h b (by simp)),zfz fun y hy=>h y (by simp[hy])];rfl
theorem zfv {x:α} {D:List α} (h:∀y∈D,k x≤k y):∀(E:List α),ins k x (E++D)=ins k x E++D
 | []=>by rw[List.nil_append,zft h];rfl
 |e::E=>by
  rw[List.cons_append];show(if k e<k x then e::ins k x (E++D)else x::e::(E++D))=(if k e<k x then e::ins k x E else x::e::E)++D;split
  ·rw[zfv h E];rfl
  ·rfl
theorem zfs {a x:α} (h:k x<k a):∀{C:List α},Srt k C→ins k a (ins k x C)=ins k x (ins k a C)
 | [],_=>by
   show(if k x<k a then x::ins k a []else _)=(if k a<k x then _ else _);rw[if_pos h,if_neg (by omega)];rfl
 |c::C,hs=>by
  have h':=List.pairwise_cons.1 hs;show ins k a (if k c<k x then c::ins k x C else x::c::C)=ins k x (if k c<k a then c::ins k a C else a::c::C);by_cases h1:k c<k x
  ·rw[if_pos h1,if_pos (by omega)];show(if k c<k a then c::ins k a (ins k x C)else _)=(if k c<k x then c::ins k x (ins k a C)else _);rw[if_pos (by omega),if_pos h1,zfs h h'.2]
  ·rw[if_neg h1];by_cases h2:k c<k a
   ·rw[if_pos h2];show(if k x<k a then x::(if k c<k a then c::ins k a C else _)else _)=(if k c<k x then _ else x::c::ins k a C);rw[if_pos h,if_pos h2,if_neg h1]
   ·rw[if_neg h2];show(if k x<k a then x::(if k c<k a then _ else a::c::C)else _)=(if k a<k x then _ else x::a::c::C);rw[if_pos h,if_neg h2,if_neg (by omega)]
theorem zhl {a:α} {C:List α} (hC:Srt k C):∀{A:List α},Srt k A→mrg k (ins k a A) C=ins k a (mrg k A C)
 | [],_=>rfl
 |x::A,h=>by
  have h':=List.pairwise_cons.1 h;show mrg k (if k x<k a then x::ins k a A else a::x::A) C=_;split
  ·rename_i hx
   rw[zhj,zhl hC h'.2,zhj,zfs hx (zhv hC A)]
  ·rfl
theorem zhm {C:List α} (hC:Srt k C):∀A:List α,mrg k (zfL k A) C=mrg k A C
 | []=>rfl
 |a::A=>by
  show mrg k (ins k a (zfL k A)) C=_;rw[zhl hC (zfT A),zhm hC A,zhj]
theorem zfM (A B:List α):zfL k (A++B)=mrg k (zfL k A) (zfL k B):=by
 rw[zhm (zfT B)];induction A with
 |nil=>rfl
 |cons a A ih=>rw[List.cons_append];show ins k a (zfL k (A++B))=_;rw[ih,zhj]
theorem zhu {A1 A2 B1 B2:List α} (hA:Srt k (A1++A2)) (h1:∀x∈A1,∀y∈B2,k x≤k y) (h2:∀y∈B1,∀x∈A2,k y<k x):mrg k (A1++A2) (B1++B2)=mrg k A1 B1++mrg k A2 B2:=by
 have e1:∀A:List α,(∀y∈B1,∀x∈A,k y<k x)→mrg k A (B1++B2)=B1++mrg k A B2:=by
  intro A;induction A with
  |nil=>intro _;rfl
  |cons a A ih=>
   intro h;rw[zhj,ih (fun y hy x hx=>h y hy x (by simp[hx])),zfz (fun y hy=>h y hy a (by simp)),zhj]
 have e2:∀(D:List α) (A:List α),(∀x∈A,∀y∈D,k x≤k y)→mrg k A (B1++D)=mrg k A B1++D:=by
  intro D A;induction A with
  |nil=>intro _;rfl
  |cons a A ih=>
   intro h;rw[zhj,ih (fun x hx y hy=>h x (by simp[hx]) y hy),zfv (fun y hy=>h a (by simp) y hy),zhj]
 rw[zhi,e1 A2 h2,e2 _ A1 (fun x hx y hy=>by
  rcases zhp.1 hy with hy|hy
  ·exact(List.pairwise_append.1 hA).2.2 x hx y hy
  ·exact h1 x hx y hy)]
theorem zhr {A:List α} (h:Srt k A):mrg k A []=A:=by
 induction A with
 |nil=>rfl
 |cons a A ih=>
  have h':=List.pairwise_cons.1 h;rw[zhj,ih h'.2,zft h'.1]
theorem zhn {A B:List α} (hA:Srt k A) (h:∀x∈A,∀y∈B,k x≤k y):mrg k A B=A++B:=by
 have:=zhu (A1:=A) (A2:=[]) (B1:=[]) (B2:=B) (by rw[List.append_nil];exact hA) h (fun y hy=>by cases hy);rw[List.append_nil,List.nil_append,zhr hA,zhq]at this;exact this
theorem zhs {x:α} {B1 B2:List α} (h1:∀y∈B1,k y<k x) (h2:∀y∈B2,k x≤k y):mrg k [x] (B1++B2)=B1++x::B2:=by
 rw[zhj,zhq,zfz h1,zft h2]
theorem zht {y:α} {A1 A2:List α} (hA:Srt k (A1++A2)) (h1:∀x∈A1,k x≤k y) (h2:∀x∈A2,k y<k x):mrg k (A1++A2) [y]=A1++y::A2:=by
 have hp:=List.pairwise_append.1 hA;have:=zhu (B1:=[y]) (B2:=[]) hA (fun x hx z hz=>by cases hz) (fun z hz x hx=>by rw[List.mem_singleton]at hz;subst hz;exact h2 x hx);rw[List.append_nil]at this;rw[this,zhn hp.1 (fun x hx z hz=>by rw[List.mem_singleton]at hz;subst hz;exact h1 x hx),zhr hp.2.1];simp
theorem zfS (A:List α) (y:α):zfL k (A++ [y])=mrg k (zfL k A) [y]:=zfM A [y]
theorem zfN {l:List α} (h:Srt k l):zfL k l=l:=by
 induction l with
 |nil=>rfl
 |cons a l ih=>
  have h':=List.pairwise_cons.1 h;show ins k a (zfL k l)=_;rw[ih h'.2,zft h'.1]
variable (k) in
end
section
variable {par : Nat → Int} {n : Nat}
def pre (par:Nat→Int) (n:Nat):Nat→Int→List Nat
 |0,_=> []
 |f+1,p=>(List.range n).flatMap fun i=>if par i=p then i::pre par n f i else []
def Fst (par:Nat→Int) (n:Nat):Prop:=∀i,i<n→ -1≤par i∧par i<(i:Int)
theorem zkx (f:Nat) (p:Int):pre par n (f+1) p=(List.range n).flatMap fun i=>if par i=p then i::pre par n f i else []:=rfl
theorem zkp {f:Nat} {p:Int} {x:Nat}:x∈pre par n (f+1) p↔ ∃i,i<n∧par i=p∧(x=i∨x∈pre par n f i):=by
 rw[zkx,List.mem_flatMap];constructor
 ·rintro⟨i,hi,hx⟩;split at hx
  ·rename_i hp
   exact⟨i,List.mem_range.1 hi,hp,List.mem_cons.1 hx⟩
  ·cases hx
 ·rintro⟨i,hi,hp,hx⟩;exact⟨i,List.mem_range.2 hi,by rw[if_pos hp];exact List.mem_cons.2 hx⟩
theorem zko (hF:Fst par n):∀(f:Nat) (p:Int) (x:Nat),x∈pre par n f p→x<n∧p≤par x∧p<(x:Int)∧(par x=p∨∃y,y∈pre par n f p∧par x=(y:Int))
 |0,_,_,h=>by cases h
 |f+1,p,x,h=>by
  obtain⟨i,hi,hp,hx⟩:=zkp.1 h;have h1:=hF i hi;rcases hx with rfl|hx
  ·exact⟨hi,by omega,by omega,.inl hp⟩
  ·obtain⟨a,b,c,d⟩:=zko hF f i x hx;refine⟨a,by omega,by omega,.inr ?_⟩;rcases d with d|⟨y,hy,d⟩
   ·exact⟨i,zkp.2 ⟨i,hi,hp,.inl rfl⟩,d⟩
   ·exact⟨y,zkp.2 ⟨i,hi,hp,.inr hy⟩,d⟩
theorem zkl (hF:Fst par n):∀(f:Nat) (p:Int) (x y:Nat),(n:Int)<(f:Int)+p+1→y∈pre par n f p→x<n→par x=(y:Int)→x∈pre par n f p
 |0,_,_,_,_,h,_,_=>by cases h
 |f+1,p,x,y,hf,h,hx,hp=>by
  obtain⟨i,hi,hpi,hy⟩:=zkp.1 h;have h1:=hF i hi;have h2:=hF x hx;rcases hy with rfl|hy
  ·cases f with
   |zero=>omega
   |succ f=>exact zkp.2 ⟨y,hi,hpi,.inr (zkp.2 ⟨x,hx,hp,.inl rfl⟩)⟩
  ·exact zkp.2 ⟨i,hi,hpi,.inr (zkl hF f i x y (by omega) hy hx hp)⟩
theorem zki (hF:Fst par n):∀(x:Nat),x<n→x∈pre par n (n+1) (-1):=fun x=>by
 induction x using Nat.strongRecOn with
 |ind x ih=>
  intro hx;have h:=hF x hx;by_cases hp:par x= -1
  ·exact zkp.2 ⟨x,hx,hp,.inl rfl⟩
  ·obtain⟨y,hy⟩:∃y:Nat,par x=(y:Int):=⟨(par x).toNat,by omega⟩;exact zkl hF (n+1) (-1) x y (by omega) (ih y (by omega) (by omega)) hx hy
theorem zkr (hF:Fst par n) {f:Nat} {p:Int}:∀(x i j:Nat),i<n→j<n→par i=p→par j=p→(x=i∨x∈pre par n f i)→(x=j∨x∈pre par n f j)→i=j:=fun x=>by
 induction x using Nat.strongRecOn with
 |ind x ih=>
  intro i j hi hj hpi hpj h1 h2;have fi:=hF i hi;have fj:=hF j hj;rcases h1 with rfl|h1
  ·rcases h2 with h2|h2
   ·exact h2
   ·have:=(zko hF f j x h2).2.1;omega
  ·have l1:=zko hF f i x h1;rcases h2 with rfl|h2
   ·have:=l1.2.1;omega
   ·have l2:=zko hF f j x h2;rcases l1.2.2.2 with e1|⟨y,hy,e1⟩
    ·rcases l2.2.2.2 with e2|⟨z,hz,e2⟩
     ·omega
     ·obtain rfl:i=z:=by omega
      exact ih i (by have:=hF x l1.1;omega) i j hi hj hpi hpj (.inl rfl) (.inr hz)
    ·rcases l2.2.2.2 with e2|⟨z,hz,e2⟩
     ·obtain rfl:j=y:=by omega
      exact ih j (by have:=hF x l1.1;omega) i j hi hj hpi hpj (.inr hy) (.inl rfl)
     ·obtain rfl:y=z:=by omega
      exact ih y (by have:=hF x l1.1;omega) i j hi hj hpi hpj (.inr hy) (.inr hz)
theorem zh4 {β γ:Type} {g:β→List γ}:∀{l:List β},l.Nodup→(∀a∈l,(g a).Nodup)→(∀a∈l,∀b∈l,∀x,x∈g a→x∈g b→a=b)→(l.flatMap g).Nodup
 | [],_,_,_=>List.nodup_nil
 |a::l,hn,h1,h2=>by
  have hn':=List.nodup_cons.1 hn;rw[List.flatMap_cons];refine List.nodup_append.2 ⟨h1 a (by simp),zh4 hn'.2 (fun b hb=>h1 b (by simp[hb])) (fun b hb c hc=>h2 b (by simp[hb]) c (by simp[hc])),?_⟩;rintro x hx y hy rfl;obtain⟨b,hb,hy⟩:=List.mem_flatMap.1 hy;exact hn'.1 (h2 a (by simp) b (by simp[hb]) x hx hy▸hb)
theorem zkq (hF:Fst par n):∀(f:Nat) (p:Int),(pre par n f p).Nodup
 |0,_=>List.nodup_nil
 |f+1,p=>by
  rw[zkx];refine zh4 List.nodup_range (fun i hi=>?_) (fun i hi j hj x hx hy=>?_)
  ·split
   ·refine List.nodup_cons.2 ⟨fun h=>?_,zkq hF f i⟩;have:=(zko hF f i i h).2.2.1;omega
   ·exact List.nodup_nil
  ·split at hx
   ·rename_i hpi
    split at hy
    ·rename_i hpj
     exact zkr hF x i j (List.mem_range.1 hi) (List.mem_range.1 hj) hpi hpj (List.mem_cons.1 hx) (List.mem_cons.1 hy)
    ·cases hy
   ·cases hx
theorem zkn (hF:Fst par n):(pre par n (n+1) (-1)).length=n:=by
 have h1:(pre par n (n+1) (-1)).Perm (List.range n):=by
  refine(List.perm_ext_iff_of_nodup (zkq hF _ _) List.nodup_range).2 fun x=>?_;rw[List.mem_range];exact⟨fun h=>(zko hF _ _ x h).1,fun h=>zki hF x h⟩
 rw[h1.length_eq,List.length_range]
theorem zkj:∀(f:Nat) (p:Int) (A:List Nat) (x:Nat) (B:List Nat),pre par n f p=A++x::B→par x=p∨∃y∈A,par x=(y:Int)
 |0,p,A,x,B,h=>by
  have:=congrArg List.length h;simp[pre]at this
 |f+1,p,A,x,B,h=>by
  rw[zkx]at h;generalize List.range n=is at h;induction is generalizing A with
  |nil=>
   have:=congrArg List.length h;simp at this
  |cons i is ih=>
   rw[List.flatMap_cons]at h;by_cases hc:par i=p
   ·rw[if_pos hc]at h;rcases List.append_eq_append_iff.1 h with⟨a',ha,hb⟩|⟨c',ha,hb⟩
    ·rcases ih a' hb with h1|⟨y,hy,h1⟩
     ·exact .inl h1
     ·exact .inr ⟨y,by rw[ha];simp[hy],h1⟩
    ·cases c' with
     |nil=>
      rcases ih [] hb.symm with h1|⟨y,hy,h1⟩
      ·exact .inl h1
      ·cases hy
     |cons z c'=>
      rw[List.cons_append]at hb;injection hb with hb1 hb2;subst hb1;cases A with
      |nil=>
       injection ha with ha1 _;subst ha1;exact .inl hc
      |cons a A=>
       injection ha with ha1 ha2;subst ha1;rcases zkj f i A x c' ha2 with h1|⟨y,hy,h1⟩
       ·exact .inr ⟨i,by simp,h1⟩
       ·exact .inr ⟨y,by simp[hy],h1⟩
   ·rw[if_neg hc,List.nil_append]at h;exact ih A h
def pos (o:List Nat) (i:Int):Int:=if i<0 then i else(o.idxOf i.toNat:Int)
theorem zjV {o:List Nat} {i j:Int} (hi: -1≤i) (hj: -1≤j) (h1:0≤i→i.toNat∈o) (h2:0≤j→j.toNat∈o) (h:pos o i=pos o j):i=j:=by
 unfold pos at h;split at h
 ·split at h
  ·omega
  ·omega
 ·rename_i hi0
  split at h
  ·omega
  ·rename_i hj0
   have e:o.idxOf i.toNat=o.idxOf j.toNat:=by omega
   have a:=List.idxOf_lt_length_of_mem (h1 (by omega));have b:=List.idxOf_lt_length_of_mem (h2 (by omega));have e2:o[o.idxOf i.toNat]=o[o.idxOf j.toNat]:=by simp only[e]
   rw[List.getElem_idxOf,List.getElem_idxOf]at e2;omega
theorem ze8:∀{A B:List Nat} {x:Nat},x∉A→(A++x::B).idxOf x=A.length
 | [],B,x,_=>by simp
 |a::A,B,x,h=>by
  rw[List.cons_append,List.idxOf_cons,ze8 (fun hx=>h (by simp[hx]))];have:(a==x)=false:=by rw[beq_eq_false_iff_ne];rintro rfl;exact h (by simp)
  rw[this];rfl
theorem zec {β γ:Type} {f g:β→List γ}:∀{l:List β},(∀a∈l,f a=g a)→l.flatMap f=l.flatMap g
 | [],_=>rfl
 |a::l,h=>by rw[List.flatMap_cons,List.flatMap_cons,h a (by simp),zec fun b hb=>h b (by simp[hb])]
theorem zeg (g:Nat→List Nat):∀(l:List Nat) (t:Nat),(l.zipIdx t).flatMap (fun x=>g x.2)=(List.range' t l.length).flatMap g
 | [],_=>rfl
 |a::l,t=>by rw[List.zipIdx_cons,List.flatMap_cons,zeg g l (t+1),List.length_cons,List.range'_succ,List.flatMap_cons]
theorem zee {β γ:Type} {f:β→List γ}:∀{l:List β},(∀a∈l,f a=[])→l.flatMap f=[]
 | [],_=>rfl
 |a::l,h=>by rw[List.flatMap_cons,h a (by simp),zee fun b hb=>h b (by simp[hb])];rfl
theorem zqG {l:List Nat} {t:Nat} {x:Nat×Nat} (h:x∈l.zipIdx t):x.1∈l:=by
 have:=List.mem_map_of_mem (f:=Prod.fst) h;rwa [List.zipIdx_map_fst]at this
theorem zkk (hF:Fst par n) {o:List Nat} (ho:o=pre par n (n+1) (-1)) {par':Nat→Int} (hp':∀j (h:j<o.length),par' j=pos o (par o[j])):
 ∀(f:Nat) (p:Int) (A B:List Nat),-1≤p→(0≤p→p.toNat∈o)→(n:Int)<(f:Int)+p+1→o=A++pre par n f p++B→pre par' n f (pos o p)=List.range' A.length (pre par n f p).length
 |0,_,_,_,_,_,_,_=>rfl
 |f+1,p,A,B,hp1,hp2,hf,hsp=>by
  have hnd:o.Nodup:=ho▸zkq hF _ _;have hln:o.length=n:=ho▸zkn hF;have hmem:∀x,x∈o↔x<n:=fun x=>by rw[ho];exact⟨fun h=>(zko hF _ _ x h).1,fun h=>zki hF x h⟩
  have e2:pre par' n (f+1) (pos o p)=(o.zipIdx 0).flatMap fun x=>if par x.1=p then x.2::pre par' n f x.2 else []:=by
   rw[zkx,←hln,List.range_eq_range',←zeg];refine zec fun x hx=>?_;obtain⟨h1,h2⟩:=List.mem_zipIdx' hx;rw[hp' x.2 h1,←h2,hln];have hxo:x.1<n:=(hmem _).1 (zqG hx);have hfx:=hF x.1 hxo;by_cases hc:par x.1=p
   ·rw[if_pos hc,if_pos (by rw[hc])]
   ·rw[if_neg hc,if_neg];exact fun h=>hc (zjV hfx.1 hp1 (fun h0=>(hmem _).2 (by omega)) hp2 h)
  have hin:∀x,x<n→par x=p→x∈pre par n (f+1) p:=fun x hx hp=>zkp.2 ⟨x,hx,hp,.inl rfl⟩
  have e3:∀(is A' B':List Nat),(∀i∈is,i<n)→o=A'++(is.flatMap fun i=>if par i=p then i::pre par n f i else [])++B'→
   (((is.flatMap fun i=>if par i=p then i::pre par n f i else []).zipIdx A'.length).flatMap fun x=>if par x.1=p then x.2::pre par' n f x.2 else [])=List.range' A'.length (is.flatMap fun i=>if par i=p then i::pre par n f i else []).length:=by
   intro is;induction is with
   |nil=>intro A' B' _ _;rfl
   |cons i is ih=>
    intro A' B' his hs;rw[List.flatMap_cons]at hs⊢;by_cases hc:par i=p
    ·rw[if_pos hc]at hs⊢;have hi:=his i (by simp);have hfi:=hF i hi;generalize hR:(is.flatMap fun i=>if par i=p then i::pre par n f i else [])=R at hs ih⊢;have hs2:o=A'++i::(pre par n f i++R++B'):=by rw[hs];simp
     have hiA:i∉A':=fun h=>by
      rw[hs2]at hnd;exact(List.nodup_append.1 hnd).2.2 i h i (by simp) rfl
     have hpi:pos o i=(A'.length:Int):=by
      unfold pos;rw[if_neg (by omega),Int.toNat_natCast,hs2,ze8 hiA]
     have h1:=zkk hF ho hp' f i (A'++ [i]) (R++B') (by omega) (fun _=>by rw[Int.toNat_natCast];exact(hmem i).2 hi) (by omega) (by rw[hs];simp);rw[hpi]at h1;have h2:=ih (A'++i::pre par n f i) B' (fun j hj=>his j (by simp[hj])) (by rw[hs];simp);rw[List.cons_append,List.zipIdx_cons,List.flatMap_cons,if_pos hc,List.zipIdx_append,List.flatMap_append];dsimp only
     rw[zee (l:=(pre par n f i).zipIdx (A'.length+1)) (fun x hx=>by
      rw[if_neg];have:=(zko hF f i x.1 (zqG hx)).2.1;omega),List.nil_append,h1]
     rw[List.length_append,List.length_cons]at h2
     rw[show A'.length+1+(pre par n f i).length=A'.length+((pre par n f i).length+1)by omega,h2,List.length_append,List.length_singleton,List.length_cons,List.length_append,
      show(pre par n f i).length+R.length+1=((pre par n f i).length+1)+R.length by omega,←List.range'_append_1,List.range'_succ]
    ·rw[if_neg hc,List.nil_append]at hs⊢;exact ih A' B' (fun j hj=>his j (by simp[hj])) hs
  have hout:∀x,x∈A∨x∈B→par x≠p:=by
   intro x hx hp;have hxo:x<n:=(hmem x).1 (by rw[hsp];rcases hx with h|h<;>simp[h]);have hb:=hin x hxo hp;rw[hsp]at hnd;rcases hx with h|h
   ·exact(List.nodup_append.1 (List.nodup_append.1 hnd).1).2.2 x h x hb rfl
   ·exact(List.nodup_append.1 hnd).2.2 x (by simp[hb]) x h rfl
  have h3:=e3 (List.range n) A B (fun i hi=>List.mem_range.1 hi) hsp;rw[←zkx]at h3
  rw[e2,hsp,List.zipIdx_append,List.zipIdx_append,List.flatMap_append,List.flatMap_append,zee (l:=A.zipIdx 0) (fun x hx=>by rw[if_neg (hout _ (.inl (zqG hx)))]),
   zee (l:=B.zipIdx _) (fun x hx=>by rw[if_neg (hout _ (.inr (zqG hx)))]),List.nil_append,List.append_nil,Nat.zero_add,h3]
theorem zkh (hF:Fst par n) {par':Nat→Int} (hp':∀j (h:j<(pre par n (n+1) (-1)).length),par' j=pos (pre par n (n+1) (-1)) (par (pre par n (n+1) (-1))[j])):
 pre par' n (n+1) (-1)=List.range n:=by
 have:=zkk hF rfl hp' (n+1) (-1) [] [] (by omega) (fun h=>by omega) (by omega) (by simp);rw[zkn hF]at this;rw[List.range_eq_range'];exact this
end
abbrev Sc:=Bs×Int×Int
structure Vr where
 nm:Bs
 ty:Int
 sc:Int
 sg:Int
 rg:Bool
 mb:Int
 lb:Int
deriving DecidableEq
def zhz (s:Bs):Bool:=decide (s≠ [])&&decide (s.length≤32)&&s.all prn&&(match s with
 | []=>false
 |c::_=>if c=92 then decide (2≤s.length)else decide (c≠36)&&!s.any fun d=>d==92||d==46||d==91||d==93)
def zba (n:Int):Bool:=decide (-32768≤n)&&decide (n≤32768)
def zpX (m l:Int):Int:=if(zba m&&zba l)=true then max m l-min m l+1 else 0
def zcV (S:List Sc) (V:List Vr):Bool:=S.zipIdx.all (fun x=>decide (-1≤x.1.2.2)&&decide (x.1.2.2<(x.2:Int)))&&V.all fun v=>decide (-1≤v.sc)&&decide (v.sc<(S.length:Int))&&decide (0≤v.sg)
def upL (S:List Sc):Nat→Int→List Nat
 |0,_=> []
 |f+1,i=>if i<0 then []else match S[i.toNat]? with
  |none=> []
  |some s=>i.toNat::upL S f s.2.2
def zkJ (v:Vr):Bool:=if v.rg=true then decide (zpX v.mb v.lb=0)else decide (v.mb≠0)||decide (v.lb≠0)
abbrev ScK:=Int×Bs
abbrev VrK:=Int×Bs×Bool×Int×Int
def zlM (s:Sc):ScK:=(s.2.2,s.1)
def zpk (v:Vr):VrK:=(v.sc,v.nm,v.rg,v.mb,v.lb)
def uniq {α K:Type} [DecidableEq K] (key:α→K):List α→Bool
 | []=>true
 |x::l=>uniq key l&&!(l.map key).contains (key x)
def zbF (S:List Sc) (V:List Vr):Int:=
 if 32<S.length∨128<V.length then 9
 else if zcV S V=false then 1
 else if(List.range S.length).any (fun i=>decide (8<(upL S (i+1) i).length))=true then 9
 else if(S.any (fun s=>!zhz s.1)||V.any fun v=>!zhz v.nm)=true then 4
 else if(S.any (fun s=>decide (s.2.1<0)||decide (4<s.2.1))||V.any fun v=>decide (v.ty<0)||decide (18<v.ty))=true then 7
 else if V.any zkJ=true then 2
 else if(!uniq zlM S||!uniq zpk V)=true then 5
 else 0
def parS (S:List Sc) (i:Nat):Int:=(S.getD i ([],0,0)).2.2
def preS (S:List Sc):List Nat:=pre (parS S) S.length (S.length+1) (-1)
def scF (S:List Sc):List Sc:=
 (preS S).map fun i=>((S.getD i ([],0,0)).1,(S.getD i ([],0,0)).2.1,pos (preS S) (parS S i))
def numF:List Int→List Vr→List Vr×List Int
 |fm,[]=>([],fm)
 |fm,v::l=>
  if fm.contains v.sg=true then({v with sg:=(fm.idxOf v.sg:Int)}::(numF fm l).1,(numF fm l).2)
  else({v with sg:=(fm.length:Int)}::(numF (fm++ [v.sg]) l).1,(numF (fm++ [v.sg]) l).2)
def vr1 (S:List Sc) (V:List Vr):List Vr:=V.map fun v=>{v with sc:=pos (preS S) v.sc}
def vr2 (S:List Sc) (V:List Vr):List Vr:=zfL (fun v:Vr=>v.sc) (vr1 S V)
def vrF (S:List Sc) (V:List Vr):List Vr×List Int:=numF [] (vr2 S V)
def zi8 (S:List Sc) (V:List Vr):List Sc×List Vr×List Int×Int:=
 if zbF S V≠0 then([],[],[],zbF S V)else(scF S,(vrF S V).1,(vrF S V).2,0)
theorem zc0 {S:List Sc} {V:List Vr} (h:zcV S V=true):Fst (parS S) S.length:=by
 unfold zcV at h;rw[Bool.and_eq_true,List.all_eq_true]at h;intro i hi;have:=h.1 (S[i],i) (by rw[List.mem_zipIdx_iff_getElem?];simp[hi]);rw[Bool.and_eq_true,decide_eq_true_iff,decide_eq_true_iff]at this;unfold parS;rw[List.getD,List.getElem?_eq_getElem hi];exact this
theorem zc6 {S:List Sc} {V:List Vr} (h:zcV S V=true):∀v∈V,-1≤v.sc∧v.sc<(S.length:Int)∧0≤v.sg:=by
 unfold zcV at h;rw[Bool.and_eq_true,List.all_eq_true,List.all_eq_true]at h;intro v hv;have:=h.2 v hv;rw[Bool.and_eq_true,Bool.and_eq_true,decide_eq_true_iff,decide_eq_true_iff,decide_eq_true_iff]at this;exact⟨this.1.1,this.1.2,this.2⟩
theorem zc2 {S:List Sc} {V:List Vr} (h:Fst (parS S) S.length) (hv:∀v∈V,-1≤v.sc∧v.sc<(S.length:Int)∧0≤v.sg):zcV S V=true:=by
 unfold zcV;rw[Bool.and_eq_true,List.all_eq_true,List.all_eq_true];refine⟨fun x hx=>?_,fun v hv'=>?_⟩
 ·obtain⟨s,i⟩:=x;have hx':=List.mem_zipIdx_iff_getElem?.1 hx;dsimp only at hx'⊢;obtain⟨hi,rfl⟩:=List.getElem?_eq_some_iff.1 hx';have:=h i hi;unfold parS at this;rw[List.getD,List.getElem?_eq_getElem hi]at this;rw[Bool.and_eq_true,decide_eq_true_iff,decide_eq_true_iff];exact this
 ·rw[Bool.and_eq_true,Bool.and_eq_true,decide_eq_true_iff,decide_eq_true_iff,decide_eq_true_iff];have:=hv v hv';exact⟨⟨this.1,this.2.1⟩,this.2.2⟩
theorem zoc {α K:Type} [DecidableEq K] {key:α→K}:∀{l:List α},uniq key l=true↔(l.map key).Nodup
 | []=>by simp[uniq]
 |x::l=>by
  unfold uniq;rw[Bool.and_eq_true,zoc,List.map_cons,List.nodup_cons,Bool.not_eq_true',and_comm];refine and_congr ?_ Iff.rfl;rw[←Bool.not_eq_true,List.contains_iff_mem]
theorem zjX {n:Nat} {i:Int} (h1:i<(n:Int)):pos (List.range n) i=i:=by
 unfold pos;split
 ·rfl
 ·rename_i h0
  obtain⟨m,rfl⟩:∃m:Nat,i=(m:Int):=⟨i.toNat,by omega⟩;have hm:m<n:=by omega
  rw[Int.toNat_natCast,show List.range n=List.range m++m::(List.range' (m+1) (n-m-1))by
   rw[List.range_eq_range',List.range_eq_range',←List.range'_succ,show n-m-1+1=n-m by omega];have:=List.range'_append_1 (s:=0) (m:=m) (n:=n-m);rw[Nat.zero_add,show m+(n-m)=n by omega]at this;exact this.symm]
  rw[ze8 (fun h=>by rw[List.mem_range]at h;omega),List.length_range]
def rgI (k:Nat):List Int:=(List.range k).map fun i:Nat=>(i:Int)
theorem zlk (k:Nat):rgI (k+1)=rgI k++ [(k:Int)]:=by simp[rgI,List.range_succ]
theorem zli (k:Nat):(rgI k).length=k:=by simp[rgI]
theorem zlj {k:Nat} {x:Int}:x∈rgI k↔0≤x∧x<(k:Int):=by
 unfold rgI;rw[List.mem_map];constructor
 ·rintro⟨i,hi,rfl⟩;have:=List.mem_range.1 hi;omega
 ·rintro⟨h1,h2⟩;exact⟨x.toNat,List.mem_range.2 (by omega),by omega⟩
theorem zlh:∀{k i:Nat},i<k→(rgI k).idxOf (i:Int)=i
 |k+1,i,h=>by
  rw[zlk,List.idxOf_append];by_cases hi:i<k
  ·rw[if_pos (zlj.2 (by omega)),zlh hi]
  ·obtain rfl:i=k:=by omega
   rw[if_neg (fun hm=>by have:=zlj.1 hm;omega),zli];simp
theorem zif {fm:List Int} {v:Vr} {l:List Vr} (h:fm.contains v.sg=true):numF fm (v::l)=({v with sg:=(fm.idxOf v.sg:Int)}::(numF fm l).1,(numF fm l).2):=by rw[numF,if_pos h]
theorem zig {fm:List Int} {v:Vr} {l:List Vr} (h:¬fm.contains v.sg=true):numF fm (v::l)=({v with sg:=(fm.length:Int)}::(numF (fm++ [v.sg]) l).1,(numF (fm++ [v.sg]) l).2):=by rw[numF,if_neg h]
theorem zil:∀(l:List Vr) (fm:List Int),∃m,fm.length≤m∧(numF fm l).2.length=m∧numF (rgI fm.length) (numF fm l).1=((numF fm l).1,rgI m)
 | [],fm=>⟨fm.length,Nat.le_refl _,rfl,rfl⟩
 |v::l,fm=>by
  by_cases hc:fm.contains v.sg=true
  ·obtain⟨m,h1,h2,h3⟩:=zil l fm;have hi:=List.idxOf_lt_length_of_mem (List.contains_iff_mem.1 hc);refine⟨m,h1,?_,?_⟩
   ·rw[zif hc];exact h2
   ·rw[zif hc,zif (by rw[List.contains_iff_mem];exact zlj.2 (by dsimp only;omega))];dsimp only;rw[zlh hi,h3]
  ·obtain⟨m,h1,h2,h3⟩:=zil l (fm++ [v.sg]);rw[List.length_append,List.length_singleton]at h1 h3;refine⟨m,by omega,?_,?_⟩
   ·rw[zig hc];exact h2
   ·rw[zig hc,zig (by rw[List.contains_iff_mem];intro hm;have:=(zlj.1 hm).2;dsimp only at this;omega)];dsimp only;rw[zli,←zlk,h3]
theorem zio {β:Type} (g:Vr→β) (hg:∀v x,g {v with sg:=x}=g v):∀(l:List Vr) (fm:List Int),(numF fm l).1.map g=l.map g
 | [],_=>rfl
 |v::l,fm=>by
  unfold numF;split
  ·dsimp only;rw[List.map_cons,List.map_cons,hg,zio g hg]
  ·dsimp only;rw[List.map_cons,List.map_cons,hg,zio g hg]
theorem zis:∀(l:List Vr) (fm:List Int),∀v∈(numF fm l).1,0≤v.sg
 | [],_=>by intro v hv;cases hv
 |v::l,fm=>by
  intro x hx;unfold numF at hx;split at hx
  ·rcases List.mem_cons.1 hx with rfl|hx
   ·dsimp only;omega
   ·exact zis l _ x hx
  ·rcases List.mem_cons.1 hx with rfl|hx
   ·dsimp only;omega
   ·exact zis l _ x hx
theorem zaK {α:Type} {p:α→Bool} {l:List α}:l.any p=false↔ ∀x∈l,p x=false:=by
 rw[←Bool.not_eq_true,List.any_eq_true]
 exact⟨fun h x hx=>by cases hp:p x with
  |true=>exact absurd ⟨x,hx,hp⟩ h
  |false=>rfl,fun h ⟨x,hx,hp⟩=>by rw[h x hx]at hp;cases hp⟩
structure ChkOk (S:List Sc) (V:List Vr):Prop where
 n:S.length≤32
 m:V.length≤128
 d:zcV S V=true
 u:∀i,i<S.length→(upL S (i+1) (i:Int)).length≤8
 ns:∀s∈S,zhz s.1=true
 nv:∀v∈V,zhz v.nm=true
 ts:∀s∈S,0≤s.2.1∧s.2.1≤4
 tv:∀v∈V,0≤v.ty∧v.ty≤18
 r:∀v∈V,zkJ v=false
 ks:(S.map zlM).Nodup
 kv:(V.map zpk).Nodup
theorem zbN {S:List Sc} {V:List Vr}:zbF S V=0↔ChkOk S V:=by
 unfold zbF;constructor
 ·intro h;split at h
  ·cases h
  rename_i h1
  split at h
  ·cases h
  rename_i h2
  split at h
  ·cases h
  rename_i h3
  split at h
  ·cases h
  rename_i h4
  split at h
  ·cases h
  rename_i h5
  split at h
  ·cases h
  rename_i h6
  split at h
  ·cases h
  rename_i h7
  rw[Bool.not_eq_true,zaK]at h3;rw[Bool.not_eq_true,Bool.or_eq_false_iff,zaK,zaK]at h4 h5;rw[Bool.not_eq_true,zaK]at h6;rw[Bool.not_eq_true,Bool.or_eq_false_iff,Bool.not_eq_false',Bool.not_eq_false',zoc,zoc]at h7;rw[Bool.not_eq_false]at h2;refine⟨by omega,by omega,h2,fun i hi=>?_,fun s hs=>?_,fun v hv=>?_,fun s hs=>?_,fun v hv=>?_,h6,h7.1,h7.2⟩
  ·have:=of_decide_eq_false (h3 i (List.mem_range.2 hi));omega
  ·have:=h4.1 s hs;rwa [Bool.not_eq_false']at this
  ·have:=h4.2 v hv;rwa [Bool.not_eq_false']at this
  ·have:=h5.1 s hs;rw[Bool.or_eq_false_iff,decide_eq_false_iff_not,decide_eq_false_iff_not]at this;omega
  ·have:=h5.2 v hv;rw[Bool.or_eq_false_iff,decide_eq_false_iff_not,decide_eq_false_iff_not]at this;omega
 ·rintro⟨a,b,c,d,e,f,g,h,i,j,k⟩;rw[if_neg (by omega),if_neg (by rw[c];simp),if_neg,if_neg,if_neg,if_neg,if_neg]
  ·rw[Bool.not_eq_true,Bool.or_eq_false_iff,Bool.not_eq_false',Bool.not_eq_false',zoc,zoc];exact⟨j,k⟩
  ·rw[Bool.not_eq_true,zaK];exact i
  ·rw[Bool.not_eq_true,Bool.or_eq_false_iff,zaK,zaK];refine⟨fun s hs=>?_,fun v hv=>?_⟩
   ·rw[Bool.or_eq_false_iff,decide_eq_false_iff_not,decide_eq_false_iff_not];have:=g s hs;omega
   ·rw[Bool.or_eq_false_iff,decide_eq_false_iff_not,decide_eq_false_iff_not];have:=h v hv;omega
  ·rw[Bool.not_eq_true,Bool.or_eq_false_iff,zaK,zaK];exact⟨fun s hs=>by rw[e s hs];rfl,fun v hv=>by rw[f v hv];rfl⟩
  ·rw[Bool.not_eq_true,zaK];intro x hx;rw[decide_eq_false_iff_not];have:=d x (List.mem_range.1 hx);omega
theorem zkd {S:List Sc} (hF:Fst (parS S) S.length):(preS S).length=S.length:=zkn hF
theorem zke {S:List Sc} (hF:Fst (parS S) S.length) {x:Nat}:x∈preS S↔x<S.length:=⟨fun h=>(zko hF _ _ x h).1,fun h=>zki hF x h⟩
theorem zkf {S:List Sc} (hF:Fst (parS S) S.length):(preS S).Nodup:=zkq hF _ _
theorem zlK {S:List Sc} (hF:Fst (parS S) S.length):(scF S).length=S.length:=by unfold scF;rw[List.length_map,zkd hF]
theorem zlI {S:List Sc} {j:Nat} (h:j<(scF S).length) (h':j<(preS S).length):(scF S)[j]=((S.getD (preS S)[j] ([],0,0)).1,(S.getD (preS S)[j] ([],0,0)).2.1,pos (preS S) (parS S (preS S)[j])):=by
 simp only[scF,List.getElem_map]
theorem zjH {S:List Sc} (hF:Fst (parS S) S.length) (j:Nat) (h:j<(preS S).length):parS (scF S) j=pos (preS S) (parS S (preS S)[j]):=by
 have h2:j<(scF S).length:=by rw[zlK hF,←zkd hF];exact h
 unfold parS;rw[List.getD,List.getElem?_eq_getElem h2,Option.getD_some,zlI h2 h];rfl
theorem zjW {S:List Sc} (hF:Fst (parS S) S.length) {q:Int} (h:q<(S.length:Int)):pos (preS S) q<(S.length:Int):=by
 unfold pos;split
 ·exact h
 ·have:=List.idxOf_lt_length_of_mem ((zke hF (x:=q.toNat)).2 (by omega));rw[zkd hF]at this;omega
theorem zkc {S:List Sc} (hF:Fst (parS S) S.length):preS (scF S)=List.range S.length:=by
 unfold preS;rw[zlK hF];exact zkh hF (zjH hF)
theorem zjE {S:List Sc} (hF:Fst (parS S) S.length) {j:Nat} (h:j<S.length):parS (scF S) j<(S.length:Int):=by
 have h':j<(preS S).length:=by rw[zkd hF];exact h
 rw[zjH hF j h'];have h2:=(zke hF).1 (List.getElem_mem h');have:=hF _ h2;exact zjW hF (by omega)
theorem zlH {S:List Sc} (hF:Fst (parS S) S.length):scF (scF S)=scF S:=by
 have hl:=zlK hF;apply List.ext_getElem
 ·unfold scF;rw[List.length_map,List.length_map,show preS (List.map _ (preS S))=List.range S.length from zkc hF,List.length_range,zkd hF]
 ·intro i h1 h2;have h3:i<S.length:=by rw[←hl];exact h2
  rw[show(scF (scF S))[i]=(((scF S).getD (preS (scF S))[i]! ([],0,0)).1,((scF S).getD (preS (scF S))[i]! ([],0,0)).2.1,pos (preS (scF S)) (parS (scF S) (preS (scF S))[i]!))by
   have h4:i<(preS (scF S)).length:=by rw[zkc hF,List.length_range];exact h3
   simp only[scF,List.getElem_map];rw[getElem!_pos _ i h4];rfl]
  rw[zkc hF];have e:(List.range S.length)[i]! =i:=by rw[getElem!_pos _ i (by rw[List.length_range];exact h3),List.getElem_range]
  rw[e,zjX (zjE hF h3)];unfold parS;rw[List.getD,List.getElem?_eq_getElem h2,Option.getD_some]
theorem zoi {S:List Sc} (hF:Fst (parS S) S.length):∀(f g:Nat) (q:Int),q<(g:Int)→(upL S f q).length≤(upL S g q).length
 |0,_,_,_=>Nat.zero_le _
 |f+1,0,q,h=>by
  unfold upL;rw[if_pos (by omega)];exact Nat.zero_le _
 |f+1,g+1,q,h=>by
  unfold upL;split
  ·exact Nat.zero_le _
  ·rename_i h0
   split
   ·exact Nat.zero_le _
   ·rename_i s hs
    obtain⟨hi,he⟩:=List.getElem?_eq_some_iff.1 hs;have:=hF q.toNat hi;unfold parS at this;rw[List.getD,List.getElem?_eq_getElem hi,Option.getD_some,he]at this;have:=zoi hF f g s.2.2 (by omega);rw[List.length_cons,List.length_cons];omega
theorem zol {S:List Sc} (hF:Fst (parS S) S.length):∀(f:Nat) (q:Int),q<(S.length:Int)→(upL (scF S) f (pos (preS S) q)).length=(upL S f q).length
 |0,_,_=>rfl
 |f+1,q,h=>by
  by_cases h0:q<0
  ·unfold upL;rw[if_pos h0,if_pos (by unfold pos;rw[if_pos h0];exact h0)]
  ·obtain⟨x,rfl⟩:∃x:Nat,q=(x:Int):=⟨q.toNat,by omega⟩;have hx:x<S.length:=by omega
   have hm:=(zke hF).2 hx;have hi:=List.idxOf_lt_length_of_mem hm;have hi2:(preS S).idxOf x<(scF S).length:=by rw[zlK hF,←zkd hF];exact hi
   have e0:pos (preS S) (x:Int)=((preS S).idxOf x:Int):=by unfold pos;rw[if_neg h0,Int.toNat_natCast]
   rw[e0];unfold upL;rw[if_neg (by omega),if_neg h0,Int.toNat_natCast,Int.toNat_natCast,List.getElem?_eq_getElem hi2,List.getElem?_eq_getElem hx];dsimp only;rw[List.length_cons,List.length_cons,zlI hi2 hi,List.getElem_idxOf];dsimp only;have hp:parS S x=S[x].2.2:=by unfold parS;rw[List.getD,List.getElem?_eq_getElem hx,Option.getD_some]
   rw[hp,zol hF f _ (by have:=hF x hx;rw[hp]at this;omega)]
theorem zhc {α β:Type} {f:α→β} {p:β→Prop} {l m:List α} (h:(l.map f).Perm (m.map f)) (hm:∀x∈m,p (f x)):∀x∈l,p (f x):=by
 intro x hx;obtain⟨y,hy,e⟩:=List.mem_map.1 (h.subset (List.mem_map_of_mem hx));rw[←e];exact hm y hy
theorem zeu {β:Type} (S:List Sc) (g:Sc→β):(List.range S.length).map (fun i=>g (S.getD i ([],0,0)))=S.map g:=by
 apply List.ext_getElem
 ·rw[List.length_map,List.length_range,List.length_map]
 ·intro i h1 h2;rw[List.length_map]at h2;rw[List.getElem_map,List.getElem_map,List.getElem_range,List.getD,List.getElem?_eq_getElem h2,Option.getD_some]
theorem zkg {S:List Sc} (hF:Fst (parS S) S.length):(preS S).Perm (List.range S.length):=
 (List.perm_ext_iff_of_nodup (zkf hF) List.nodup_range).2 fun x=>by rw[List.mem_range];exact zke hF
theorem zlL {β:Type} {S:List Sc} (hF:Fst (parS S) S.length) (g:Bs×Int→β):((scF S).map fun s=>g (s.1,s.2.1)).Perm (S.map fun s=>g (s.1,s.2.1)):=by
 rw[←zeu S fun s=>g (s.1,s.2.1)];unfold scF;rw[List.map_map];exact(zkg hF).map _
theorem zh5 {α β γ:Type} {f:α→β} {g:α→γ}:∀{l:List α},(∀x∈l,∀y∈l,g x=g y→f x=f y)→(l.map f).Nodup→(l.map g).Nodup
 | [],_,_=>List.nodup_nil
 |a::l,h,hn=>by
  rw[List.map_cons,List.nodup_cons]at hn⊢;refine⟨fun hm=>hn.1 ?_,zh5 (fun x hx y hy=>h x (by simp[hx]) y (by simp[hy])) hn.2⟩;obtain⟨y,hy,e⟩:=List.mem_map.1 hm;rw[h a (by simp) y (by simp[hy]) e.symm];exact List.mem_map_of_mem hy
theorem zpm {β:Type} {S:List Sc} {V:List Vr} (g:Vr→β) (hg:∀v x,g {v with sg:=x}=g v):(((vrF S V).1).map g).Perm ((vr1 S V).map g):=by
 unfold vrF;rw[zio g hg];exact(zfR _).map g
theorem zpn {β:Type} {S:List Sc} {V:List Vr} (g:Vr→β) (hg:∀v x,g {v with sg:=x}=g v) (hg2:∀v x,g {v with sc:=x}=g v):(((vrF S V).1).map g).Perm (V.map g):=by
 have h:=zpm (S:=S) (V:=V) g hg;unfold vr1 at h;rw[List.map_map,show(g∘fun v:Vr=>{v with sc:=pos (preS S) v.sc})=g from funext fun v=>hg2 v _]at h;exact h
theorem zpo {S:List Sc} {V:List Vr} (hF:Fst (parS S) S.length) (hv:∀v∈V,-1≤v.sc∧v.sc<(S.length:Int)):∀v∈(vrF S V).1,-1≤v.sc∧v.sc<(S.length:Int):=
 zhc (f:=fun v:Vr=>v.sc) (p:=fun x=> -1≤x∧x<(S.length:Int)) (zpm (S:=S) (V:=V) (fun v=>v.sc) (fun _ _=>rfl)) (by
  intro v hm;unfold vr1 at hm;obtain⟨u,hu,rfl⟩:=List.mem_map.1 hm;have:=hv u hu;refine⟨?_,zjW hF this.2⟩;dsimp only;unfold pos;split<;>omega)
theorem zpp {S:List Sc} {V:List Vr}:Srt (fun v:Vr=>v.sc) (vrF S V).1:=by
 have h:Srt (fun v:Vr=>v.sc) (vr2 S V):=zfT _;unfold Srt at*;have e:(vrF S V).1.map (fun v=>v.sc)=(vr2 S V).map fun v=>v.sc:=zio (fun v:Vr=>v.sc) (fun _ _=>rfl) _ _;have h1:((vr2 S V).map fun v=>v.sc).Pairwise (· ≤ ·):=List.pairwise_map.2 h;rw[←e]at h1;exact List.pairwise_map.1 h1
theorem zi9 {S:List Sc} {V:List Vr} (h:zbF S V=0):zbF (scF S) (vrF S V).1=0∧scF (scF S)=scF S∧vrF (scF S) (vrF S V).1=((vrF S V).1,rgI (vrF S V).2.length):=by
 obtain⟨hn,hm,hd,hu,hns,hnv,hts,htv,hr,hks,hkv⟩:=zbN.1 h;have hF:=zc0 hd;have hV:=zc6 hd;have hl:=zlK hF
 have hF2:Fst (parS (scF S)) (scF S).length:=by
  intro j hj;rw[hl]at hj;have hj':j<(preS S).length:=by rw[zkd hF];exact hj
  rw[zjH hF j hj'];have hx:=(zke hF).1 (List.getElem_mem hj');have hsp:preS S=(preS S).take j++(preS S)[j]::(preS S).drop (j+1):=by rw[←List.drop_eq_getElem_cons hj',List.take_append_drop]
  have hfx:=hF _ hx;rcases zkj _ _ _ _ _ hsp with h1|⟨y,hy,h1⟩
  ·rw[h1];exact⟨by show(-1:Int)≤ -1;omega,by show(-1:Int)<(j:Int);omega⟩
  ·rw[h1];obtain⟨i,hi,he⟩:=List.mem_iff_getElem.1 hy;rw[List.length_take]at hi;rw[List.getElem_take]at he;have e:(preS S).idxOf y=i:=by rw[←he,(zkf hF).idxOf_getElem]
   unfold pos;rw[if_neg (by omega),Int.toNat_natCast,e];omega
 have hsc:=zpo hF (fun v hv=>⟨(hV v hv).1,(hV v hv).2.1⟩);refine⟨zbN.2 ⟨by rw[hl];exact hn,?_,zc2 hF2 (fun v hv=>⟨(hsc v hv).1,by rw[hl];exact(hsc v hv).2,zis _ _ v hv⟩),fun i hi=>?_,?_,?_,?_,?_,?_,?_,?_⟩,zlH hF,?_⟩
 ·have:=(zpn (S:=S) (V:=V) (fun v=>v.nm) (fun _ _=>rfl) (fun _ _=>rfl)).length_eq;rw[List.length_map,List.length_map]at this;omega
 ·rw[hl]at hi;have hi':i<(preS S).length:=by rw[zkd hF];exact hi
  have hx:=(zke hF).1 (List.getElem_mem hi')
  have e:pos (preS S) ((preS S)[i]:Int)=(i:Int):=by
   unfold pos;rw[if_neg (by omega),Int.toNat_natCast,(zkf hF).idxOf_getElem]
  have h1:=zol hF (i+1) ((preS S)[i]:Int) (by omega);rw[e]at h1;rw[h1];exact Nat.le_trans (zoi hF _ _ _ (by omega)) (hu _ hx)
 ·exact zhc (f:=fun s:Sc=>s.1) (p:=fun x=>zhz x=true) (zlL hF fun x=>x.1) hns
 ·exact zhc (f:=fun v:Vr=>v.nm) (p:=fun x=>zhz x=true) (zpn (fun v=>v.nm) (fun _ _=>rfl) fun _ _=>rfl) hnv
 ·exact zhc (f:=fun s:Sc=>s.2.1) (p:=fun x=>0≤x∧x≤4) (zlL hF fun x=>x.2) hts
 ·exact zhc (f:=fun v:Vr=>v.ty) (p:=fun x=>0≤x∧x≤18) (zpn (fun v=>v.ty) (fun _ _=>rfl) fun _ _=>rfl) htv
 ·exact zhc (f:=fun v:Vr=>zkJ v) (p:=fun x=>x=false) (zpn (fun v=>zkJ v) (fun _ _=>rfl) fun _ _=>rfl) hr
 ·unfold scF;rw[List.map_map];have h1:((List.range S.length).map fun i=>zlM (S.getD i ([],0,0))).Nodup:=by rw[zeu S zlM];exact hks
  have h2:((preS S).map fun i=>zlM (S.getD i ([],0,0))).Nodup:=((zkg hF).map _).nodup_iff.2 h1;refine zh5 (fun x hx y hy e=>?_) h2;have hx':=(zke hF).1 hx;have hy':=(zke hF).1 hy;injection e with e1 e2;have h3:=zjV (hF x hx').1 (hF y hy').1 (fun _=>(zke hF).2 (by have:=hF x hx';omega)) (fun _=>(zke hF).2 (by have:=hF y hy';omega)) e1;exact Prod.ext h3 e2
 ·have h1:=zpm (S:=S) (V:=V) zpk (fun _ _=>rfl);refine h1.nodup_iff.2 ?_;unfold vr1;rw[List.map_map];refine zh5 (fun x hx y hy e=>?_) hkv;have hx':=hV x hx;have hy':=hV y hy;injection e with e1 e2;have h3:=zjV hx'.1 hy'.1 (fun _=>(zke hF).2 (by omega)) (fun _=>(zke hF).2 (by omega)) e1;exact Prod.ext h3 e2
 ·have h1:vr1 (scF S) (vrF S V).1=(vrF S V).1:=by
   unfold vr1;rw[zkc hF];conv=>rhs;rw[←List.map_id (vrF S V).1]
   exact List.map_congr_left fun v hv=>by rw[zjX (hsc v hv).2];rfl
  show numF [] (zfL _ (vr1 (scF S) (vrF S V).1))=_;rw[h1,zfN zpp];obtain⟨m,-,h2,h3⟩:=zil (vr2 S V) [];rw[show(vrF S V).2.length=m from h2];exact h3
open Go.RowKit
set_option linter.unusedSimpArgs false
def vrC (v:Vr):List Value:=[.string (bsB v.nm),.int .i64 v.ty,.int .i64 v.sc,.int .i64 v.sg,.bool v.rg,.int .i64 v.mb,.int .i64 v.lb]
def scC (s:Sc):List Value:=[.string (bsB s.1),.int .i64 s.2.1,.int .i64 s.2.2]
def vrs (l:List Vr):List Value:=l.flatMap vrC
def scs (l:List Sc):List Value:=l.flatMap scC
abbrev vrV (v:Vr):Value:=.agg #[.string (bsB v.nm),.int .i64 v.ty,.int .i64 v.sc,.int .i64 v.sg,.bool v.rg,.int .i64 v.mb,.int .i64 v.lb]
abbrev scV (s:Sc):Value:=.agg #[.string (bsB s.1),.int .i64 s.2.1,.int .i64 s.2.2]
theorem zpq (l m:List Vr):vrs (l++m)=vrs l++vrs m:=by simp[vrs]
theorem zps (x:Vr) (l:List Vr):vrs (x::l)=vrC x++vrs l:=rfl
theorem zpt:∀l:List Vr,(vrs l).length=7*l.length
 | []=>rfl
 |x::l=>by rw[zps,List.length_append,zpt l,List.length_cons];show 7+_=_;omega
theorem zpz (l:List Vr) (x:Vr):vrs (l++ [x])=vrs l++vrC x:=by rw[zpq];simp[vrs]
theorem zpv:∀(l:List Vr),∀u∈vrs l,u.oneCell'=true
 | [],u,hu=>by simp[vrs]at hu
 |x::l,u,hu=>by
  rw[zps]at hu;rcases List.mem_append.1 hu with hu|hu
  ·simp only[vrC,List.mem_cons,List.mem_nil_iff,or_false]at hu;rcases hu with rfl|rfl|rfl|rfl|rfl|rfl|rfl<;>rfl
  ·exact zpv l u hu
theorem zpr:∀(l:List Vr) (k:Nat) (h:k<l.length) (j:Nat),j<7→(vrs l)[7*k+j]? =(vrC l[k])[j]?
 |x::l,0,_,j,hj=>by
  rw[zps,List.getElem?_append_left (by simp[vrC];omega)];simp
 |x::l,k+1,h,j,hj=>by
  have:=zpr l k (by simpa using h) j hj;rw[zps,List.getElem?_append_right (by simp[vrC];omega)];rw[show 7*(k+1)+j-(vrC x).length=7*k+j by simp[vrC];omega];simpa using this
theorem SlR.vrs {w:World} {a:Option Addr} {cap:Nat} {l:List Vr} (h:SlR w (.slice a l.length cap) l.length (vrs l)) {k:Nat} (hk:k<l.length):
 ∃b o,a=some ⟨b,o,none⟩∧∀(j:Nat) (u:Value),(vrC l[k])[j]? =some u→w.cell? ⟨b,o+k*7+j,none⟩=some u:=by
 obtain⟨b,o,cap',hv,-,-,hcell⟩:=h.at (by omega);injection hv with e1 _ _;refine⟨b,o,e1,fun j u hj=>?_⟩;have hjk:j<7:=by have:=(List.getElem?_eq_some_iff.1 hj).1;simpa[vrC] using this
 have:=hcell _ _ ((zpr l k hk j hjk).trans hj);rwa [Nat.mul_comm 7 k,←Nat.add_assoc]at this
theorem zl8 (l m:List Sc):scs (l++m)=scs l++scs m:=by simp[scs]
theorem zma (x:Sc) (l:List Sc):scs (x::l)=scC x++scs l:=rfl
theorem zl9:∀(l:List Sc) (k:Nat) (h:k<l.length) (j:Nat),j<3→(scs l)[3*k+j]? =(scC l[k])[j]?
 |x::l,0,_,j,hj=>by
  rw[zma,List.getElem?_append_left (by simp[scC];omega)];simp
 |x::l,k+1,h,j,hj=>by
  have:=zl9 l k (by simpa using h) j hj;rw[zma,List.getElem?_append_right (by simp[scC];omega)];rw[show 3*(k+1)+j-(scC x).length=3*k+j by simp[scC];omega];simpa using this
theorem SlR.scs {w:World} {a:Option Addr} {cap:Nat} {l:List Sc} (h:SlR w (.slice a l.length cap) l.length (scs l)) {k:Nat} (hk:k<l.length):
 ∃b o,a=some ⟨b,o,none⟩∧∀(j:Nat) (u:Value),(scC l[k])[j]? =some u→w.cell? ⟨b,o+k*3+j,none⟩=some u:=by
 obtain⟨b,o,cap',hv,-,-,hcell⟩:=h.at (by omega);injection hv with e1 _ _;refine⟨b,o,e1,fun j u hj=>?_⟩;have hjk:j<3:=by have:=(List.getElem?_eq_some_iff.1 hj).1;simpa[scC] using this
 have:=hcell _ _ ((zl9 l k hk j hjk).trans hj);rwa [Nat.mul_comm 3 k,←Nat.add_assoc]at this
theorem zpl:(Tryz.prog.info? 48).map (fun i=>(i.zero,i.size,i.bytes))=some (some (.agg #[.string ⟨#[]⟩,.int .i64 0,.int .i64 0,.int .i64 0,.bool false,.int .i64 0,.int .i64 0]),7,64):=by kernel_rfl
theorem zlO:(Tryz.prog.info? 84).map (fun i=>(i.zero,i.size,i.bytes))=some (some (.agg #[.string ⟨#[]⟩,.int .i64 0,.int .i64 0]),3,32):=by kernel_rfl
theorem zjn {w:World} {B e size n:Nat} {g c:Nat} {xs:List Value} (h:w.ownsRow B e size (.slice (some ⟨g,0,none⟩) n c) n xs):zaq w g xs:=by
 rcases h.2 with⟨h0,-⟩|⟨g',cap',cur,h0,hbase,hb,hn,hm,hsz,htk⟩
 ·cases h0
 injection h0 with e1 _ e3;injection e1 with e1;injection e1 with e1 _ _;subst e1 e3;intro j u hj
 have hj':cur.toList[j]? =some u:=by
  rw[←htk,List.getElem?_take]at hj;split at hj
  ·exact hj
  ·cases hj
 rw[Array.getElem?_toList]at hj';exact⟨by simp[World.cell?,hb,hj'],by simp[World.frozen?,hb]⟩
theorem zjq {w:World} {B e size n g c:Nat} {xs:List Value} (h:w.ownsRow B e size (.slice (some ⟨g,0,none⟩) n c) n xs) (j:Nat) (u:Value):
 (w.setCell ⟨g,j,none⟩ u).ownsRow B e size (.slice (some ⟨g,0,none⟩) n c) n (xs.set j u):=(h.stored j u).1
open Go.RowKit Go.WideMaps
def zav (P:Program) (K:TypeId) (w:World) (b n:Nat) (f:BsM→Option Value):Prop:=
 ∃D:DataW Value,w.ownsMap P K vR b n D∧(∀s:BsM,Maps.has D (.string s)=(f s).isSome∧∀v,f s=some v→∀z,D.atKey (.string s) z=.held v)∧Maps.size D=n
section
variable {P : Program} {K t e : TypeId} {w : World} {b n : Nat} {f : BsM → Option Value}
theorem zav.s (h:zav P K w b n f):SMap P K w b n f:=by
 obtain⟨D,h1,h2,-⟩:=h;exact⟨D,h1,h2⟩
theorem zav.len (h:zav P K w b n f) (ht:P.underlying t=some (.map K e)) (ty:TypeId):(Builtin.len_ #[t] ty #[.map (some b)]).run P w=.ok (.int .i64 (n:Int)) w:=by
 obtain⟨D,h1,-,h3⟩:=h;have:=h1.len ht ty;rwa [h3]at this
theorem zav.put (h:zav P K w b n f) (hK:P.underlying K=some .string) (ht:P.underlying t=some (.map K e)) (hn:n<maxLen) (s:ByteArray) (hs:s.size≤maxLen) (hnew:f s.data.toList=none) (v:Value):
 ∃w',(Instr.mapUpdate t (.map (some b)) (.string s) v).run P w=.ok () w'∧zav P K w' b (n+1) (fun x=>if x=s.data.toList then some v else f x)∧w.grownBy w' (some b):=by
 obtain⟨D,ho,hf,hz⟩:=h;obtain⟨w',hr,ho',hg⟩:=ho.update (Maps.string_keyed hK) ht hn (keyOf_string_mk hK hs) (val:=v) (d:=.held v) (ps:=[]) rfl;refine⟨w',hr,⟨_,ho',fun x=>?_,?_⟩,hg⟩
 ·by_cases hx:x=s.data.toList
  ·subst hx;simp only[if_true];refine⟨Maps.has_put_same ho.isMap (znm _) _,fun u hu z=>?_⟩;injection hu with hu;subst hu;exact Maps.atKey_put_same ho.isMap (znm _) _ _
  ·have hne:(Lit.string x)≠Lit.string s.data.toList:=fun h=>hx (by injection h);simp only[if_neg hx];exact⟨(Maps.has_put_other hne _).trans (hf x).1,fun u hu z=>(Maps.atKey_put_other hne _ _).trans ((hf x).2 u hu z)⟩
 ·rw[Maps.size_put (ho.tidy (Maps.string_keyed hK)),hz,if_neg];rw[(hf s.data.toList).1,hnew];simp
theorem zav.made (w:World) (P:Program) (K:TypeId):zav P K (w.alloc (.map #[] 0)) w.heap.size 0 (fun _=>none):=
 ⟨_,World.ownsMap_made w P K vR,fun _=>⟨rfl,fun _ h=>by cases h⟩,rfl⟩
theorem zav.ext (h:zav P K w b n f) {g:BsM→Option Value} (he:∀s,f s=g s):zav P K w b n g:=by
 rw[show g=f from funext fun s=>(he s).symm];exact h
theorem zav.kept {w':World} {row:Option Nat} (h:zav P K w b n f) (hg:w.grownBy w' row) (hne:some b≠row):zav P K w' b n f:=by
 obtain⟨D,ho,hf⟩:=h;exact⟨D,ho.kept hg hne,hf⟩
theorem zav.same {w':World} (h:zav P K w b n f) (hb:w'.heap[b]? =w.heap[b]?):zav P K w' b n f:=by
 obtain⟨D,⟨es,clock,h1,h2⟩,hf⟩:=h;exact⟨D,⟨es,clock,hb.trans h1,h2⟩,hf⟩
theorem zav.below {w':World} {B:Nat} (h:zav P K w b n f) (hb:Below B w w') (hB:b<B):zav P K w' b n f:=h.same (hb.block b hB)
theorem zav.setCell {a:Addr} (h:zav P K w b n f) (ha:b≠a.block) (u:Value):zav P K (w.setCell a u) b n f:=by
 obtain⟨D,ho,hf⟩:=h;exact⟨D,ho.setCell ha u,hf⟩
theorem zav.alloc (h:zav P K w b n f) (o:Obj):zav P K (w.alloc o) b n f:=h.kept (World.grownBy_alloc w o none) (by simp)
theorem zav.drew (h:zav P K w b n f):zav P K w.drew b n f:=h
theorem zav.ne_row (h:zav P K w b n f) {B T size m:Nat} {v:Value} {xs:List Value} (ho:w.ownsRow B T size v m xs):some b≠v.ownBlock:=h.s.ne_row ho
end
section
variable {par : Nat → Int} {n : Nat}
def Dn (par:Nat→Int) (n:Nat) (p:Int) (x:Nat):Prop:=x∈pre par n (n+1) p
theorem zdP {p:Int} {x:Nat} (hx:x<n) (hp:par x=p):Dn par n p x:=zkp.2 ⟨x,hx,hp,.inl rfl⟩
theorem zdO (hF:Fst par n) {f:Nat} {p:Int} (hp: -1≤p):∀x,x∈pre par n f p→Dn par n p x:=fun x=>by
 induction x using Nat.strongRecOn with
 |ind x ih=>
  intro h;obtain⟨h1,h2,h3,h4⟩:=zko hF _ _ _ h;rcases h4 with h4|⟨y,hy,h4⟩
  ·exact zdP h1 h4
  ·have:=hF x h1;exact zkl hF _ _ x y (by omega) (ih y (by omega) hy) h1 h4
theorem zdQ (hF:Fst par n) {p:Int} (hp: -1≤p) {q:Nat} (hq:Dn par n p q):∀x,Dn par n q x→Dn par n p x:=fun x=>by
 induction x using Nat.strongRecOn with
 |ind x ih=>
  intro h;obtain⟨h1,h2,h3,h4⟩:=zko hF _ _ _ h;rcases h4 with h4|⟨y,hy,h4⟩
  ·exact zkl hF _ _ x q (by omega) hq h1 h4
  ·have:=hF x h1;exact zkl hF _ _ x y (by omega) (ih y (by omega) hy) h1 h4
def insF (par:Nat→Int):Nat→Int→Int→Bool
 |0,o,i=>decide (i=o)
 |f+1,o,i=>if i≤o then decide (i=o)else insF par f o (par i.toNat)
theorem zfh {f:Nat} {o i:Int} (h:i≤o):insF par f o i=decide (i=o):=by
 cases f with
 |zero=>rfl
 |succ f=>unfold insF;rw[if_pos h]
theorem zfu (hF:Fst par n) {o:Nat}:∀(x f:Nat),x<n→x≤f→(insF par f o x=true↔x=o∨Dn par n o x):=fun x=>by
 induction x using Nat.strongRecOn with
 |ind x ih=>
  intro f hx hf;by_cases hlt:x≤o
  ·rw[zfh (by omega),decide_eq_true_iff];constructor
   ·intro h;exact .inl (by omega)
   ·rintro(h|h)
    ·omega
    ·have:=(zko hF _ _ _ h).2.2.1;omega
  ·obtain⟨g,rfl⟩:∃g,f=g+1:=⟨f-1,by omega⟩;unfold insF;rw[if_neg (by omega),Int.toNat_natCast];have h1:=hF x hx;by_cases h0:0≤par x
   ·obtain⟨y,hy⟩:∃y:Nat,par x=(y:Int):=⟨(par x).toNat,by omega⟩;rw[hy,ih y (by omega) g (by omega) (by omega)];constructor
    ·rintro(h|h)
     ·subst h;exact .inr (zdP hx hy)
     ·exact .inr (zkl hF _ _ x y (by omega) h hx hy)
    ·rintro(h|h)
     ·omega
     ·obtain⟨-,-,-,h4⟩:=zko hF _ _ _ h;rcases h4 with h4|⟨z,hz,h4⟩
      ·exact .inl (by omega)
      ·obtain rfl:y=z:=by omega
       exact .inr hz
   ·rw[zfh (by omega),decide_eq_true_iff];constructor
    ·intro h;omega
    ·rintro(h|h)
     ·omega
     ·have:=(zko hF _ _ _ h).2.1;omega
def Nxt (par:Nat→Int) (n:Nat):Prop:=∀i,i+1<n→0≤par (i+1)→(i:Int)=par (i+1)∨Dn par n (par (i+1)) i
theorem ziv (hF:Fst par n) (H:Nxt par n) {p:Int} (hp:0≤p) {x:Nat} (h:Dn par n p (x+1)):(x:Int)=p∨Dn par n p x:=by
 obtain⟨h1,h2,h3,h4⟩:=zko hF _ _ _ h;have hx:=H x h1 (by omega);rcases h4 with h4|⟨y,hy,h4⟩
 ·rw[h4]at hx;exact hx
 ·rw[h4]at hx;rcases hx with hx|hx
  ·obtain rfl:x=y:=by omega
   exact .inr hy
  ·exact .inr (zdQ hF (by omega) hy x hx)
theorem ziu (hF:Fst par n) (H:Nxt par n) {p:Int} (hp:0≤p) {z:Nat} (hz:p<(z:Int)):∀d,Dn par n p (z+d)→Dn par n p z
 |0,h=>h
 |d+1,h=>by
  rcases ziv hF H hp (x:=z+d) h with h|h
  ·omega
  ·exact ziu hF H hp hz d h
theorem zkm (hF:Fst par n) (H:Nxt par n):∀(f:Nat) (p:Int),(pre par n f p).Pairwise (· < ·)
 |0,_=>List.Pairwise.nil
 |f+1,p=>by
  rw[zkx,List.pairwise_flatMap];refine⟨fun i _=>?_,?_⟩
  ·split
   ·rw[List.pairwise_cons];refine⟨fun y hy=>?_,zkm hF H f i⟩;have:=(zko hF _ _ _ hy).2.2.1;omega
   ·exact List.Pairwise.nil
  ·refine List.Pairwise.imp_of_mem ?_ List.pairwise_lt_range;intro i j hi hj hij x hx y hy;split at hx
   ·rename_i pi
    split at hy
    ·rename_i pj
     have hi:=List.mem_range.1 hi
     have hyj:j≤y:=by
      rcases List.mem_cons.1 hy with rfl|hy
      ·exact Nat.le_refl _
      ·have:=(zko hF _ _ _ hy).2.2.1;omega
     have hxj:x<j:=by
      rcases List.mem_cons.1 hx with rfl|hx
      ·exact hij
      ·refine Nat.lt_of_not_le fun hle=>?_;obtain⟨d,rfl⟩:∃d,x=j+d:=⟨x-j,by omega⟩;have h1:=ziu hF H (p:=i) (by omega) (z:=j) (by omega) d (zdO hF (by omega) _ hx);have h2:=(zko hF _ _ _ h1).2.1;have:=hF i hi;omega
     omega
    ·cases hy
   ·cases hx
theorem zkw:∀(f:Nat) (p:Int),(hF:Fst par n)→(n:Int)<(f:Int)+p+1→∀x,x∈pre par n f p→∃A B f',pre par n f p=A++x::(pre par n f' x++B)∧(n:Int)<(f':Int)+x+1
 |0,_,_,_,_,h=>by cases h
 |f+1,p,hF,hf,x,h=>by
  obtain⟨i,hi,hp,hx⟩:=zkp.1 h;obtain⟨L1,L2,hL⟩:=List.append_of_mem (List.mem_range.2 hi);have hpi:=hF i hi
  have e:pre par n (f+1) p=(L1.flatMap fun i=>if par i=p then i::pre par n f i else [])++(i::pre par n f i)++(L2.flatMap fun i=>if par i=p then i::pre par n f i else []):=by
   rw[zkx,hL,List.flatMap_append,List.flatMap_cons,if_pos hp,List.append_assoc]
  rcases hx with rfl|hx
  ·exact⟨L1.flatMap fun i=>if par i=p then i::pre par n f i else [],L2.flatMap fun i=>if par i=p then i::pre par n f i else [],f,by rw[e];simp only[List.append_assoc,List.cons_append],by omega⟩
  ·obtain⟨A,B,f',e2,hf'⟩:=zkw f i hF (by omega) x hx;exact⟨(L1.flatMap fun i=>if par i=p then i::pre par n f i else [])++i::A,B++(L2.flatMap fun i=>if par i=p then i::pre par n f i else []),f',by rw[e,e2];simp only[List.append_assoc,List.cons_append],hf'⟩
theorem zkv (hF:Fst par n):Nxt par n↔pre par n (n+1) (-1)=List.range n:=by
 constructor
 ·intro H
  have h1:(pre par n (n+1) (-1)).Perm (List.range n):=by
   refine(List.perm_ext_iff_of_nodup (zkq hF _ _) List.nodup_range).2 fun x=>?_;rw[List.mem_range];exact⟨fun h=>(zko hF _ _ x h).1,fun h=>zki hF x h⟩
  exact h1.eq_of_pairwise (fun a b _ _ h1 h2=>by omega) (zkm hF H _ _) List.pairwise_lt_range
 ·intro h i hi h0;obtain⟨q,hq⟩:∃q:Nat,par (i+1)=(q:Int):=⟨(par (i+1)).toNat,by omega⟩;have hb:=hF _ hi;obtain⟨A,B,f',e,hf'⟩:=zkw (n+1) (-1) hF (by omega) q (by rw[h,List.mem_range];omega);rw[h]at e
  have hat:∀k v,(A++q::(pre par n f' q++B))[k]? =some v→v=k:=fun k v hk=>by
   rw[←e]at hk;obtain⟨h1,h2⟩:=List.getElem?_eq_some_iff.1 hk;rw[List.getElem_range]at h2;exact h2.symm
  have hq0:q=A.length:=hat A.length q (by rw[List.getElem?_append_right (Nat.le_refl _)];simp)
  have hmem:i+1∈pre par n f' q:=by
   cases f' with
   |zero=>omega
   |succ f'=>exact zkp.2 ⟨i+1,hi,hq,.inl rfl⟩
  obtain⟨k,hk,hki⟩:=List.mem_iff_getElem.1 hmem;have hki2:(pre par n f' q)[k]? =some (i+1):=by rw[List.getElem?_eq_getElem hk,hki]
  have h1:i+1=A.length+1+k:=hat (A.length+1+k) (i+1) (by
   rw[List.getElem?_append_right (by omega),show A.length+1+k-A.length=k+1 by omega,List.getElem?_cons_succ,List.getElem?_append_left hk];exact hki2)
  rw[hq];cases k with
  |zero=>exact .inl (by omega)
  |succ k=>
   have hk':k<(pre par n f' q).length:=by omega
   have h2:(pre par n f' q)[k]=A.length+1+k:=hat (A.length+1+k) _ (by
    rw[List.getElem?_append_right (by omega),show A.length+1+k-A.length=k+1 by omega,List.getElem?_cons_succ,List.getElem?_append_left hk',List.getElem?_eq_getElem hk'])
   refine .inr (zdO hF (by omega) i (f:=f') ?_);rw[show i=(pre par n f' q)[k]by omega];exact List.getElem_mem hk'
end
section
variable {α : Type}
def swpd (X A Y B Z:List α) (i:Nat):List α:=X++(B.take i++(A.drop i++(Y++(A.take i++(B.drop i++Z)))))
theorem znu (X A Y B Z:List α):swpd X A Y B Z 0=X++(A++(Y++(B++Z))):=by simp[swpd]
theorem zns {X A Y B Z:List α} (h:A.length=B.length):swpd X A Y B Z A.length=X++(B++(Y++(A++Z))):=by
 simp[swpd,h,List.take_of_length_le,List.drop_of_length_le]
theorem znt {X A Y B Z:List α} {i:Nat} (h:A.length=B.length) (hi:i<A.length):
 ∃X1 Y1 Z1,X1.length=X.length+i∧X1.length+1+Y1.length=X.length+A.length+Y.length+i∧
  swpd X A Y B Z i=X1++A[i]::(Y1++B[i]::Z1)∧swpd X A Y B Z (i+1)=X1++B[i]::(Y1++A[i]::Z1):=by
 have hi2:i<B.length:=by omega
 refine⟨X++B.take i,A.drop (i+1)++(Y++A.take i),B.drop (i+1)++Z,?_,?_,?_,?_⟩
 ·rw[List.length_append,List.length_take];omega
 ·simp only[List.length_append,List.length_take,List.length_drop];omega
 ·unfold swpd;rw[List.drop_eq_getElem_cons hi,List.drop_eq_getElem_cons hi2];simp only[List.append_assoc,List.cons_append]
 ·unfold swpd;rw[List.take_succ_eq_append_getElem hi,List.take_succ_eq_append_getElem hi2];simp only[List.append_assoc,List.cons_append,List.nil_append]
structure Rot (m i j:Nat) (l t:List α):Prop where
 ex:∃P A B S,l=P++(A++(B++S))∧t=P++(B++(A++S))∧P.length+i=m∧A.length=i∧B.length=j
theorem Rot.more {m i j:Nat} {l t:List α} (h:Rot m i j l t) (hij:j<i):
 ∃X A Y B Z,l=X++(A++(Y++(B++Z)))∧X.length+i=m∧A.length=j∧B.length=j∧X.length+A.length+Y.length=m∧Rot m (i-j) j (X++(B++(Y++(A++Z)))) t:=by
 obtain⟨P,A,B,S,h1,h2,h3,h4,h5⟩:=h.ex;refine⟨P,A.take j,A.drop j,B,S,?_,h3,by rw[List.length_take];omega,h5,by rw[List.length_take,List.length_drop];omega,⟨P++B,A.drop j,A.take j,S,?_,?_,?_,?_,?_⟩⟩
 ·rw[h1,←List.append_assoc (A.take j),List.take_append_drop]
 ·simp
 ·rw[h2,←List.append_assoc (A.take j),List.take_append_drop];simp
 ·rw[List.length_append];omega
 ·rw[List.length_drop];omega
 ·rw[List.length_take];omega
theorem Rot.less {m i j:Nat} {l t:List α} (h:Rot m i j l t) (hij:i<j):
 ∃X A Y B Z,l=X++(A++(Y++(B++Z)))∧X.length+i=m∧A.length=i∧B.length=i∧X.length+A.length+Y.length=m+j-i∧Rot m i (j-i) (X++(B++(Y++(A++Z)))) t:=by
 obtain⟨P,A,B,S,h1,h2,h3,h4,h5⟩:=h.ex;refine⟨P,A,B.take (j-i),B.drop (j-i),S,?_,h3,h4,by rw[List.length_drop];omega,by rw[List.length_take];omega,⟨P,B.drop (j-i),B.take (j-i),A++S,?_,?_,?_,?_,?_⟩⟩
 ·rw[h1,←List.append_assoc (B.take (j-i)),List.take_append_drop]
 ·simp
 ·rw[h2,←List.append_assoc (B.take (j-i)),List.take_append_drop]
 ·omega
 ·rw[List.length_drop];omega
 ·rw[List.length_take];omega
theorem Rot.last {m i:Nat} {l t:List α} (h:Rot m i i l t):
 ∃X A B Z,l=X++(A++([]++(B++Z)))∧X.length+i=m∧A.length=i∧B.length=i∧t=X++(B++([]++(A++Z))):=by
 obtain⟨P,A,B,S,h1,h2,h3,h4,h5⟩:=h.ex;exact⟨P,A,B,S,h1,h3,h4,h5,h2⟩
theorem zm1 {k:α→Int} {l:List α} (h:Srt k l) {i j:Nat} (hij:i≤j) (hj:j<l.length):k (l[i]'(by omega))≤k l[j]:=by
 rcases Nat.lt_or_ge i j with h1|h1
 ·exact List.pairwise_iff_getElem.1 h i j (by omega) hj h1
 ·obtain rfl:i=j:=by omega
  exact Int.le_refl _
theorem znw {k:α→Int} {A B:List α} (hA:Srt k A) (hB:Srt k B) {s e:Nat} (hs:s≤A.length) (he:e≤B.length) (c1:∀(h1:0<s) (h2:e<B.length),k (A[s-1]'(by omega))≤k B[e])
 (c2:∀(h1:s<A.length) (h2:0<e),k (B[e-1]'(by omega))<k A[s]):mrg k A B=mrg k (A.take s) (B.take e)++mrg k (A.drop s) (B.drop e):=by
 have h:=zhu (k:=k) (A1:=A.take s) (A2:=A.drop s) (B1:=B.take e) (B2:=B.drop e) (by rw[List.take_append_drop];exact hA) (fun x hx y hy=>?_) (fun y hy x hx=>?_)
 ·rwa [List.take_append_drop,List.take_append_drop]at h
 ·obtain⟨i,hi,rfl⟩:=List.mem_iff_getElem.1 hx;obtain⟨j,hj,rfl⟩:=List.mem_iff_getElem.1 hy;rw[List.length_take]at hi;rw[List.length_drop]at hj;rw[List.getElem_take,List.getElem_drop];have h1:=zm1 hA (show i≤s-1 by omega) (by omega);have h2:=zm1 hB (show e≤e+j by omega) (by omega);have h3:=c1 (by omega) (by omega);omega
 ·obtain⟨i,hi,rfl⟩:=List.mem_iff_getElem.1 hx;obtain⟨j,hj,rfl⟩:=List.mem_iff_getElem.1 hy;rw[List.length_take]at hj;rw[List.length_drop]at hi;rw[List.getElem_take,List.getElem_drop];have h1:=zm1 hA (show s≤s+i by omega) (by omega);have h2:=zm1 hB (show j≤e-1 by omega) (by omega);have h3:=c2 (by omega) (by omega);omega
end
set_option linter.unusedVariables false
section
variable {α : Type} (k : α → Int)
def cs (n:Nat) (l:List α):List α:=if h:l.length≤n∨n=0 then zfL k l else zfL k (l.take n)++cs n (l.drop n)
termination_by l.length
decreasing_by rw[List.length_drop];omega
variable {k}
theorem zcs {n:Nat} {l:List α} (h:l.length≤n):cs k n l=zfL k l:=by
 rw[cs,dif_pos (Or.inl h)]
theorem zct (n:Nat):cs k n ([]:List α)=[]:=by rw[zcs (Nat.zero_le _)];rfl
theorem zcu {n:Nat} {l:List α} (h0:0<n) (h:n≤l.length):cs k n l=zfL k (l.take n)++cs k n (l.drop n):=by
 by_cases h1:l.length≤n
 ·rw[zcs h1,List.take_of_length_le h1,List.drop_eq_nil_of_le h1,zct,List.append_nil]
 ·rw[cs,dif_neg (by omega)]
theorem zcw {n:Nat} {l:List α} (h0:0<n) (h:2*n≤l.length):
 cs k n l=zfL k (l.take n)++(zfL k ((l.drop n).take n)++cs k n (l.drop (2*n)))∧
  mrg k (zfL k (l.take n)) (zfL k ((l.drop n).take n))=zfL k (l.take (2*n))∧cs k (2*n) l=zfL k (l.take (2*n))++cs k (2*n) (l.drop (2*n)):=by
 refine⟨?_,?_,zcu (by omega) h⟩
 ·rw[zcu h0 (by omega),zcu h0 (l:=l.drop n) (by rw[List.length_drop];omega),List.drop_drop,Nat.two_mul]
 ·rw[←zfM,Nat.two_mul,List.take_add]
theorem zcv {n:Nat} {l:List α} (h0:0<n) (h:n<l.length) (h2:l.length≤2*n):
 cs k n l=zfL k (l.take n)++zfL k (l.drop n)∧mrg k (zfL k (l.take n)) (zfL k (l.drop n))=cs k (2*n) l:=by
 refine⟨?_,?_⟩
 ·rw[zcu h0 (by omega),zcs (l:=l.drop n) (by rw[List.length_drop];omega)]
 ·rw[←zfM,List.take_append_drop,zcs h2]
end
open Go.RowKit Go.WideMaps
structure KeyEnc (P:Program) (K:TypeId) (κ:Type) where
 vK:κ→Value
 lK:κ→Lit
 dom:κ→Prop
 key:∀x,dom x→WideAt.IsKeyLit (lK x)
 of:∀x,dom x→keyOf P K (vK x)=some (lK x)
 inj:∀x y,dom x→dom y→lK x=lK y→x=y
 law:Maps.Keyed P K
def KMap {P:Program} {K:TypeId} {κ:Type} (E:KeyEnc P K κ) (w:World) (b n:Nat) (f:κ→Option Value):Prop:=
 ∃D:DataW Value,w.ownsMap P K vR b n D∧∀x,E.dom x→Maps.has D (E.lK x)=(f x).isSome∧∀v,f x=some v→∀z,D.atKey (E.lK x) z=.held v
section
variable {P : Program} {K t e : TypeId} {κ : Type} {E : KeyEnc P K κ} {w : World} {b n : Nat} {f : κ → Option Value}
theorem KMap.at (h:KMap E w b n f) (x:κ) (hx:E.dom x):∃D:DataW Value,w.ownsMap P K vR b n D∧Maps.has D (E.lK x)=(f x).isSome∧∀z,D.atKey (E.lK x) (.held z)=.held ((f x).getD z):=by
 obtain⟨D,ho,hf⟩:=h;obtain⟨h1,h2⟩:=hf x hx;refine⟨D,ho,h1,fun z=>?_⟩;cases hs:f x with
 |none=>
  rw[hs]at h1;exact Maps.atKey_of_not_has h1 _
 |some v=>exact h2 v hs _
theorem KMap.look (h:KMap E w b n f) (ht:P.underlying t=some (.map K e)) {z:Value} (hz:(zeroValue e).run P w=.ok z w) (x:κ) (hx:E.dom x):
 (Instr.lookup t (.map (some b)) (E.vK x) true).run P w=.ok (.tuple #[(f x).getD z,.bool (f x).isSome]) w:=by
 obtain⟨D,ho,h1,h2⟩:=h.at x hx;obtain⟨v,ps,hr,hv⟩:=ho.look_ok E.law ht hz (zd:=.held z) (zp:=[]) rfl (E.of x hx);rw[hr,h1];rw[h2 z]at hv;unfold vR at hv;injection hv with hv;injection hv with hv _;injection hv with hv;rw[hv]
theorem KMap.look1 (h:KMap E w b n f) (ht:P.underlying t=some (.map K e)) {z:Value} (hz:(zeroValue e).run P w=.ok z w) (x:κ) (hx:E.dom x):
 (Instr.lookup t (.map (some b)) (E.vK x) false).run P w=.ok ((f x).getD z) w:=by
 obtain⟨D,ho,h1,h2⟩:=h.at x hx;obtain⟨v,ps,hr,hv⟩:=ho.lookup E.law ht hz (zd:=.held z) (zp:=[]) rfl (E.of x hx);rw[hr];rw[h2 z]at hv;unfold vR at hv;injection hv with hv;injection hv with hv _;injection hv with hv;rw[hv]
theorem KMap.put [DecidableEq κ] (h:KMap E w b n f) (ht:P.underlying t=some (.map K e)) (hn:n<maxLen) (x:κ) (hx:E.dom x) (v:Value):
 ∃w',(Instr.mapUpdate t (.map (some b)) (E.vK x) v).run P w=.ok () w'∧KMap E w' b (n+1) (fun y=>if y=x then some v else f y)∧w.grownBy w' (some b):=by
 obtain⟨D,ho,hf⟩:=h;obtain⟨w',hr,ho',hg⟩:=ho.update E.law ht hn (E.of x hx) (val:=v) (d:=.held v) (ps:=[]) rfl;refine⟨w',hr,⟨_,ho',fun y hy=>?_⟩,hg⟩;by_cases hxy:y=x
 ·subst hxy;simp only[if_true];refine⟨Maps.has_put_same ho.isMap (E.key _ hx) _,fun u hu z=>?_⟩;injection hu with hu;subst hu;exact Maps.atKey_put_same ho.isMap (E.key _ hx) _ _
 ·have hne:E.lK y≠E.lK x:=fun h=>hxy (E.inj _ _ hy hx h);simp only[if_neg hxy];exact⟨(Maps.has_put_other hne _).trans (hf y hy).1,fun u hu z=>(Maps.atKey_put_other hne _ _).trans ((hf y hy).2 u hu z)⟩
theorem KMap.made (E:KeyEnc P K κ) (w:World):KMap E (w.alloc (.map #[] 0)) w.heap.size 0 (fun _=>none):=
 ⟨_,World.ownsMap_made w P K vR,fun _ _=>⟨rfl,fun _ h=>by cases h⟩⟩
theorem KMap.ext (h:KMap E w b n f) {g:κ→Option Value} (he:∀s,f s=g s):KMap E w b n g:=by
 rw[show g=f from funext fun s=>(he s).symm];exact h
theorem KMap.lt (h:KMap E w b n f):b<w.heap.size:=by
 obtain⟨D,ho,-⟩:=h;exact ho.lt
theorem KMap.kept {w':World} {row:Option Nat} (h:KMap E w b n f) (hg:w.grownBy w' row) (hne:some b≠row):KMap E w' b n f:=by
 obtain⟨D,ho,hf⟩:=h;exact⟨D,ho.kept hg hne,hf⟩
theorem KMap.same {w':World} (h:KMap E w b n f) (hb:w'.heap[b]? =w.heap[b]?):KMap E w' b n f:=by
 obtain⟨D,⟨es,clock,h1,h2⟩,hf⟩:=h;exact⟨D,⟨es,clock,hb.trans h1,h2⟩,hf⟩
theorem KMap.below {w':World} {B:Nat} (h:KMap E w b n f) (hb:RowKit.Below B w w') (hB:b<B):KMap E w' b n f:=h.same (hb.block b hB)
theorem KMap.setCell {a:Addr} (h:KMap E w b n f) (ha:b≠a.block) (u:Value):KMap E (w.setCell a u) b n f:=by
 obtain⟨D,ho,hf⟩:=h;exact⟨D,ho.setCell ha u,hf⟩
theorem KMap.more {n':Nat} (h:KMap E w b n f) (hn:n≤n'):KMap E w b n' f:=by
 obtain⟨D,ho,hf⟩:=h;exact⟨D,ho.mono hn,hf⟩
theorem KMap.no_cells (h:KMap E w b n f) {C:Array Value} {T:TypeId} {fr:Nat×Nat}:w.heap[b]? ≠some (.cells C T fr):=by
 obtain⟨D,⟨es,clock,h1,-⟩,-⟩:=h;rw[h1];intro h;cases h
theorem KMap.ne_row (h:KMap E w b n f) {B T size m:Nat} {v:Value} {xs:List Value} (ho:w.ownsRow B T size v m xs):some b≠v.ownBlock:=by
 rcases ho with⟨-,⟨rfl,-⟩|⟨g,cap,cur,rfl,-,hg,-⟩⟩
 ·intro h;cases h
 ·intro e;injection e with e;subst e;exact h.no_cells hg
end
theorem zqm {P:Program} {K:TypeId} {κ:Type} [DecidableEq κ] {E:KeyEnc P K κ} (w:World) {ops:Array Oper} {rest:List Oper} {o:Oper} {a:Act} {Q:Exit→Act→World→Prop}
 (hg:o.guard=none) (m x v:Operand) (t:TypeId) (hop:o.op=Op.mapUpdate t m x v) (e:TypeId) (ht:P.underlying t=some (.map K e)) (b n:Nat) (f:κ→Option Value)
 (hm:a.eval m=.map (some b)) (hown:KMap E w b n f) (hn:n<maxLen) (k:κ) (val:Value) (hx:a.eval x=E.vK k) (hv:a.eval v=val) (hk:E.dom k)
 (hC:∀w',KMap E w' b (n+1) (fun y=>if y=k then some val else f y)→w.grownBy w' (some b)→wpList P ops Q rest (a.put o.dst undef) w'):
 wpList P ops Q (o::rest) a w:=by
 refine wpList_plain hg fun K' hK'=>?_;obtain⟨w',hrun,r1,r2⟩:=hown.put ht hn k hk val;unfold Oper.wp;simp[execOp,hop,hm,hx,hv,hrun,Result.andThen];exact hK' _ _ (hC w' r1 r2)
def zfC {P:Program} {K:TypeId} (hK:P.underlying K=some (.int .i64)):KeyEnc P K Int where
 vK x:=.int .i64 x
 lK x:=.int .i64 x
 dom x:=(Lit.int .i64 x).wf=true
 key _ _:=trivial
 of x hx:=Maps.keyOf_int_mk hK hx
 inj x y _ _ h:=by injection h
 law:=Maps.int_keyed hK
open Go.RowKit
theorem ziG {l n:Nat} {P:Program} {o:Oper} {a:Act} {w:World} {K K':Act→World→Prop} {Q:Exit→Act→World→Prop} (hd:∀c,o.op≠ .defer c) (h:o.wp P a w K Q) (hK:∀a w,K a w→K' a w):o.wpIn (Fence.wide.inRound l) n P a w K' Q:=by
 unfold Oper.wp at h;unfold Oper.wpIn;refine⟨fun _ _=>trivial,?_⟩;rw[show(Fence.wide.inRound l).round=some l from rfl,Oper.semAt_eq _ _ o hd];generalize (execOp a.eval o).run P w=r at h;cases r with
 |ok x w'=>
  cases x with
  |value v=>exact hK _ _ h
  |skip=>exact hK _ _ h
  |defer d=>exact hK _ _ h
  |enter f args=>
   refine⟨(fun h0=>by cases h0),(CallsIn.inRound l (callsIn_wide.2 h)).mono fun e w'' he=>?_⟩;cases e with
   |returned v=>exact hK _ _ he
   |panicked c=>exact he
   |outgrown=>exact he
  |row r args=>
   refine⟨(fun h0=>by cases h0),fun c cs _=>?_⟩;obtain⟨v,w2,hv,hs⟩:=h c cs;exact⟨v,w2,hK _ _ hv,stepsIn_wide.2 hs⟩
  |_=>exact h.elim
 |halt x w'=>
  cases x<;>exact h
theorem zh3 {ops:Array Oper} (h:ops.all (fun o=>match o.op with| .defer _=>false|_=>true)=true):∀(i:Nat) (o:Oper),ops[i]? =some o→∀c,o.op≠ .defer c:=by
 intro i o ho c hc;rw[Array.all_eq_true]at h;obtain⟨hi,e⟩:=Array.getElem?_eq_some_iff.1 ho;have:=h i hi;rw[e]at this;simp[hc]at this
theorem zaH {l n:Nat} {P:Program} {md:Region.Mode} {ops:Array Oper} {Q:Exit→Act→World→Prop} (hd:∀(i:Nat) (o:Oper),ops[i]? =some o→∀c,o.op≠ .defer c) (hl:¬LetsOut Q):
 ∀(fuel:Nat) (listed:Array Bool) (a:Act) (w:World),wpAny P md ops Q fuel listed a w→wpAnyIn (Fence.wide.inRound l) n P md ops Q fuel listed a w
 |0,_,_,_,h=>h
 |fuel+1,listed,a,w,h=>by
  refine⟨h.1,fun i hi=>?_⟩;have h2:=h.2 i hi;unfold wpOp at h2;unfold wpOpIn;cases ho:ops[i]? with
  |none=>
   rw[ho]at h2;exact zaH hd hl fuel _ _ _ h2
  |some o=>
   rw[ho]at h2;simp only at h2⊢;split
   ·rename_i hw
    rw[if_pos hw]at h2;rcases h2 with h2|⟨-,h2⟩
    ·exact ziG (hd i o ho) h2 fun a w h=>zaH hd hl fuel _ _ _ h
    ·exact absurd h2 hl
   ·rename_i hw
    rw[if_neg hw]at h2;exact⟨fun _ _=>trivial,zaH hd hl fuel _ _ _ h2⟩
open Go.RowKit Go.Shelf
attribute [local go_sem] Oper.semAt_some
set_option linter.unusedSimpArgs false
structure TurnI (B:Nat) (T:TypeId) (W V:World):Prop where
 os:V.os=W.os
 tape:V.tape=W.tape
 output:V.output=W.output
 size:W.heap.size≤V.heap.size
 low:∀b,b<B→V.heap[b]? =W.heap[b]?
 cells:∀(b:Nat) (C:Array Value) (T':TypeId) (fr:Nat×Nat),T'≠T→W.heap[b]? =some (.cells C T' fr)→V.heap[b]? =some (.cells C T' fr)
structure TurnJ (B:Nat) (T:TypeId) (W V:World):Prop where
 i:TurnI B T W V
 others:∀(b:Nat) (o:Obj),o.isCells=false→W.heap[b]? =some o→V.heap[b]? =some o
structure Same0 (W V:World):Prop where
 size:W.heap.size≤V.heap.size
 cells:∀(b:Nat) (C:Array Value) (T:TypeId) (fr:Nat×Nat),W.heap[b]? =some (.cells C T fr)→V.heap[b]? =some (.cells C T fr)
theorem TurnJ.drew (B:Nat) (T:TypeId) (W:World) (n:Nat):TurnJ B T W (W.drewN n):=⟨⟨rfl,rfl,rfl,Nat.le_refl _,fun _ _=>rfl,fun _ _ _ _ _ h=>h⟩,fun _ _ _ h=>h⟩
theorem TurnJ.below {B:Nat} {T:TypeId} {W V:World} (hB:B≤W.heap.size) (h:Below W.heap.size W V):TurnJ B T W V:=
 ⟨⟨h.os,h.tape,h.output,h.size,fun b hb=>h.block b (by omega),fun b C T' fr _ hb=>by rw[h.block b (Array.getElem?_eq_some_iff.1 hb).1];exact hb⟩,fun b o _ hb=>by rw[h.block b (Array.getElem?_eq_some_iff.1 hb).1];exact hb⟩
theorem TurnJ.trans {B:Nat} {T:TypeId} {X Y Z:World} (h:TurnJ B T X Y) (k:TurnJ B T Y Z):TurnJ B T X Z:=
 ⟨⟨k.i.os.trans h.i.os,k.i.tape.trans h.i.tape,k.i.output.trans h.i.output,Nat.le_trans h.i.size k.i.size,fun b hb=>(k.i.low b hb).trans (h.i.low b hb),fun b C T' fr hT hb=>k.i.cells b C T' fr hT (h.i.cells b C T' fr hT hb)⟩,fun b o ho hb=>k.others b o ho (h.others b o ho hb)⟩
theorem TurnJ.setCell {B:Nat} {T:TypeId} {W:World} {b:Nat} {C:Array Value} {fr:Nat×Nat} (hb:W.heap[b]? =some (.cells C T fr)) (hB:B≤b) (j:Nat) (u:Value):TurnJ B T W (W.setCell ⟨b,j,none⟩ u):=by
 refine⟨⟨rfl,rfl,rfl,by simp,fun i hi=>Below.heap_setCell _ _ _ _ (by show i≠b;omega),fun i C' T' fr' hT hi=>?_⟩,fun i o ho hi=>?_⟩
 ·have hne:i≠b:=by
   rintro rfl;rw[hb]at hi;injection hi with hi;injection hi with _ hi _;exact hT hi.symm
  rw[Below.heap_setCell _ _ _ _ hne];exact hi
 ·have hne:i≠b:=by
   rintro rfl;rw[hb]at hi;injection hi with hi;subst hi;cases ho
  rw[Below.heap_setCell _ _ _ _ hne];exact hi
theorem TurnI.putObj {B:Nat} {T:TypeId} {W:World} {l:Nat} {o:Obj} (hl:W.heap[l]? =some o) (ho:o.isCells=false) (hB:B≤l) (o':Obj):TurnI B T W (W.putObj l o'):=by
 have hlt:=(Array.getElem?_eq_some_iff.1 hl).1;have hg:=grownBy_putObj' W l o';refine⟨hg.os,hg.tape,hg.output,hg.size,fun b hb=>World.putObj_heap_other (by omega),fun b C T' fr _ hb=>?_⟩
 have hne:b≠l:=by
  rintro rfl;rw[hl]at hb;injection hb with hb;subst hb;cases ho
 rw[World.putObj_heap_other hne];exact hb
theorem Same0.putObj {W:World} {l:Nat} {o:Obj} (hl:W.heap[l]? =some o) (ho:o.isCells=false) (o':Obj):Same0 W (W.putObj l o'):=by
 refine⟨(grownBy_putObj' W l o').size,fun b C T' fr hb=>?_⟩
 have hne:b≠l:=by
  rintro rfl;rw[hl]at hb;injection hb with hb;subst hb;cases ho
 rw[World.putObj_heap_other hne];exact hb
theorem zkI {F:Fence} {n:Nat} {P:Program} {g:Operand} {ps:Array Tmp} {assign body:Code} {Q:Exit→Act→World→Prop} {a:Act} {w:World}
 (hro:F.round=none) (h1:1≤n) {gf:Nat} {lb:Array Value} (hg:a.eval g=.func (.func gf) #[] lb) (hFg:F.fn gf) (eg:∀args w,(callFunc gf args).run P w=.ok (.enter gf args) w)
 {encs:Nat→Array Value} {Kp:World→World→Prop} {N:Nat} {T:TypeId} {B0:Nat} (hB0:B0≤w.heap.size)
 (hiter:∀(l:Nat) (J:Nat→World→Prop) (W:World),Below w.heap.size w W→(∀k X Y,J k X→TurnJ B0 T X Y→J k Y)→
   (∀k W1,J k W1→k<N→YieldAt F (n-1-1) P l (encs k) W1 fun e W'=>e=.returned (.bool true)∧J (k+1) W'∧Kp W1 W')→J 0 W→
   CallsIn F (n-1) P gf (#[.func (.yield l) #[] #[]]++lb) W fun e W'=>(∃v,e=.returned v)∧J N W')
 (hKt:∀{A B C:World},Kp A B→Kp B C→Kp A C) (hK0:∀W V,Same0 W V→Kp W V) (hps:∀k,(encs k).size=ps.size)
 (I:Nat→World→Prop) (hI:∀k W V,I k W→TurnI B0 T W V→I k V) (h0:I 0 w)
 (hround:∀(l k:Nat) (W:World),w.heap.size≤l→I k W→k<N→
   assign.wpIn (F.inRound l) (n-1-1) P (Exit.then (fun a1 W1=>KeepsFrom w.heap.size W W1∧Kp W W1∧∀W2,Same0 W1 W2→TurnI B0 T W1 W2→body.wpIn (F.inRound l) (n-1-1) P (fun e _ W3=>e=.normal∧KeepsFrom w.heap.size W2 W3∧Kp W2 W3∧I (k+1) W3) a1 W2) (fun _ _ _=>False))
    {tmps:=(ps.zip (encs k)).foldl (fun t (p,v)=>t.setIfInBounds p v) a.tmps,defers:=[]} W)
 (hdone:∀(D:Nat) (W:World),w.heap.size≤D→I N W→W.heap[D]? =some (.deferred (some []))→Q .normal {a with defers:={target:=.collected D,args:=#[]}::a.defers} W):
 (Code.rangeFunc g ps assign body).wpIn F n P Q a w:=by
 refine wpIn_rangeFunc fun fn hfn=>?_;rw[hro];let rec':LoopState→Option Code→Loop:=fun st pe=>{state:=st,pending:=pe,fn,tmps:=a.tmps,params:=ps,assign,body,defers:=w.heap.size}
 let D:=w.heap.size
 let l:=w.heap.size+1
 let X1:World:=(w.alloc (.deferred (some []))).alloc (.loop (rec' .ready none))
 have hz1:(w.alloc (.deferred (some []))).heap.size=w.heap.size+1:=World.size_alloc _ _
 have hL1:((w.alloc (.deferred (some []))).alloc (.loop (rec' .ready none))).heap[l]? =some (.loop (rec' .ready none)):=by
  have:=World.alloc_heap_new (w.alloc (.deferred (some []))) (.loop (rec' .ready none));rwa [hz1]at this
 have hD1:((w.alloc (.deferred (some []))).alloc (.loop (rec' .ready none))).heap[D]? =some (.deferred (some [])):=(Below.heap_alloc _ _ _ (by rw[hz1];exact Nat.lt_succ_self _)).trans (World.alloc_heap_new w _);have hB1:Below w.heap.size w ((w.alloc (.deferred (some []))).alloc (.loop (rec' .ready none))):=(((Below.refl _ w).alloc (Nat.le_refl _) _).alloc (by simp) _);have hI1:I 0 ((w.alloc (.deferred (some []))).alloc (.loop (rec' .ready none))):=hI 0 _ _ h0 (TurnJ.below hB0 hB1).i;refine⟨l,[{target:=.collected D,args:=#[]}],X1,{target:=.fn (.func gf) lb,args:=#[.func (.yield l) #[] #[]]},X1,gf,#[.func (.yield l) #[] #[]]++lb,X1,run_enterLoop_outer _ _ _ _ _,?_,?_,?_,fun _=>h1,?_⟩
 ·simp only[resolve,hg];simp[go_sem]
 ·intro f' hf';simp[Target.leads]at hf';subst hf';exact hFg
 ·simp[invoke,go_sem,eg]
 refine(hiter l (fun k W=>I k W∧W.heap[l]? =some (.loop (rec' .ready none))∧W.heap[D]? =some (.deferred (some []))) _ hB1
  (fun k X Y h t=>⟨hI k X Y h.1 t.i,t.others _ _ rfl h.2.1,t.others _ _ rfl h.2.2⟩) ?_ ⟨hI1,hL1,hD1⟩).mono ?_
 ·rintro k W ⟨hi,hl,hd⟩ hk;refine⟨fn,_,assign,body,run_yield (P:=P) (args:=encs k) hl (hps k),roundIn_of_wpIn hfn (wpIn_mono (hround l k W (Nat.le_succ _) hi hk) ?_)⟩;rintro e a1 W1 hp;cases e with
  |normal=>
   obtain⟨k1,p1,hbody⟩:=hp;have hl1:=k1.same _ _ (Nat.le_succ _) hl rfl;have hd1:=k1.same _ _ (Nat.le_refl _) hd rfl;have s12:=Same0.putObj hl1 rfl (.loop {rec' .ready none with state:=.busy});have hl2:(W1.putObj l (.loop {rec' .ready none with state:=.busy})).heap[l]? =some (.loop {rec' .ready none with state:=.busy}):=World.putObj_heap_same (Array.getElem?_eq_some_iff.1 hl1).1;have hd2:(W1.putObj l (.loop {rec' .ready none with state:=.busy})).heap[D]? =some (.deferred (some [])):=(World.putObj_heap_other (Nat.ne_of_lt (Nat.lt_succ_self _))).trans hd1;refine⟨_,run_beginRound hl1 rfl,wpIn_mono (hbody _ s12 (TurnI.putObj hl1 rfl (Nat.le_trans hB0 (Nat.le_succ _)) _)) ?_⟩;rintro e3 a3 W3 ⟨rfl,k3,p3,i3⟩;have hl3:=k3.same _ _ (Nat.le_succ _) hl2 rfl;have hd3:=k3.same _ _ (Nat.le_refl _) hd2 rfl
   exact⟨_,_,run_endRound (P:=P) none hl3,rfl,⟨hI _ _ _ i3 (TurnI.putObj hl3 rfl (Nat.le_trans hB0 (Nat.le_succ _)) _),World.putObj_heap_same (Array.getElem?_eq_some_iff.1 hl3).1,(World.putObj_heap_other (Nat.ne_of_lt (Nat.lt_succ_self _))).trans hd3⟩,
    hKt p1 (hKt (hK0 _ _ s12) (hKt p3 (hK0 _ _ (Same0.putObj hl3 rfl _))))⟩
  |ret=>exact hp.elim
  |exit id=>exact hp.elim
  |goto t=>exact hp.elim
  |panic ch=>exact hp.elim
  |outgrown=>exact hp.elim
 ·rintro e W2 ⟨⟨v,rfl⟩,hi,hl,hd⟩;exact⟨none,_,run_endLoop (P:=P) hl (by simp[rec']),hdone D _ (Nat.le_refl _) (hI _ _ _ hi (TurnI.putObj hl rfl (Nat.le_trans hB0 (Nat.le_succ _)) _)) ((World.putObj_heap_other (Nat.ne_of_lt (Nat.lt_succ_self _))).trans hd)⟩
theorem zkO {F:Fence} {n:Nat} {P:Program} {g:Operand} {ps:Array Tmp} {assign body:Code} {Q:Exit→Act→World→Prop} {a:Act} {w:World}
 (hro:F.round=none) (h1:1≤n) {gf:Nat} {lb:Array Value} (hg:a.eval g=.func (.func gf) #[] lb) (hFg:F.fn gf) (eg:∀args w,(callFunc gf args).run P w=.ok (.enter gf args) w)
 {encs:Nat→Array Value} {Kp:World→World→Prop} {N:Nat} {T:TypeId}
 (hiter:∀(l:Nat) (J:Nat→World→Prop) (W:World),Below w.heap.size w W→(∀k X Y,J k X→TurnJ w.heap.size T X Y→J k Y)→
   (∀k W1,J k W1→k<N→YieldAt F (n-1-1) P l (encs k) W1 fun e W'=>e=.returned (.bool true)∧J (k+1) W'∧Kp W1 W')→J 0 W→
   CallsIn F (n-1) P gf (#[.func (.yield l) #[] #[]]++lb) W fun e W'=>(∃v,e=.returned v)∧J N W')
 (hKt:∀{A B C:World},Kp A B→Kp B C→Kp A C) (hK0:∀W V,Same0 W V→Kp W V) (hps:∀k,(encs k).size=ps.size)
 (I:Nat→World→Prop) (hI:∀k W V,I k W→TurnI w.heap.size T W V→I k V) (h0:I 0 w)
 (hround:∀(l k:Nat) (W:World),w.heap.size≤l→I k W→k<N→
   assign.wpIn (F.inRound l) (n-1-1) P (Exit.then (fun a1 W1=>KeepsFrom w.heap.size W W1∧Kp W W1∧∀W2,Same0 W1 W2→TurnI w.heap.size T W1 W2→body.wpIn (F.inRound l) (n-1-1) P (fun e _ W3=>e=.normal∧KeepsFrom w.heap.size W2 W3∧Kp W2 W3∧I (k+1) W3) a1 W2) (fun _ _ _=>False))
    {tmps:=(ps.zip (encs k)).foldl (fun t (p,v)=>t.setIfInBounds p v) a.tmps,defers:=[]} W)
 (hdone:∀(D:Nat) (W:World),w.heap.size≤D→I N W→W.heap[D]? =some (.deferred (some []))→Q .normal {a with defers:={target:=.collected D,args:=#[]}::a.defers} W):
 (Code.rangeFunc g ps assign body).wpIn F n P Q a w:=
 zkI (hB0:=Nat.le_refl _) hro h1 hg hFg eg hiter hKt hK0 hps I hI h0 hround hdone
open Go.RowKit Go.WideMaps
theorem zgn:laidOutB Tryz.prog=true:=by kernel_rfl
theorem zbL:KeyLaw Tryz.prog 144:=deep_law_laid zgn (m:=3) (by omega) (of_decide_eq_true (by kernel_rfl)) (by kernel_rfl) (by kernel_rfl)
theorem zdX:KeyLaw Tryz.prog 148:=deep_law_laid zgn (m:=3) (by omega) (of_decide_eq_true (by kernel_rfl)) (by kernel_rfl) (by kernel_rfl)
theorem zgm:∃m,Tryz.prog.types.size+1=m+2:=⟨_,(by kernel_rfl:Tryz.prog.types.size+1=(Tryz.prog.types.size-1)+2)⟩
theorem zbJ:Tryz.prog.cellsOf 144=2:=by kernel_rfl
theorem zdV:Tryz.prog.cellsOf 148=5:=by kernel_rfl
theorem zbK:Tryz.prog.keyType 144=true:=by kernel_rfl
theorem zdW:Tryz.prog.keyType 148=true:=by kernel_rfl
def zbI (x:ScK):Value:=.agg #[.int .i64 x.1,.string (bsB x.2)]
def zdU (x:VrK):Value:=.agg #[.int .i64 x.1,.string (bsB x.2.1),.bool x.2.2.1,.int .i64 x.2.2.2.1,.int .i64 x.2.2.2.2]
theorem zfD:Tryz.prog.cellsOf 3=1:=by kernel_rfl
theorem znn:Tryz.prog.cellsOf 9=1:=by kernel_rfl
theorem zbd:Tryz.prog.cellsOf 4=1:=by kernel_rfl
theorem zbM (x:ScK) (h1:(Lit.int .i64 x.1).wf=true) (h2:x.2.length≤maxLen):keyOf Tryz.prog 144 (zbI x)=some (.string (keyBytes [.int .i64 x.1,.string x.2])):=by
 obtain⟨m,hm⟩:=zgm;unfold keyOf;rw[Tryz.underlying144];simp only;rw[if_pos (by rw[zbK,Bool.true_and];simp[Value.formed,zbI,Tryz.underlying144,zbJ]),hm];have hs:(bsB x.2).size≤maxLen:=by rw[zbk];exact h2
 simp[Program.keyLits,Tryz.underlying144,Tryz.underlying3,Tryz.underlying9,zbJ,zfD,znn,zbI,Value.cells,h1,hs,zbh]
theorem zdY (x:VrK) (h1:(Lit.int .i64 x.1).wf=true) (h2:x.2.1.length≤maxLen) (h3:(Lit.int .i64 x.2.2.2.1).wf=true) (h4:(Lit.int .i64 x.2.2.2.2).wf=true):
 keyOf Tryz.prog 148 (zdU x)=some (.string (keyBytes [.int .i64 x.1,.string x.2.1,.bool x.2.2.1,.int .i64 x.2.2.2.1,.int .i64 x.2.2.2.2])):=by
 obtain⟨m,hm⟩:=zgm;unfold keyOf;rw[Tryz.underlying148];simp only;rw[if_pos (by rw[zdW,Bool.true_and];simp[Value.formed,zdU,Tryz.underlying148,zdV]),hm];have hs:(bsB x.2.1).size≤maxLen:=by rw[zbk];exact h2
 simp[Program.keyLits,Tryz.underlying148,Tryz.underlying3,Tryz.underlying9,Tryz.underlying4,zdV,zfD,znn,zbd,zdU,Value.cells,h1,h3,h4,hs,zbh]
def zbH:KeyEnc Tryz.prog 144 ScK where
 vK:=zbI
 lK x:=.string (keyBytes [.int .i64 x.1,.string x.2])
 dom x:=(Lit.int .i64 x.1).wf=true∧x.2.length≤maxLen
 key _ _:=trivial
 of x hx:=zbM x hx.1 hx.2
 inj x y hx hy h:=by
  have:=zbL.inj (zbM x hx.1 hx.2) (by rw[h];exact zbM y hy.1 hy.2);unfold zbI at this;injection this with this;simp at this;obtain⟨h1,h2⟩:=this;refine Prod.ext h1 ?_;have:=congrArg (fun b=>b.data.toList) h2;simpa[bsB] using this
 law:=Maps.Keyed.of_law zbL
def zdT:KeyEnc Tryz.prog 148 VrK where
 vK:=zdU
 lK x:=.string (keyBytes [.int .i64 x.1,.string x.2.1,.bool x.2.2.1,.int .i64 x.2.2.2.1,.int .i64 x.2.2.2.2])
 dom x:=((Lit.int .i64 x.1).wf=true∧x.2.1.length≤maxLen)∧(Lit.int .i64 x.2.2.2.1).wf=true∧(Lit.int .i64 x.2.2.2.2).wf=true
 key _ _:=trivial
 of x hx:=zdY x hx.1.1 hx.1.2 hx.2.1 hx.2.2
 inj x y hx hy h:=by
  have:=zdX.inj (zdY x hx.1.1 hx.1.2 hx.2.1 hx.2.2) (by rw[h];exact zdY y hy.1.1 hy.1.2 hy.2.1 hy.2.2);obtain⟨x1,x2,x3,x4,x5⟩:=x;obtain⟨y1,y2,y3,y4,y5⟩:=y;unfold zdU at this;injection this with this;simp at this;obtain⟨h1,h2,h3,h4,h5⟩:=this;have h2':=congrArg (fun b=>b.data.toList) h2;have h2':x2=y2:=by simpa[bsB] using h2'
  subst h1 h2' h3 h4 h5;rfl
 law:=Maps.Keyed.of_law zdX
def decA (n:Nat) (l:Bs):Nat:=l.foldl (fun n c=>10*n+(c.toNat-48)) n
theorem zfG (c:UInt8):isD c=true↔48≤c.toNat∧c.toNat≤57:=by
 unfold isD;rw[Bool.and_eq_true,decide_eq_true_iff,decide_eq_true_iff]
theorem zkA:∀(l:Bs) (a:Nat),l.all isD=true→(a+1)*10^l.length≤1000000000000000→Lib.parseUint10 a l=.ok (decA a l)∧decA a l<1000000000000000
 | [],a,_,h=>⟨rfl,by simp[decA]at h⊢;omega⟩
 |c::r,a,hd,h=>by
  rw[List.all_cons,Bool.and_eq_true]at hd;obtain⟨hc,hr⟩:=hd;have hc:=(zfG c).1 hc;have hpos:1≤10^r.length:=Nat.one_le_pow _ _ (by decide)
  have h1:(10*a+10)*10^r.length≤1000000000000000:=by
   have:(a+1)*10^(c::r).length=(10*a+10)*10^r.length:=by
    rw[List.length_cons,Nat.pow_succ,Nat.mul_comm (10^r.length) 10,←Nat.mul_assoc];congr 1
    omega
   omega
  have h2:10*a+10≤1000000000000000:=Nat.le_trans (Nat.le_mul_of_pos_right _ hpos) h1;have h3:(10*a+(c.toNat-48)+1)*10^r.length≤1000000000000000:=Nat.le_trans (Nat.mul_le_mul_right _ (by omega)) h1;have ih:=zkA r (10*a+(c.toNat-48)) hr h3;simp only[Lib.parseUint10];rw[if_pos hc,if_neg (by omega),if_neg (by omega),Nat.mul_comm a 10];exact ih
theorem zaL {u:Bs} (h0:u≠ []) (hl:u.length≤15) (hd:u.all isD=true):Lib.atoiAll u=.ok (decN u:Int):=by
 obtain⟨h1,h2⟩:=zkA u 0 hd (by
  rw[Nat.zero_add,Nat.one_mul];exact Nat.pow_le_pow_right (by decide:0<10) hl)
 cases u with
 |nil=>exact absurd rfl h0
 |cons c r=>
  have hc:=(zfG c).1 (by rw[List.all_cons,Bool.and_eq_true]at hd;exact hd.1);unfold Lib.atoiAll;simp only;rw[if_neg (show ¬(c.toNat=43∨c.toNat=45)by omega)];unfold Lib.parseMag;rw[if_neg (by simp),h1];simp only;rw[if_neg (by omega),if_neg (by omega),if_neg (by omega)];rfl
def escN (s:Bs):Bool:=decide (2≤s.length)&&(decide (s.length≤32)&&(decide (s.head? =some 92)&&s.all prn))
def refN (s:Bs):Bool:=escN s||(decide (s≠ [])&&(decide (s.length≤32)&&(s.all prn&&(decide (s.head? ≠some 36)&&(!s.contains 92&&(!s.contains 46&&(!s.contains 91&&!s.contains 93)))))))
theorem zqN (l:Bs):(l.any fun d=>d==92||d==46||d==91||d==93)=(l.contains 92||(l.contains 46||(l.contains 91||l.contains 93))):=by
 induction l with
 |nil=>rfl
 |cons c l ih=>
  rw[List.any_cons,ih];simp only[List.contains_cons];have e:∀d:UInt8,(d==c)=(c==d):=fun d=>by rw[Bool.eq_iff_iff,beq_iff_eq,beq_iff_eq];exact⟨Eq.symm,Eq.symm⟩
  rw[e,e,e,e];cases c==92<;>cases c==46<;>cases c==91<;>cases c==93<;>simp
theorem zrI (s:Bs):refN s=zhz s:=by
 unfold refN escN zhz;cases s with
 |nil=>rfl
 |cons c l=>
  have e1:decide ((c::l)≠ [])=true:=by simp
  rw[e1,List.head?_cons];by_cases h:c=92
  ·subst h;have e2:(92::l).contains (92:UInt8)=true:=by simp
   have e3:decide (some (92:UInt8)=some 92)=true:=by simp
   rw[e2,e3];simp only[Bool.not_true,Bool.false_and,Bool.and_false,Bool.or_false,Bool.true_and,if_pos];rw[Bool.and_comm,Bool.and_assoc]
  ·have e3:decide (some c=some (92:UInt8))=false:=by simpa using h
   have e4:decide (some c≠some (36:UInt8))=decide (c≠36):=by simp
   rw[e3,e4];simp only[Bool.false_and,Bool.and_false,Bool.false_or,Bool.true_and];rw[if_neg h,zqN,Bool.and_assoc];cases(c::l).contains 92<;>cases(c::l).contains 46<;>cases(c::l).contains 91<;>cases(c::l).contains 93<;>rfl
section
variable {P : Program} {ops : Array Oper} {Q : Exit → Act → World → Prop} {md : Region.Mode} {S : World → Prop} {X : Nat → Bool}
def zsX (P:Program) (md:Region.Mode) (ops:Array Oper) (Q:Exit→Act→World→Prop) (S:World→Prop) (X:Nat→Bool):Nat→Array Bool→Act→World→Prop
 |0,listed,a,w=>Region.ready md ops listed=[]∧Q .normal a w
 |fuel+1,listed,a,w=>(Region.ready md ops listed=[]→Q .normal a w)∧
  ∀i∈Region.ready md ops listed,wpOp P ops Q i (fun a' w'=>(X i=false→S w')∧zsX P md ops Q S X fuel (listed.setIfInBounds i true) a' w') a w
theorem zs1:∀(fuel:Nat) (listed:Array Bool) (a:Act) (w:World),zsX P md ops Q S X fuel listed a w→wpAny P md ops Q fuel listed a w
 |0,_,_,_,h=>h
 |fuel+1,_,_,_,h=>⟨h.1,fun i hi=>wpOp_mono (fun a' w' h'=>zs1 fuel _ a' w' h'.2) (h.2 i hi)⟩
def zrv (md:Region.Mode) (ops:Array Oper) (X:Nat→Bool) (i:Nat):Bool:=(List.range ops.size).all fun j=>!X j||match ops[j]? with
 |some oj=>oj.after.any (fun e=>Region.binds md e&&e.on==i)
 |none=>true
theorem zrw {i j:Nat} {oj:Oper} (h:zrv md ops X i=true) (hj:ops[j]? =some oj) (hX:X j=true):∃e∈oj.after,Region.binds md e=true∧e.on=i:=by
 unfold zrv at h;rw[List.all_eq_true]at h;have h1:=h j (List.mem_range.2 (Array.getElem?_eq_some_iff.1 hj).1);rw[hX,hj]at h1;simp only[Bool.not_true,Bool.false_or]at h1;obtain⟨e,he,hb⟩:=Array.any_eq_true'.1 h1;simp only[Bool.and_eq_true,beq_iff_eq]at hb;exact⟨e,he,hb.1,hb.2⟩
theorem zsY {i:Nat} {oi:Oper} {v:Value} (hi:ops[i]? =some oi) (hsel:∀(j:Nat) (o:Oper) cs b,ops[j]? =some o→o.op≠ .select cs b)
 (hQ:∀c a w,Q (.panic c) (a.put oi.dst v) w→Q (.panic c) a w) (hX:zrv md ops X i=true):
 ∀(fuel:Nat) (listed:Array Bool) (a:Act) (w:World),
  (∀j oj,ops[j]? =some oj→j≠i→listed.getD j true=false→(∀e∈oj.after,Region.binds md e=true→e.on≠i)→oi.apart ops oj=true)→
  i∈Region.ready md ops listed→YieldsIf P ops S oi v a→S w→
  zsX P md ops Q S X fuel (listed.setIfInBounds i true) (a.put oi.dst v) w→zsX P md ops Q S X (fuel+1) listed a w:=by
 intro fuel;induction fuel with
 |zero=>
  intro listed a w _ hr hy hS H;refine⟨fun h=>(by rw[h]at hr;cases hr),fun j hj=>?_⟩;by_cases hji:j=i
  ·subst hji;exact hy.wpOp hi hS ⟨fun _=>hS,H⟩
  ·have:=ready_mono hj hji;rw[H.1]at this;cases this
 |succ fuel ih=>
  intro listed a w hfree hr hy hS H;refine⟨fun h=>(by rw[h]at hr;cases hr),fun j hj=>?_⟩;by_cases hji:j=i
  ·subst hji;exact hy.wpOp hi hS ⟨fun _=>hS,H⟩
  ·have h1:=H.2 j (ready_mono hj hji);obtain⟨hjun,oj,hoj,hall⟩:=mem_ready.1 hj
   have hnot:∀e∈oj.after,Region.binds md e=true→e.on≠i:=fun e he hb heq=>by
    have h1:=hall e he hb;have h0:=(mem_ready.1 hr).1;rw[heq]at h1;rcases Nat.lt_or_ge i listed.size with h'|h'
    ·simp[h']at h0 h1;rw[h0]at h1;cases h1
    ·simp[Array.getElem?_eq_none h']at h1
   have hXj:X j=false:=by
    cases hx:X j with
    |false=>rfl
    |true=>
     obtain⟨e,he,hb,heq⟩:=zrw hX hoj hx;exact absurd heq (hnot e he hb)
   have h2:=wpOp_putIf hoj (hfree j oj hoj hji hjun hnot) (fun cs b=>hsel i oi cs b hi) (fun cs b=>hsel j oj cs b hoj) hQ hy h1
   have hfree':∀k ok,ops[k]? =some ok→k≠i→(listed.setIfInBounds j true).getD k true=false→
    (∀e∈ok.after,Region.binds md e=true→e.on≠i)→oi.apart ops ok=true:=fun k ok hk hki hun hno=>by
    refine hfree k ok hk hki ?_ hno;by_cases hjk:j=k
    ·subst hjk;exact hjun
    ·rw[getD_set_ne true hjk]at hun;exact hun
   refine wpOp_mono (fun a' w' h3=>⟨fun _=>h3.2.1 hXj,ih (listed.setIfInBounds j true) a' w' hfree' (ready_mono hr (Ne.symm hji)) h3.1 (h3.2.1 hXj) ?_⟩) h2;rw[Array.setIfInBounds_comm _ _ hji];exact h3.2.2
theorem zs0 {i:Nat} {oi:Oper} {v:Value} {fuel:Nat} {listed:Array Bool} {a:Act} {w:World} (hi:ops[i]? =some oi)
 (hs:Region.noSelect ops=true) (hf:Region.free md ops listed i=true) (hr:(Region.ready md ops listed).contains i=true) (hX:zrv md ops X i=true)
 (hQ:∀c a w,Q (.panic c) (a.put oi.dst v) w→Q (.panic c) a w) (hy:YieldsIf P ops S oi v a) (hS:S w)
 (h:zsX P md ops Q S X fuel (listed.setIfInBounds i true) (a.put oi.dst v) w):zsX P md ops Q S X (fuel+1) listed a w:=
 zsY hi (Region.noSelect_spec hs) hQ hX fuel listed a w (Region.free_spec hi hf) (by simpa using hr) hy hS h
theorem zsZ {i:Nat} {o:Oper} {fuel:Nat} {listed:Array Bool} {a:Act} {w:World} (hr:Region.ready md ops listed=[i]) (ho:ops[i]? =some o)
 (h:∀K':Act→World→Prop,Shut (∀a w,(X i=false→S w)→zsX P md ops Q S X fuel (listed.setIfInBounds i true) a w→K' a w)→if Region.wanted o (yielded ops a.tmps)=true then Oper.wp P o a w K' Q else K' (a.put o.dst undef) w):
 zsX P md ops Q S X (fuel+1) listed a w:=by
 refine⟨fun h0=>(by rw[hr]at h0;cases h0),fun j hj=>?_⟩;rw[hr,List.mem_singleton]at hj;subst hj;exact wpOp_step ho (fun K' hK=>h K' (fun a w hS hW=>hK a w ⟨hS,hW⟩))
theorem zs2 {id:Nat} {a:Act} {w:World} (hm:P.follows .mixedOrders=true)
 (h:zsX P .any ops Q S X ops.size (Array.replicate ops.size false) a w.drew):(Code.region id ops true).wp P Q a w:=
 wp_region_any hm (zs1 _ _ _ _ h)
end
end Go.Proofs.YtcdekelomkcahaaGreatDoor
