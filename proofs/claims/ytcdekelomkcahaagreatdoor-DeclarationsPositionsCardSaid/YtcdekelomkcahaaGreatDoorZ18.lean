import Derived.Test.YtcdekelomkcahaaGreatDoorZ14
import Derived.Test.YtcdekelomkcahaaGreatDoorZ15
set_option maxRecDepth 100000
set_option maxHeartbeats 16000000
namespace Go.Proofs.YtcdekelomkcahaaGreatDoor
open Go.RowKit
def val (v:ByteArray):List Ch→Int→ByteArray
 | [],_=>v
 |c::l,t=>val (if c.1≤t then c.2 else v) l t
theorem zot (v:ByteArray) (c:Ch) (l:List Ch) (t:Int):val v (c::l) t=val (if c.1≤t then c.2 else v) l t:=rfl
def zal (a:Int):List Ch→Prop
 | []=>True
 |c::l=>a≤c.1∧zal c.1 l
theorem zal.mono {a b:Int} (h:b≤a):∀{l:List Ch},zal a l→zal b l
 | [],_=>trivial
 |_::_,⟨h1,h2⟩=>⟨by omega,h2⟩
theorem zal.sub {m:List Ch}:∀{l:List Ch} {a:Int},List.Sublist m l→zal a l→zal a m:=by
 intro l a hs;induction hs generalizing a with
 |slnil=>intro _;trivial
 |cons x _ ih=>intro h;exact(ih h.2).mono h.1
 |cons_cons x _ ih=>intro h;exact⟨h.1,ih h.2⟩
theorem zal.append {a b:Int}:∀{l m:List Ch},zal a l→(∀c∈l,c.1≤b)→a≤b→zal b m→zal a (l++m)
 | [],_,_,_,hab,hm=>hm.mono hab
 |c::_,_,⟨h1,h2⟩,hl,_,hm=>⟨h1,zal.append h2 (fun d hd=>hl d (List.mem_cons_of_mem _ hd)) (hl c List.mem_cons_self) hm⟩
theorem zow {v:ByteArray} {t:Int}:∀{l:List Ch} {a:Int},zal a l→t<a→val v l t=v
 | [],_,_,_=>rfl
 |c::l,a,⟨h1,h2⟩,h=>by
  rw[zot,if_neg (by omega)];exact zow h2 (by omega)
theorem zib (k:Int):∀(l:List Ch) (v:ByteArray),(zh8 k v l).Sublist l
 | [],_=>List.Sublist.refl _
 |c::l,v=>by
  unfold zh8;split
  ·exact(zib k l v).cons _
  ·exact(zib k l c.2).cons_cons _
theorem zia {k a:Int} {v:ByteArray} {l:List Ch} (h:zal a l):zal a (zh8 k v l):=h.sub (zib k l v)
theorem zox (k:Int) (t:Int):∀(l:List Ch) (v:ByteArray) (a:Int),zal a l→val v (zh8 k v l) t=val v l t
 | [],_,_,_=>rfl
 |c::l,v,a,⟨h1,h2⟩=>by
  unfold zh8;split
  ·rename_i hc
   rw[zox k t l v c.1 h2,zot];rcases hc with⟨d,hd,he⟩|⟨-,he⟩
   ·cases l with
    |nil=>simp at hd
    |cons d' l=>
     simp at hd;subst hd;rw[zot,zot,he];split<;>rfl
   ·rw[he];simp
  ·rw[zot,zot];by_cases ht:c.1≤t
   ·rw[if_pos ht];exact zox k t l c.2 c.1 h2
   ·rw[if_neg ht,zow h2 (by omega),zow (zia h2) (by omega)]
def Nrm (k n:Int) (l:List Ch):Prop:=vt k n=true∧l.length≤4096∧zal 0 l∧∀c∈l,c.1≤1099511627776∧vv k n c.2=true
theorem Nrm.made {k n:Int} {l:List Ch} (h:Nrm k n l):zha k n l=((k,n,zic k n l),0):=by
 unfold zha;have:=zh9 k l (vi k n);have:=h.2.1;rw[if_neg (by unfold zic;omega)]
theorem Nrm.val {k n:Int} {l:List Ch} (h:Nrm k n l) (t:Int):val (vi k n) (zic k n l) t=val (vi k n) l t:=zox k t l _ 0 h.2.2.1
def zgo (t:Int):Int:=if t=3∨t=4 then 1 else if t=6 then 2 else if t=0 then 3 else 0
def spl:Bs→Bs→List Bs
 | [],cur=> [cur]
 |c::t,cur=>if c=32 then cur::spl t []else spl t (cur++ [c])
def zpZ (w:Bs):Bool:=!decide (w=[])&&!decide (w.head? =some 36)&&w.all prn
def zp2 (s:Bs):Bool:=decide (s=[])||((spl s []).all zpZ&&decide (s.length≤200))
end Go.Proofs.YtcdekelomkcahaaGreatDoor
