import Derived.Test.YtfppgpamkdkckaaGreatDoorZ00
import Derived.Test.YtfppgpamkdkckaaGreatDoorZ20
import Derived.Test.YtfppgpamkdkckaaGreatDoorZ23
import Derived.Test.YtfppgpamkdkckaaGreatDoorZ24
set_option maxRecDepth 100000
set_option maxHeartbeats 16000000
namespace Go.Proofs.YtfppgpamkdkckaaGreatDoor
open Go.RowKit
theorem zc7 {zs:List Int} (h:zs.Pairwise (fun x y=>x≤y)):∀m,m≤zs.length→(Lib.compactUpTo zs.toArray m).Pairwise (fun x y=>x<y)∧(∀x,x∈Lib.compactUpTo zs.toArray m↔x∈zs.take m)
 |0,_=>⟨List.Pairwise.nil,fun x=>by simp[Lib.compactUpTo]⟩
 |m+1,hm=>by
  have hlt:m<zs.length:=hm;obtain⟨h1,h2⟩:=zc7 h m (by omega);have e:zs.toArray[m]! =zs[m]:=by simp[hlt]
  have hle:∀x∈zs.take m,x≤zs[m]:=fun x hx=>by
   obtain⟨i,hi,rfl⟩:=List.mem_iff_getElem.1 hx;rw[List.length_take]at hi;rw[List.getElem_take];exact List.pairwise_iff_getElem.1 h i m (by omega) hlt (by omega)
  rw[Lib.compactUpTo_succ,e];by_cases hk:Lib.keeps zs.toArray m=true
  ·rw[if_pos hk]
   have hne:m=0∨(∃h:0<m,zs[m]≠zs[m-1]):=by
    unfold Lib.keeps at hk;rw[decide_eq_true_iff]at hk;rcases hk with hk|hk
    ·exact .inl hk
    ·rcases Nat.eq_zero_or_pos m with h0|h0
     ·exact .inl h0
     ·refine .inr ⟨h0,?_⟩;have e2:zs.toArray[m-1]! =zs[m-1]:=by simp[show m-1<zs.length by omega]
      rwa [e,e2]at hk
   refine⟨List.pairwise_append.2 ⟨h1,List.pairwise_singleton _ _,fun x hx y hy=>?_⟩,fun x=>?_⟩
   ·rw[List.mem_singleton]at hy;subst hy;have hx':=(h2 x).1 hx;rcases hne with h0|⟨h0,hne⟩
    ·subst h0;simp at hx'
    ·obtain⟨i,hi,rfl⟩:=List.mem_iff_getElem.1 hx';rw[List.length_take]at hi;rw[List.getElem_take];have a1:zs[m-1]≤zs[m]:=List.pairwise_iff_getElem.1 h (m-1) m (by omega) hlt (by omega);rcases Nat.lt_or_ge i (m-1)with hi2|hi2
     ·have a2:zs[i]'(by omega)≤zs[m-1]:=List.pairwise_iff_getElem.1 h i (m-1) (by omega) (by omega) hi2;omega
     ·obtain rfl:i=m-1:=by omega
      omega
   ·rw[List.mem_append,h2,List.take_succ_eq_append_getElem hlt,List.mem_append]
  ·rw[if_neg hk,List.append_nil];refine⟨h1,fun x=>?_⟩;unfold Lib.keeps at hk;rw[decide_eq_true_iff]at hk;have h0:0<m:=Nat.pos_of_ne_zero fun h=>hk (.inl h);have e2:zs.toArray[m-1]! =zs[m-1]:=by simp[show m-1<zs.length by omega]
   rw[e,e2]at hk
   have hk:zs[m]=zs[m-1]:=by
    rcases Int.decEq zs[m] zs[m-1]with h|h
    ·exact absurd (.inr h) hk
    ·exact h
   rw[h2,List.take_succ_eq_append_getElem hlt,List.mem_append,List.mem_singleton];refine⟨.inl,fun h=>?_⟩;rcases h with h|h
   ·exact h
   ·rw[h,hk];exact List.mem_take_iff_getElem.2 ⟨m-1,by omega,rfl⟩
theorem zc6 {zs:List Int} (h:zs.Pairwise (fun x y=>x≤y)):(Lib.compact zs).Pairwise (fun x y=>x<y)∧∀x,x∈Lib.compact zs↔x∈zs:=by
 have:=zc7 h zs.length (Nat.le_refl _);rwa [List.take_length]at this
theorem zpg (zs:List Int):(Lib.compact (zs.mergeSort fun x y=>decide (x≤y))).Pairwise (fun x y=>x<y)∧∀x,x∈Lib.compact (zs.mergeSort fun x y=>decide (x≤y))↔x∈zs:=by
 have hs:(zs.mergeSort fun x y=>decide (x≤y)).Pairwise (fun x y=>x≤y):=by
  have:=List.pairwise_mergeSort (le:=fun x y:Int=>decide (x≤y)) (fun a b c h1 h2=>by rw[decide_eq_true_iff]at*;omega) (fun a b=>by simp;omega) zs;exact this.imp fun h=>of_decide_eq_true h
 obtain⟨h1,h2⟩:=zc6 hs;exact⟨h1,fun x=>by rw[h2,List.mem_mergeSort]⟩
def zfX (en:Int) (P:List Gp):List Int:=P.flatMap fun g=>g.1::(if g.2≤en then [g.2]else [])
def zqJ (t:Tr):List Int:=zqD t.G++ [0,t.en]++zfX t.en t.P
def zqz (t:Tr):List Int:=Lib.compact ((zqJ t).mergeSort fun x y=>decide (x≤y))
def chE (n:Nat) (v:ByteArray):Rc:=(1,0,zcG n,v.data.toList)
def onE (P:List Gp) (x:Int):Bool:=P.any fun g=>decide (g.2=x)
def offE (P:List Gp) (x:Int):Bool:=P.any fun g=>decide (g.1=x)
def p1E (off:Bool) (n:Nat) (s:Sg):List Rc:=if s.1=3 then []else if s.1=0∧off=true then [chE n (vi s.1 s.2.1)]else [chE n (atR s.1 s.2.1 s.2.2 0).1]
def p2E (x:Int) (n:Nat) (s:Sg):List Rc:=if s.1=0 then [chE n (atR s.1 s.2.1 s.2.2 x).1]else []
def gotE (z on:Bool) (s:Sg):Bool:=(z&&!decide (s.1=3))||(on&&decide (s.1=0))
def p3E (x:Int) (z on off:Bool) (n:Nat) (s:Sg):List Rc:=match winR s.1 s.2.1 s.2.2 x x with
 | []=> []
 |c::_=>if gotE z on s=false∧(s.1≠0∨off=false)then [chE n c.2]else []
def upX (f:Nat→Sg→List Rc) (G:List Sg) (k:Nat):List Rc:=(List.range k).flatMap fun n=>f n (G.getD n (0,0,[]))
theorem zrE (f:Nat→Sg→List Rc) (G:List Sg):upX f G 0=[]:=rfl
theorem zrD (f:Nat→Sg→List Rc) {G:List Sg} {k:Nat} (h:k<G.length):upX f G (k+1)=upX f G k++f k G[k]:=by
 unfold upX;rw[List.range_succ,List.flatMap_append,List.flatMap_cons,List.flatMap_nil,List.append_nil];rw[show G.getD k (0,0,[])=G[k]by simp[h]]
def momE (t:Tr) (x:Int):List Rc:=
 (0,x,[],[])::((if x=0 then(4,0,[],[])::upX (p1E (inP t.P x)) t.G t.G.length else [])++((if onE t.P x=true then(3,0,[],[])::upX (p2E x) t.G t.G.length else [])++
   (upX (p3E x (decide (x=0)) (onE t.P x) (inP t.P x)) t.G t.G.length++(if offE t.P x=true then [(2,0,[],[])]else []))))
def zm1 (t:Tr):List Rc:=(zqz t).flatMap (momE t)
theorem zqM {t:Tr} {x:Int}:x∈zqz t↔x∈zqD t.G∨x=0∨x=t.en∨x∈zfX t.en t.P:=by
 unfold zqz;rw[(zpg _).2];unfold zqJ;simp only[List.mem_append,List.mem_cons,List.not_mem_nil,or_false,or_assoc]
theorem zfY {en x:Int} {P:List Gp}:x∈zfX en P↔ ∃g∈P,x=g.1∨(g.2≤en∧x=g.2):=by
 unfold zfX;rw[List.mem_flatMap];constructor
 ·rintro⟨g,hg,h⟩;rcases List.mem_cons.1 h with h|h
  ·exact⟨g,hg,.inl h⟩
  ·split at h
   ·exact⟨g,hg,.inr ⟨by assumption,List.mem_singleton.1 h⟩⟩
   ·cases h
 ·rintro⟨g,hg,h⟩;refine⟨g,hg,?_⟩;rcases h with h|⟨h1,h2⟩
  ·exact List.mem_cons.2 (.inl h)
  ·exact List.mem_cons.2 (.inr (by rw[if_pos h1];exact List.mem_singleton.2 h2))
def ordX:Int→Nat→List Rc→Option Int
 |now,_,[]=>some now
 |now,i,r::l=>if r.1=0∧r.2.1≤now then none else if r.1=4∧i≠1 then none else ordX (if r.1=0 then r.2.1 else now) (i+1) l
def quE (r:Rc):Prop:=r.1≠0∧r.1≠4
theorem zli:∀(l m:List Rc) (now:Int) (i:Nat),(∀r∈l,quE r)→ordX now i (l++m)=ordX now (i+l.length) m
 | [],_,_,_,_=>rfl
 |r::l,m,now,i,h=>by
  have hr:=h r List.mem_cons_self;show(if r.1=0∧r.2.1≤now then none else if r.1=4∧i≠1 then none else ordX (if r.1=0 then r.2.1 else now) (i+1) (l++m))=_;rw[if_neg (fun h=>hr.1 h.1),if_neg (fun h=>hr.2 h.1),if_neg hr.1,zli l m now (i+1) fun r' h'=>h r' (List.mem_cons_of_mem _ h'),List.length_cons];congr 1
  omega
theorem zrO {f:Nat→Sg→List Rc} (h:∀n s,∀r∈f n s,quE r) (G:List Sg) (k:Nat):∀r∈upX f G k,quE r:=fun r hr=>by
 unfold upX at hr;obtain⟨n,-,hn⟩:=List.mem_flatMap.1 hr;exact h n _ r hn
theorem zbY (n:Nat) (v:ByteArray):quE (chE n v):=⟨by show(1:Int)≠0;decide,by show(1:Int)≠4;decide⟩
theorem zlM (off:Bool) (n:Nat) (s:Sg):∀r∈p1E off n s,quE r:=fun r hr=>by
 unfold p1E at hr;split at hr
 ·cases hr
 split at hr
 ·rw[List.mem_singleton.1 hr];exact zbY _ _
 ·rw[List.mem_singleton.1 hr];exact zbY _ _
theorem zlP (x:Int) (n:Nat) (s:Sg):∀r∈p2E x n s,quE r:=fun r hr=>by
 unfold p2E at hr;split at hr
 ·rw[List.mem_singleton.1 hr];exact zbY _ _
 ·cases hr
theorem zlQ (x:Int) (z on off:Bool) (n:Nat) (s:Sg):∀r∈p3E x z on off n s,quE r:=fun r hr=>by
 unfold p3E at hr;split at hr
 ·cases hr
 split at hr
 ·rw[List.mem_singleton.1 hr];exact zbY _ _
 ·cases hr
def zqh (t:Tr) (x:Int):List Rc:=(if onE t.P x=true then(3,0,[],[])::upX (p2E x) t.G t.G.length else [])++
 (upX (p3E x (decide (x=0)) (onE t.P x) (inP t.P x)) t.G t.G.length++(if offE t.P x=true then [(2,0,[],[])]else []))
theorem zqi (t:Tr) (x:Int):∀r∈zqh t x,quE r:=fun r hr=>by
 unfold zqh at hr;rcases List.mem_append.1 hr with hr|hr
 ·split at hr
  ·rcases List.mem_cons.1 hr with hr|hr
   ·rw[hr];exact⟨by decide,by decide⟩
   ·exact zrO (zlP x) _ _ r hr
  ·cases hr
 ·rcases List.mem_append.1 hr with hr|hr
  ·exact zrO (zlQ x _ _ _) _ _ r hr
  ·split at hr
   ·rw[List.mem_singleton.1 hr];exact⟨by decide,by decide⟩
   ·cases hr
theorem ziX (t:Tr) {x:Int} (h:x≠0):momE t x=(0,x,[],[])::zqh t x:=by
 unfold momE;rw[if_neg h];rfl
theorem ziZ (t:Tr):momE t 0=(0,0,[],[])::(4,0,[],[])::(upX (p1E (inP t.P 0)) t.G t.G.length++zqh t 0):=by
 unfold momE;rw[if_pos rfl];rfl
theorem zlf (t:Tr):∀(l:List Int) (now:Int) (i:Nat),0≤now→(now::l).Pairwise (fun x y=>x<y)→ordX now i (l.flatMap (momE t))=some ((now::l).getLast (by simp))
 | [],_,_,_,_=>rfl
 |x::l,now,i,h0,h=>by
  have h1:=List.pairwise_cons.1 h;have hx:now<x:=h1.1 x List.mem_cons_self;rw[List.flatMap_cons,ziX t (by omega),List.cons_append];show(if(0:Int)=0∧x≤now then none else if(0:Int)=4∧i≠1 then none else ordX (if(0:Int)=0 then x else now) (i+1) (zqh t x++l.flatMap (momE t)))=_;rw[if_neg (by omega),if_neg (by omega),if_pos rfl,zli _ _ _ _ (zqi t x),zlf t l x _ (by omega) h1.2];exact congrArg some (List.getLast_cons (by simp)).symm
theorem zlj {t:Tr} {l:List Int} (h:zqz t=0::l):∃r,zm1 t=(0,0,[],[])::(4,0,[],[])::r∧ordX (-1) 0 (zm1 t)=some ((0::l).getLast (by simp)):=by
 have hp:(0::l).Pairwise (fun x y=>x<y):=by rw[←h];exact(zpg _).1
 unfold zm1;rw[h,List.flatMap_cons,ziZ];refine⟨_,rfl,?_⟩
 have hq:∀r∈upX (p1E (inP t.P 0)) t.G t.G.length++zqh t 0,quE r:=fun r hr=>by
  rcases List.mem_append.1 hr with hr|hr
  ·exact zrO (zlM _) _ _ r hr
  ·exact zqi t 0 r hr
 show(if(0:Int)=0∧(0:Int)≤ -1 then none else if(0:Int)=4∧0≠1 then none else ordX (if(0:Int)=0 then 0 else-1) (0+1) ((4,0,[],[])::(upX (p1E (inP t.P 0)) t.G t.G.length++zqh t 0)++l.flatMap (momE t)))=_;rw[if_neg (by omega),if_neg (by omega),if_pos rfl,List.cons_append];show(if(4:Int)=0∧(0:Int)≤0 then none else if(4:Int)=4∧1≠1 then none else ordX (if(4:Int)=0 then 0 else 0) (0+1+1) ((upX (p1E (inP t.P 0)) t.G t.G.length++zqh t 0)++l.flatMap (momE t)))=_;rw[if_neg (by omega),if_neg (by omega),if_neg (by omega),zli _ _ _ _ hq,zlf t l 0 _ (Int.le_refl 0) hp]
theorem zqO {l:List Int} {en:Int} (hp:l.Pairwise (fun x y=>x<y)) (h0:0∈l) (hn:∀x∈l,0≤x∧x≤en) (he:en∈l):∃m,l=0::m∧(0::m).getLast (by simp)=en:=by
 cases l with
 |nil=>cases h0
 |cons a m=>
  have h1:=List.pairwise_cons.1 hp
  have ha:a=0:=by
   rcases List.mem_cons.1 h0 with h|h
   ·exact h.symm
   ·have:=h1.1 0 h;have:=(hn a List.mem_cons_self).1;omega
  subst ha;refine⟨m,rfl,?_⟩;have hl:(0::m).getLast (by simp)∈(0::m):=List.getLast_mem _;have h2:=(hn _ hl).2;obtain⟨i,hi,hie⟩:=List.mem_iff_getElem.1 he;rcases Nat.lt_or_ge i m.length with h|h
  ·have:=List.pairwise_iff_getElem.1 hp i m.length hi (by simp) h;have e:(0::m)[m.length]=(0::m).getLast (by simp):=by rw[List.getLast_eq_getElem];rfl
   rw[hie,e]at this;omega
  ·have hi':i=m.length:=by simp only[List.length_cons]at hi;omega
   rw[←hie,List.getLast_eq_getElem];congr 1
   simp[hi']
set_option linter.unusedSimpArgs false
theorem zq0 (pt:Nat) (n:Int) (x:Int×Int) (w:World) (hc:w.cell? ⟨pt,0,none⟩=some (.int .i64 n)):
 Calls Tryz.prog 147 #[gpV x,.pointer (some ⟨pt,0,none⟩)] w fun e w'=>e=.returned (.bool (decide (x.1≤n)&&decide (n<x.2)))∧Below w.heap.size w w':=by
 have hlt:=zbU hc;have hne:pt≠w.heap.size:=Nat.ne_of_lt hlt;obtain⟨a,b⟩:=x;have HB:=lhd (show Below w.heap.size w (w.alloc (.cells #[.int .i64 a,.int .i64 b] 94))from(Below.refl _ _).alloc (Nat.le_refl _) _);by_cases h1:a≤n
 ·have b1:decide (a≤n)=true:=by simpa using h1
  by_cases h2:n<b
  ·have b2:decide (n<b)=true:=by simpa using h2
   have HR:=lhd (show true=(decide (a≤n)&&decide (n<b))by rw[b1,b2];rfl);go_enter Tryz.func147,Tryz.ntmps147;go_wp2_with fail;go_ret;first|exact⟨znc HR.out,HB.out⟩|exact⟨rfl,HB.out⟩
  ·have b2:decide (n<b)=false:=by simpa using h2
   have HR:=lhd (show false=(decide (a≤n)&&decide (n<b))by rw[b1,b2];rfl);go_enter Tryz.func147,Tryz.ntmps147;go_wp2_with fail;go_ret;first|exact⟨znc HR.out,HB.out⟩|exact⟨rfl,HB.out⟩
 ·have b1:decide (a≤n)=false:=by simpa using h1
  have HR:=lhd (show false=(decide (a≤n)&&decide (n<b))by rw[b1];rfl);go_enter Tryz.func147,Tryz.ntmps147;go_wp2_with fail;go_ret;first|exact⟨znc HR.out,HB.out⟩|exact⟨rfl,HB.out⟩
theorem zqX (v:Value) (P:List Gp) (n:Int) (w:World) (hs:SlR w v P.length (gps P)):
 Calls Tryz.prog 84 #[v,.int .i64 n] w fun e w'=>e=.returned (.bool (inP P n))∧Below w.heap.size w w':=by
 have hb:Below w.heap.size w (w.alloc (.cells #[.int .i64 n] 3)):=(Below.refl _ _).alloc (Nat.le_refl _) _
 have HX:=lhd (zdd w.heap.size (fun g:Int×Int=>decide (g.1≤n)&&decide (n<g.2)) v P (w.alloc (.cells #[.int .i64 n] 3)) (hs.below hb) (fun x hx U hU=>zq0 w.heap.size n x U (by
  have h1:=(zan.fresh w #[.int .i64 n] 3).cell (j:=0) rfl;exact(hU.cell (p:=⟨w.heap.size,0,none⟩) (by simp)).trans h1)))
 have HB:=lhd hb;clear hb hs;go_enter Tryz.func84,Tryz.ntmps84;go_wp2_with fail;refine HX.out.mono ?_;rintro e w1 ⟨rfl,hb1⟩;have HB1:=lhd (HB.out.trans (hb1.mono HB.out.size));clear hb1;go_wp2_with fail;go_ret;exact⟨rfl,HB1.out⟩
open Go.RowKit Go.WideMaps Go.Shelf
attribute [local go_sem] Oper.semAt_some
def encR (L:List Rc) (k:Nat):Array Value:=#[rcV (L.getD k (0,0,[],[]))]
structure MO (J:Nat→World→Prop) (C:Array Value) (x:Int) (tb xb lp yb okb gb pb mb:Nat) (w0 W:World) (k cnt:Nat) (f:Int→Option Value):Prop where
 b:Below w0.heap.size w0 W
 t:W.heap[tb]? =some (.cells C 32 (0,0))
 x:W.heap[xb]? =some (.cells #[.int .i64 x] 3 (0,0))
 q:MB W lp yb okb gb pb mb
 m:KMap encI W mb cnt f
 j:J k W
section
variable {J : Nat → World → Prop} {C : Array Value} {x : Int} {tb xb lp yb okb gb pb mb : Nat} {w0 W W' : World} {k cnt : Nat} {f : Int → Option Value}
theorem MO.kc {k' cnt':Nat} {f':Int→Option Value} (h:MO J C x tb xb lp yb okb gb pb mb w0 W k cnt f) (hc:Kc w0.heap.size W W') (hm:KMap encI W' mb cnt' f') (hj:J k' W'):MO J C x tb xb lp yb okb gb pb mb w0 W' k' cnt' f':=
 ⟨h.b.trans hc.b,hc.c _ _ _ _ (by decide) (by decide) h.t,hc.c _ _ _ _ (by decide) (by decide) h.x,h.q.kc hc,hm,hj⟩
theorem MO.later (hJ:∀k X Y,J k X→TurnM w0.heap.size 4 X Y→J k Y) (h:MO J C x tb xb lp yb okb gb pb mb w0 W k cnt f) (hb:Below W.heap.size W W'):MO J C x tb xb lp yb okb gb pb mb w0 W' k cnt f:=
 h.kc (Kc.below hb h.b.size) (h.m.below hb h.m.lt) (hJ _ _ _ h.j (.below h.b.size hb))
theorem MO.ext {f':Int→Option Value} (h:MO J C x tb xb lp yb okb gb pb mb w0 W k cnt f) (he:∀y,f y=f' y):MO J C x tb xb lp yb okb gb pb mb w0 W k cnt f':=⟨h.b,h.t,h.x,h.q,h.m.ext he,h.j⟩
theorem MO.put {n:Nat} (hn:2≤n) {L A R:List Rc} {r:Rc} (hL:L=A++r::R) (hJ:∀k X Y,J k X→TurnM w0.heap.size 4 X Y→J k Y)
 (hY:∀k W1,J k W1→k<L.length→YieldAt Fence.wide (n-1) Tryz.prog lp (encR L k) W1 fun e W'=>e=.returned (.bool true)∧J (k+1) W'∧Kq w0.heap.size W1 W')
 (ho:w0.heap.size≤okb) (h:MO J C x tb xb lp yb okb gb pb mb w0 W A.length cnt f):
 Calls Tryz.prog 82 #[rcV r,.pointer (some ⟨okb,0,none⟩),.pointer (some ⟨yb,0,none⟩)] W fun e W'=>e=.returned (.tuple #[])∧MO J C x tb xb lp yb okb gb pb mb w0 W' (A++ [r]).length cnt f:=by
 have he:encR L A.length=#[rcV r]:=by
  unfold encR;rw[hL,List.getD,List.getElem?_append_right (Nat.le_refl _),Nat.sub_self];rfl
 refine(callsIn_wide.1 (zmC n hn lp okb yb r w0.heap.size W J A.length hJ (fun W1 h1=>by have:=hY A.length W1 h1 (by rw[hL];simp);rwa [he]at this) ho h.b.size h.q.o h.q.y h.j)).mono ?_;rintro e W3 ⟨rfl,hj,hk⟩;exact⟨rfl,h.kc hk.kc (hk.kmap h.m) (by rw[List.length_append];exact hj)⟩
theorem MO.change {n:Nat} (hn:2≤n) {L A R:List Rc} {i:Nat} {v:ByteArray} (hL:L=A++chE i v::R) (hJ:∀k X Y,J k X→TurnM w0.heap.size 4 X Y→J k Y)
 (hY:∀k W1,J k W1→k<L.length→YieldAt Fence.wide (n-1) Tryz.prog lp (encR L k) W1 fun e W'=>e=.returned (.bool true)∧J (k+1) W'∧Kq w0.heap.size W1 W')
 (ho:w0.heap.size≤okb∧w0.heap.size≤mb) (hi:i≤1000) (hc:cnt≤1000000) (h:MO J C x tb xb lp yb okb gb pb mb w0 W A.length cnt f):
 Calls Tryz.prog 83 #[.int .i64 i,.string v,.pointer (some ⟨gb,0,none⟩),.pointer (some ⟨pb,0,none⟩)] W fun e W'=>e=.returned (.tuple #[])∧MO J C x tb xb lp yb okb gb pb mb w0 W' (A++ [chE i v]).length (cnt+1) (fun y=>if y=(i:Int)then some (.bool true)else f y):=by
 have he:encR L A.length=#[rcV (1,0,zcG i,v.data.toList)]:=by
  unfold encR;rw[hL,List.getD,List.getElem?_append_right (Nat.le_refl _),Nat.sub_self];rfl
 have hv:bsB v.data.toList=v:=by rw[zbs]
 have:=zb4 n hn lp yb okb gb pb mb i v.data.toList w0.heap.size W J A.length cnt f hJ (fun W1 h1=>by have:=hY A.length W1 h1 (by rw[hL];simp);rwa [he]at this) ho hi hc h.q h.m h.j;rw[hv]at this;refine this.mono ?_;rintro e W3 ⟨rfl,hj,hk,hm⟩;exact⟨rfl,h.kc hk hm (by rw[List.length_append];exact hj)⟩
end
def gv (b:Bool):Option Value:=if b=true then some (.bool true)else none
theorem zgi {f:Int→Option Value} {c c':Nat→Bool} {k:Nat} (hf:∀i:Nat,f i=gv (c i)) (hc:∀i,c' i=(c i||decide (i=k))):∀i:Nat,(if(i:Int)=(k:Int)then some (.bool true)else f i)=gv (c' i):=fun i=>by
 rw[hc i];by_cases h:i=k
 ·rw[if_pos (by rw[h])];unfold gv;simp[h]
 ·rw[if_neg (by omega),hf i];simp[h]
structure VP (s:DS):Prop where
 sc: -15≤s.sc∧s.sc≤2
 dt:ztA s.dt=true
 vn:ztA s.vn=true
 cm:ztA s.cm=true
 nw: -1≤s.now∧s.now<(s.S.length:Int)
 sn:s.S.length≤32
 sm:∀x∈s.S,zjh x.1=true∧0≤x.2.1∧x.2.1≤4
 sk:(s.S.map znK).Nodup
 sf:Fst (parS s.S) s.S.length
 su:∀i,i<s.S.length→(upL s.S (i+1) (i:Int)).length≤8
 dn:s.D.length≤128
 dk:(s.D.map dKey).Nodup
 dc:zc1 s.D []≤64
 dv:∀x∈s.D,VV s.S.length x
 dm:∀x∈s.D,∀y∈s.D,x.code=y.code→x.kind=y.kind∧x.width=y.width
theorem VP.keep {s t:DS} (h:VP s) (h1: -15≤t.sc∧t.sc≤2) (h2:ztA t.dt=true) (h3:ztA t.vn=true) (h4:ztA t.cm=true) (h5: -1≤t.now∧t.now<(s.S.length:Int)) (h6:t.S=s.S) (h7:t.D=s.D):VP t where
 sc:=h1
 dt:=h2
 vn:=h3
 cm:=h4
 nw:=by rw[h6];exact h5
 sn:=by rw[h6];exact h.sn
 sm:=by rw[h6];exact h.sm
 sk:=by rw[h6];exact h.sk
 sf:=by rw[h6];exact h.sf
 su:=by rw[h6];exact h.su
 dn:=by rw[h7];exact h.dn
 dk:=by rw[h7];exact h.dk
 dc:=by rw[h7];exact h.dc
 dv:=by rw[h6,h7];exact h.dv
 dm:=by rw[h7];exact h.dm
theorem VP.prob {s:DS} (h:VP s) (e:Int) (w:Wd):VP (s.prob e w):=h.keep h.sc h.dt h.vn h.cm h.nw rfl rfl
theorem zc3 (D:List Dcl) (x:Dcl):zc1 (D++ [x]) []=if x.code∈zok D []then zc1 D []else zc1 D []+1:=by
 rw[zc2,zc2,seen_app];show(if x.code∈zok D []then zok D []else zok D []++ [x.code]).length=_;split
 ·rfl
 ·rw[List.length_append];rfl
open Go.RowKit
def nbF (s:List Bs) (x:BsM):Option Value:=if x∈s then some (.int .i64 (s.idxOf x:Nat))else none
theorem zjm {s:List Bs} {c:Bs} (h:c∉s) (y:BsM):(if y=c then some (.int .i64 (s.length:Nat))else nbF s y)=nbF (s++ [c]) y:=by
 unfold nbF;by_cases hy:y=c
 ·subst hy;rw[if_pos rfl,if_pos (by simp),List.idxOf_append,if_neg h];simp
 ·rw[if_neg hy];by_cases hm:y∈s
  ·rw[if_pos hm,if_pos (by simp[hm]),List.idxOf_append,if_pos hm]
  ·rw[if_neg hm,if_neg (by simp[hm,hy])]
theorem zsL:∀(l m:List Dcl) (s:List Bs),zsK (l++m) s=zsK l s++zsK m (zok l s)
 | [],_,_=>rfl
 |x::l,m,s=>by
  show vrD x _::zsK (l++m) _=vrD x _::(zsK l _++_);rw[zsL l m];rfl
theorem zov (P:List Dcl) (x:Dcl):zok (P++ [x]) []=zoi (zok P []) x.code:=by rw[seen_app];rfl
theorem zsV (P:List Dcl) (x:Dcl):zsK (P++ [x]) []=zsK P []++ [vrD x ((zok (P++ [x]) []).idxOf x.code:Nat)]:=by
 rw[zsL,zov];rfl
theorem zh8 {D P R:List Dcl} {x:Dcl} (hD:D=P++ [x]++R):knD (P++ [x]) x.code=some (oldD D x):=by
 obtain⟨y,hy⟩:∃y,knD (P++ [x]) x.code=some y:=by
  cases h:knD (P++ [x]) x.code with
  |some y=>exact⟨y,rfl⟩
  |none=>
   unfold knD at h;exact absurd (List.find?_eq_none.1 h x (List.mem_append_right _ (List.mem_singleton.2 rfl))) (by simp)
 rw[hy];unfold oldD;unfold knD at hy;rw[hD,List.find?_append,hy];rfl
theorem zia {D:List Dcl} {k:Nat} (hk:k<D.length):knD (D.take k++ [D[k]]) D[k].code=some (oldD D D[k]):=
 zh8 (R:=D.drop (k+1)) (by rw[←List.take_succ_eq_append_getElem hk,List.take_append_drop])
theorem zbR {P:List Dcl} {x:Dcl} (h:knD P x.code≠none) (y:BsM):cF P y=cF (P++ [x]) y:=by
 unfold cF knD at*;rw[List.find?_append];cases hz:P.find? fun d=>decide (d.code=y)with
 |some d=>rfl
 |none=>
  by_cases e:y=x.code
  ·subst e;exact absurd hz h
  ·rw[List.find?_cons,decide_eq_false (fun h=>e h.symm)];rfl
theorem zh6 {D:List Dcl} {c:Bs} (h:knD D c≠none):c∈zok D []:=by
 obtain⟨y,hy⟩:=Option.ne_none_iff_exists'.1 h;unfold knD at hy;exact zos.2 (.inr ⟨y,List.mem_of_find?_eq_some hy,of_decide_eq_true (List.find?_some (p:=fun z:Dcl=>decide (z.code=c)) hy)⟩)
theorem zou {P:List Dcl} {x:Dcl} (h:knD P x.code≠none):zok (P++ [x]) []=zok P []:=by
 rw[zov];exact if_pos (zh6 h)
theorem zot {P:List Dcl} {x:Dcl} (h:knD P x.code=none):zok (P++ [x]) []=zok P []++ [x.code]:=by
 rw[zov];exact if_neg (zh7 h)
theorem zor (P:List Dcl):(zok P []).length≤P.length:=by
 have:∀(l:List Dcl) (s:List Bs),(zok l s).length≤s.length+l.length:=by
  intro l;induction l with
  |nil=>intro s;exact Nat.le_refl _
  |cons x l ih=>
   intro s;show(zok l (zoi s x.code)).length≤_;have h1:=ih (zoi s x.code);have h2:(zoi s x.code).length≤s.length+1:=by unfold zoi;split<;>simp
   simp only[List.length_cons];omega
 simpa using this P []
theorem zjl (P:List Dcl) (x:Dcl):nbF (zok (P++ [x]) []) x.code=some (.int .i64 ((zok (P++ [x]) []).idxOf x.code:Nat)):=
 if_pos (zos.2 (.inr ⟨x,by simp,rfl⟩))
theorem zsG {d:DD} (h:(decide (-15≤d.sc)&&decide (d.sc≤2)&&ztA d.dt&&ztA d.vn&&ztA d.cm)=false):validD d=false:=by
 unfold validD;rw[h];simp
theorem zsF {d:DD} {x:Dcl} (hx:x∈d.D) (h:okV (oldD d.D x) x=false):validD d=false:=by
 unfold validD
 have:d.D.all (fun x=>okV (oldD d.D x) x)=false:=by
  rw[←Bool.not_eq_true,List.all_eq_true];intro hh;rw[hh x hx]at h;cases h
 rw[this];simp
theorem zsB {d:DD} (h:(decide (-15≤d.sc)&&decide (d.sc≤2)&&ztA d.dt&&ztA d.vn&&ztA d.cm)=true) (ha:∀x∈d.D,okV (oldD d.D x) x=true):
 validD d=(decide ((zok d.D []).length≤64)&&hOk d.S (zsK d.D [])):=by
 unfold validD;rw[h,List.all_eq_true.2 ha,Bool.true_and,Bool.true_and]
theorem zsT {D:List Dcl} {m:Nat} (h:∀x∈D,x.nm.length≤m):∀v∈zsK D [],v.nm.length≤m:=by
 have:∀(l:List Dcl) (s:List Bs),(∀x∈l,x.nm.length≤m)→∀v∈zsK l s,v.nm.length≤m:=fun l=>by
  induction l with
  |nil=>intro s _ v hv;cases hv
  |cons x l ih=>
   intro s hl v hv;rcases List.mem_cons.1 hv with rfl|hv
   ·exact hl x List.mem_cons_self
   ·exact ih _ (fun y hy=>hl y (List.mem_cons_of_mem _ hy)) v hv
 exact this D [] h
theorem zsU (D:List Dcl):∀v∈zsK D [],0≤v.sg∧v.sg≤(D.length:Int):=by
 have:∀(l:List Dcl) (s:List Bs),∀v∈zsK l s,0≤v.sg∧v.sg≤((s.length+l.length:Nat):Int):=fun l=>by
  induction l with
  |nil=>intro s v hv;cases hv
  |cons x l ih=>
   intro s v hv;have h2:(zoi s x.code).length≤s.length+1:=by unfold zoi;split<;>simp
   rcases List.mem_cons.1 hv with rfl|hv
   ·have h1:=List.idxOf_lt_length_of_mem (zoj s x.code);show 0≤(((zoi s x.code).idxOf x.code:Nat):Int)∧(((zoi s x.code).idxOf x.code:Nat):Int)≤_;simp only[List.length_cons];omega
   ·have:=ih _ v hv;simp only[List.length_cons];omega
 have h:=this D [];simpa using h
set_option linter.unusedSimpArgs false
theorem ziO (l:List Bs):(l.map bsB).map (fun x=>x.data.toList)=l:=by
 rw[List.map_map];have:((fun x:ByteArray=>x.data.toList)∘bsB)=id:=funext fun x=>zbq x;rw[this,List.map_id]
theorem zlq {w:World} {B e size n:Nat} {v:Value} {xs:List Value} (h:w.ownsRow B e size v n xs) (hn:0<n):
 ∃g c,v=.slice (some ⟨g,0,none⟩) n c∧n≤c∧B≤g∧g<w.heap.size∧∀j u,xs[j]? =some u→w.cell? ⟨g,j,none⟩=some u:=by
 rcases h.2 with⟨-,h0⟩|⟨g,cap,cur,e0,hb,hh,hc,-⟩
 ·omega
 refine⟨g,cap,e0,hc,hb,(Array.getElem?_eq_some_iff.1 hh).1,fun j u hj=>?_⟩;obtain⟨a',c',ev,-,-,-,h4⟩:=SlR.of_own h;obtain⟨b',o',rfl,hat⟩:=h4 hn;rw[e0]at ev;injection ev with ev _ _;injection ev with ev;injection ev with ev1 ev2 _;subst ev1 ev2;have:=hat j u hj;rwa [Nat.zero_add]at this
theorem SMap.cells {P:Program} {K:TypeId} {w w':World} {b n:Nat} {f:BsM→Option Value} (h:SMap P K w b n f) (hg:w.grownBy w' (some b)) {a:Addr} {v:Value} (hc:w.cell? a=some v):w'.cell? a=w.cell? a:=by
 refine World.cell?_of_block (w:=w) (hg.block a.block (World.block_lt_of_cell? (h:=hc)) fun e=>?_);injection e with e;unfold World.cell? at hc;rw[e]at hc;split at hc
 ·rename_i C T fr he
  exact h.no_cells he
 ·cases hc
theorem zc9 (B T:Nat) (v:Value) (L:List Bs) (w:World) (ho:w.ownsRow B T 1 v L.length (strs L)) (hL:L.length≤100000) (hz:(joinL L).length≤140737488355328):
 Calls Tryz.prog 114 #[v,.string ⟨#[32]⟩] w fun e w'=>e=.returned (.string (bsB (joinL L)))∧Below w.heap.size w w':=by
 rcases Nat.eq_zero_or_pos L.length with h0|h0
 ·obtain rfl:L=[]:=List.length_eq_zero_iff.1 h0;obtain⟨a,cap,rfl,-,-⟩:=(SlR.of_own ho).shape;refine(Tryz.strings_Join_none a cap ⟨#[32]⟩ w).mono ?_;rintro e w1 ⟨rfl,rfl⟩;exact⟨rfl,Below.refl _ _⟩
 ·obtain⟨g,c,rfl,hc,-,hg,hcell⟩:=zlq ho h0
  have hq:=Tryz.strings_Join g 0 c (L.map bsB) ⟨#[32]⟩ w (fun j x h=>by
   rw[Nat.zero_add];refine hcell j _ ?_;rw[List.getElem?_map]at h;obtain⟨y,hy,rfl⟩:=Option.map_eq_some_iff.1 h;simp[strs,strV,hy]) hg (by rw[List.length_map];omega) (by rw[List.length_map];exact hc) (by
   show(Lib.join ((L.map bsB).map (·.data.toList)) [32]).length≤_;rw[ziO,←zhQ];exact hz)
  rw[List.length_map,show Lib.join ((L.map bsB).map (·.data.toList)) (⟨#[32]⟩:ByteArray).data.toList=joinL L by rw[ziO,zhQ]]at hq;exact hq
end Go.Proofs.YtfppgpamkdkckaaGreatDoor
