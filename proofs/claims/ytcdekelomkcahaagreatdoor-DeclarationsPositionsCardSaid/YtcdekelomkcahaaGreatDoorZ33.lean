import Derived.Test.YtcdekelomkcahaaGreatDoorZ00
import Derived.Test.YtcdekelomkcahaaGreatDoorZ29
set_option maxRecDepth 100000
set_option maxHeartbeats 16000000
namespace Go.Proofs.YtcdekelomkcahaaGreatDoor
open Go.RowKit
set_option linter.unusedSimpArgs false
def tN (s:DS):Nat:=s.dtd.toNat+s.vnd.toNat+s.cmd.toNat
def tF (s:DS) (x:BsM):Option Value:=if(x=zlw∧s.dtd=true)∨(x=zlF∧s.vnd=true)∨(x=zlv∧s.cmd=true)then some (.bool true)else none
def cF (D:List Dcl) (x:BsM):Option Value:=(knD D x).map fun d=>dclV d
theorem zbw {D:List Dcl} {x:Dcl} (h:knD D x.code=none) (y:BsM):(if y=x.code then some (dclV x)else cF D y)=cF (D++ [x]) y:=by
 unfold cF knD at*;rw[List.find?_append];by_cases hy:y=x.code
 ·subst hy;rw[if_pos rfl,h];simp
 ·rw[if_neg hy];cases hd:D.find? fun z=>decide (z.code=y)with
  |some z=>rfl
  |none=>
   simp only[Option.map_none,Option.none_or];rw[List.find?_cons,decide_eq_false (fun e=>hy e.symm)];rfl
theorem zgt {D:List Dcl} {c:Bs} (h:knD D c=none):c∉zmr D []:=fun hm=>by
 rcases zmz.1 hm with hm|⟨x,hx,e⟩
 ·cases hm
 ·unfold knD at h;exact List.find?_eq_none.1 h x hx (decide_eq_true e)
def zah (B:Nat) (W W':World):Prop:=∀(b:Nat) (C:Array Value) (T:TypeId) (fr:Nat×Nat),b≠B→T≠84→T≠50→T≠55→W.heap[b]? =some (.cells C T fr)→W'.heap[b]? =some (.cells C T fr)
theorem zah.refl (B:Nat) (W:World):zah B W W:=fun _ _ _ _ _ _ _ _ h=>h
theorem zah.trans {B:Nat} {W V U:World} (h:zah B W V) (k:zah B V U):zah B W U:=fun b C T fr h1 h2 h3 h4 h5=>k b C T fr h1 h2 h3 h4 (h b C T fr h1 h2 h3 h4 h5)
theorem zah.below {B:Nat} {W V:World} (h:Below W.heap.size W V):zah B W V:=fun b C T fr _ _ _ _ h4=>by
 rw[h.block b (Array.getElem?_eq_some_iff.1 h4).1];exact h4
theorem zah.setCell (B:Nat) (W:World) (j:Nat) (u:Value):zah B W (W.setCell ⟨B,j,none⟩ u):=fun b C T fr h1 _ _ _ h4=>by
 rw[Below.heap_setCell _ _ _ _ h1];exact h4
theorem zah.grown {B:Nat} {W V:World} {base e size n:Nat} {v:Value} {xs:List Value} (ho:W.ownsRow base e size v n xs) (he:e=84∨e=50∨e=55) (hg:W.grownBy V v.ownBlock):zah B W V:=fun b C T fr _ h2 h3 h3' h4=>by
 rw[hg.block b (Array.getElem?_eq_some_iff.1 h4).1 (fun q=>by
  rcases ho.2 with⟨rfl,-⟩|⟨g,cap,cur,rfl,-,hb,-⟩
  ·cases q
  ·injection q with q;subst q;rw[hb]at h4;injection h4 with h4;injection h4 with _ h5 _;rcases he with rfl|rfl|rfl
   ·exact h2 h5.symm
   ·exact h3 h5.symm
   ·exact h3' h5.symm)]
 exact h4
theorem zah.map {P:Program} {K:TypeId} {B b n:Nat} {f:BsM→Option Value} {W V:World} (hm:SMap P K W b n f) (hg:W.grownBy V (some b)):zah B W V:=fun b' C T fr _ _ _ _ h4=>by
 rw[hg.block b' (Array.getElem?_eq_some_iff.1 h4).1 (fun q=>by
  injection q with q;subst q;exact hm.no_cells h4)]
 exact h4
structure DC where
 wk:World
 w0:World
 B:Nat
 tb:Nat
 cb:Nat
 kb:Nat
 m:Nat
 G:BsM→Option Value
def zdR (c:DC) (s:DS) (vS vD vr:Value):List Value:=[.int .i64 s.sc,.string (bsB s.dt),.string (bsB s.vn),.string (bsB s.cm),vS,vD,.map (some c.tb),.bool s.scd,.int .i64 s.now,.int .i64 s.skip,.map (some c.cb),.bool s.ended,vr]
structure DPar (c:DC) (s:DS) (vS vD vr:Value) (W:World):Prop where
 p:W.ownsRow c.w0.heap.size 89 13 (.slice (some ⟨c.B,0,none⟩) 1 1) 1 (zdR c s vS vD vr)
 S:W.ownsRow c.w0.heap.size 84 3 vS s.S.length (scs s.S)
 D:W.ownsRow c.w0.heap.size 50 10 vD s.D.length (dcls s.D)
 r:W.ownsRow c.w0.heap.size 55 4 vr s.wrong.length (prbs s.wrong)
 t:zav Tryz.prog 9 W c.tb (tN s) (tF s)
 g:zav Tryz.prog 9 W c.cb (zb5 s.D []) (cF s.D)
 k:SMap Tryz.prog 9 W c.kb c.m c.G
 ne:c.tb≠c.cb∧c.tb≠c.kb∧c.cb≠c.kb
 tb:c.w0.heap.size≤c.tb
 gb:c.w0.heap.size≤c.cb
 b:Below c.w0.heap.size c.w0 W
 kp:zah c.B c.wk W
theorem zav.lt {P:Program} {K:TypeId} {w:World} {b n:Nat} {f:BsM→Option Value} (h:zav P K w b n f):b<w.heap.size:=h.s.lt
theorem DPar.later {c:DC} {s:DS} {vS vD vr:Value} {W W':World} (h:DPar c s vS vD vr W) (hb:Below W.heap.size W W'):DPar c s vS vD vr W':=
 ⟨zjb h.p hb,zjb h.S hb,zjb h.D hb,zjb h.r hb,h.t.below hb h.t.lt,h.g.below hb h.g.lt,h.k.below hb h.k.lt,h.ne,h.tb,h.gb,h.b.trans (hb.mono h.b.size),h.kp.trans (.below hb)⟩
theorem DPar.row {c:DC} {s:DS} {vS vD vr:Value} {W:World} (h:DPar c s vS vD vr W):zaq W c.B (zdR c s vS vD vr):=zjo h.p
theorem DPar.lo {c:DC} {s:DS} {vS vD vr:Value} {W:World} (h:DPar c s vS vD vr W):c.w0.heap.size≤c.B∧c.B<W.heap.size:=h.p.lt _ rfl
theorem DPar.map_ne {c:DC} {s:DS} {vS vD vr:Value} {W:World} (h:DPar c s vS vD vr W):c.tb≠c.B∧c.cb≠c.B∧c.kb≠c.B:=
 ⟨fun e=>h.t.ne_row h.p (by rw[e];rfl),fun e=>h.g.ne_row h.p (by rw[e];rfl),fun e=>h.k.ne_row h.p (by rw[e];rfl)⟩
theorem DPar.set {c:DC} {s:DS} {vS vD vr:Value} {W:World} (h:DPar c s vS vD vr W) (j:Nat) (u:Value) {s':DS} (hp:(zdR c s vS vD vr).set j u=zdR c s' vS vD vr) (hS:s'.S=s.S) (hD:s'.D=s.D) (hr:s'.wrong=s.wrong) (ht:s'.dtd=s.dtd∧s'.vnd=s.vnd∧s'.cmd=s.cmd):
 DPar c s' vS vD vr (W.setCell ⟨c.B,j,none⟩ u):=by
 have e1:tN s'=tN s:=by unfold tN;rw[ht.1,ht.2.1,ht.2.2]
 have e2:tF s'=tF s:=by funext x;unfold tF;rw[ht.1,ht.2.1,ht.2.2]
 refine⟨hp▸zjr h.p j u,?_,?_,?_,?_,?_,h.k.setCell h.map_ne.2.2 u,h.ne,h.tb,h.gb,h.b.setCell h.lo.1 u,h.kp.trans (.setCell _ _ _ _)⟩
 ·rw[hS];exact zjs h.S h.p (by decide) j u
 ·rw[hD];exact zjs h.D h.p (by decide) j u
 ·rw[hr];exact zjs h.r h.p (by decide) j u
 ·rw[e1,e2];exact h.t.setCell h.map_ne.1 u
 ·rw[hD];exact h.g.setCell h.map_ne.2.1 u
theorem DPar.addR {c:DC} {s:DS} {vS vD vr:Value} {W W':World} (h:DPar c s vS vD vr W) {v':Value} {x:Pb} (ho:W'.ownsRow c.w0.heap.size 55 4 v' (s.wrong.length+1) (prbs s.wrong++prbC x)) (hg:W.grownBy W' vr.ownBlock):
 DPar c {s with wrong:=s.wrong++ [x]} vS vD v' (W'.setCell ⟨c.B,12,none⟩ v'):=by
 have hp:=h.p.kept hg (zjl h.p h.r (by decide));have hS:=h.S.kept hg (zjl h.S h.r (by decide));have hD:=h.D.kept hg (zjl h.D h.r (by decide));refine⟨zjr hp 12 v',zjs hS hp (by decide) 12 v',zjs hD hp (by decide) 12 v',?_,(h.t.kept hg (h.t.ne_row h.r)).setCell h.map_ne.1 v',(h.g.kept hg (h.g.ne_row h.r)).setCell h.map_ne.2.1 v',(h.k.kept hg (h.k.ne_row h.r)).setCell h.map_ne.2.2 v',h.ne,h.tb,h.gb,(h.b.grown hg h.b.size (fun k hk=>(h.r.lt k hk).1)).setCell h.lo.1 v',(h.kp.trans (.grown h.r (.inr (.inr rfl)) hg)).trans (.setCell _ _ _ _)⟩;have:=zjs ho hp (by decide) 12 v';rw[←zj5]at this;simpa using this
theorem DPar.addS {c:DC} {s:DS} {vS vD vr:Value} {W W':World} (h:DPar c s vS vD vr W) {v':Value} {x:Sc} (ho:W'.ownsRow c.w0.heap.size 84 3 v' (s.S.length+1) (scs s.S++scC x)) (hg:W.grownBy W' vS.ownBlock):
 DPar c {s with S:=s.S++ [x]} v' vD vr (W'.setCell ⟨c.B,4,none⟩ v'):=by
 have hp:=h.p.kept hg (zjl h.p h.S (by decide));have hr:=h.r.kept hg (zjl h.r h.S (by decide));have hD:=h.D.kept hg (zjl h.D h.S (by decide));refine⟨zjr hp 4 v',?_,zjs hD hp (by decide) 4 v',zjs hr hp (by decide) 4 v',(h.t.kept hg (h.t.ne_row h.S)).setCell h.map_ne.1 v',(h.g.kept hg (h.g.ne_row h.S)).setCell h.map_ne.2.1 v',(h.k.kept hg (h.k.ne_row h.S)).setCell h.map_ne.2.2 v',h.ne,h.tb,h.gb,(h.b.grown hg h.b.size (fun k hk=>(h.S.lt k hk).1)).setCell h.lo.1 v',(h.kp.trans (.grown h.S (.inl rfl) hg)).trans (.setCell _ _ _ _)⟩;have:=zjs ho hp (by decide) 4 v';rw[show scs s.S++scC x=scs (s.S++ [x])by simp[scs]]at this;simpa using this
theorem DPar.addD {c:DC} {s:DS} {vS vD vr:Value} {W W':World} (h:DPar c s vS vD vr W) {v':Value} {x:Dcl} (hk:knD s.D x.code≠none) (ho:W'.ownsRow c.w0.heap.size 50 10 v' (s.D.length+1) (dcls s.D++dclC x)) (hg:W.grownBy W' vD.ownBlock):
 DPar c {s with D:=s.D++ [x]} vS v' vr (W'.setCell ⟨c.B,5,none⟩ v'):=by
 have hp:=h.p.kept hg (zjl h.p h.D (by decide));have hr:=h.r.kept hg (zjl h.r h.D (by decide));have hS:=h.S.kept hg (zjl h.S h.D (by decide));obtain⟨y,hy⟩:=Option.ne_none_iff_exists'.1 hk
 have hmem:x.code∈zmr s.D []:=by
  unfold knD at hy;exact zmz.2 (.inr ⟨y,List.mem_of_find?_eq_some hy,of_decide_eq_true (List.find?_some (p:=fun z:Dcl=>decide (z.code=x.code)) hy)⟩)
 refine⟨zjr hp 5 v',zjs hS hp (by decide) 5 v',?_,zjs hr hp (by decide) 5 v',(h.t.kept hg (h.t.ne_row h.D)).setCell h.map_ne.1 v',?_,(h.k.kept hg (h.k.ne_row h.D)).setCell h.map_ne.2.2 v',h.ne,h.tb,h.gb,(h.b.grown hg h.b.size (fun k hk=>(h.D.lt k hk).1)).setCell h.lo.1 v',(h.kp.trans (.grown h.D (.inr (.inl rfl)) hg)).trans (.setCell _ _ _ _)⟩
 ·have:=zjs ho hp (by decide) 5 v';rw[show dcls s.D++dclC x=dcls (s.D++ [x])by simp[dcls]]at this;simpa using this
 ·have:=(h.g.kept hg (h.g.ne_row h.D)).setCell (a:=⟨c.B,5,none⟩) h.map_ne.2.1 v';show zav _ _ _ _ (zb5 (s.D++ [x]) []) (cF (s.D++ [x]));rw[zb8,if_pos hmem];refine this.ext fun z=>?_;unfold cF knD at*;rw[List.find?_append];cases hz:s.D.find? fun d=>decide (d.code=z)with
  |some d=>rfl
  |none=>
   by_cases e:z=x.code
   ·subst e;rw[hy]at hz;cases hz
   ·rw[List.find?_cons,decide_eq_false (fun h=>e h.symm)];rfl
theorem zjk {P:Program} {K:TypeId} {W W1:World} {b n:Nat} {f:BsM→Option Value} (hm:zav P K W b n f) (hg:W.grownBy W1 (some b)) {base e size m:Nat} {v:Value} {xs:List Value} (ho:W.ownsRow base e size v m xs):W1.ownsRow base e size v m xs:=
 ho.kept hg (.inr (Ne.symm (hm.ne_row ho)))
theorem DPar.addN {c:DC} {s:DS} {vS vD vr:Value} {W W1 W2:World} (h:DPar c s vS vD vr W) {v':Value} {x:Dcl} (hk:knD s.D x.code=none)
 (hm:zav Tryz.prog 9 W1 c.cb (zb5 s.D []+1) (fun y=>if y=x.code then some (dclV x)else cF s.D y)) (hg1:W.grownBy W1 (some c.cb))
 (ho:W2.ownsRow c.w0.heap.size 50 10 v' (s.D.length+1) (dcls s.D++dclC x)) (hg:W1.grownBy W2 vD.ownBlock):
 DPar c {s with D:=s.D++ [x]} vS v' vr (W2.setCell ⟨c.B,5,none⟩ v'):=by
 have hD1:=zjk h.g hg1 h.D;have hp:=(zjk h.g hg1 h.p).kept hg (zjl (zjk h.g hg1 h.p) hD1 (by decide));have hr:=(zjk h.g hg1 h.r).kept hg (zjl (zjk h.g hg1 h.r) hD1 (by decide));have hS:=(zjk h.g hg1 h.S).kept hg (zjl (zjk h.g hg1 h.S) hD1 (by decide));have ht1:zav Tryz.prog 9 W1 c.tb (tN s) (tF s):=h.t.kept hg1 (fun e=>h.ne.1 (by injection e));have hk1:SMap Tryz.prog 9 W1 c.kb c.m c.G:=h.k.kept hg1 (fun e=>h.ne.2.2 (by injection e with e;exact e.symm))
 have hb1:Below c.w0.heap.size c.w0 W1:=h.b.grown hg1 h.b.size (fun k hk=>by
  injection hk with hk;subst hk;exact h.gb)
 refine⟨zjr hp 5 v',zjs hS hp (by decide) 5 v',?_,zjs hr hp (by decide) 5 v',(ht1.kept hg (ht1.ne_row hD1)).setCell h.map_ne.1 v',?_,(hk1.kept hg (hk1.ne_row hD1)).setCell h.map_ne.2.2 v',h.ne,h.tb,h.gb,(hb1.grown hg hb1.size (fun k hk=>(hD1.lt k hk).1)).setCell h.lo.1 v',((h.kp.trans (.map h.g.s hg1)).trans (.grown hD1 (.inr (.inl rfl)) hg)).trans (.setCell _ _ _ _)⟩
 ·have:=zjs ho hp (by decide) 5 v';rw[show dcls s.D++dclC x=dcls (s.D++ [x])by simp[dcls]]at this;simpa using this
 ·have:=(hm.kept hg (hm.ne_row hD1)).setCell (a:=⟨c.B,5,none⟩) h.map_ne.2.1 v';show zav _ _ _ _ (zb5 (s.D++ [x]) []) (cF (s.D++ [x]));rw[zb8,if_neg (zgt hk)];exact this.ext (zbw hk)
theorem DPar.date {c:DC} {s:DS} {vS vD vr:Value} {W W2:World} (h:DPar c s vS vD vr W) (u:Bs) (h0:s.dtd=false)
 (hm:zav Tryz.prog 9 W2 c.tb (tN s+1) (fun y=>if y=zlw then some (.bool true)else tF s y)) (hg:(W.setCell ⟨c.B,1,none⟩ (.string (bsB u))).grownBy W2 (some c.tb)):
 DPar c {s with dt:=u,dtd:=true} vS vD vr W2:=by
 have h1:DPar c {s with dt:=u} vS vD vr (W.setCell ⟨c.B,1,none⟩ (.string (bsB u))):=h.set 1 _ rfl rfl rfl rfl ⟨rfl,rfl,rfl⟩
 have hb:Below c.w0.heap.size c.w0 W2:=h1.b.grown hg h1.b.size (fun k hk=>by
  injection hk with hk;subst hk;exact h.tb)
 refine⟨zjk h1.t hg h1.p,zjk h1.t hg h1.S,zjk h1.t hg h1.D,zjk h1.t hg h1.r,?_,h1.g.kept hg (fun e=>h.ne.1 (by injection e with e;exact e.symm)),h1.k.kept hg (fun e=>h.ne.2.1 (by injection e with e;exact e.symm)),h.ne,h.tb,h.gb,hb,h1.kp.trans (.map h1.t.s hg)⟩
 have e1:tN {s with dt:=u,dtd:=true}=tN s+1:=by
  unfold tN;rw[h0];simp;try omega
 rw[e1];refine hm.ext fun y=>?_;unfold tF;rw[h0];by_cases hy:y=zlw
 ·subst hy;simp
 ·simp[hy]
theorem DPar.vers {c:DC} {s:DS} {vS vD vr:Value} {W W2:World} (h:DPar c s vS vD vr W) (u:Bs) (h0:s.vnd=false)
 (hm:zav Tryz.prog 9 W2 c.tb (tN s+1) (fun y=>if y=zlF then some (.bool true)else tF s y)) (hg:(W.setCell ⟨c.B,2,none⟩ (.string (bsB u))).grownBy W2 (some c.tb)):
 DPar c {s with vn:=u,vnd:=true} vS vD vr W2:=by
 have h1:DPar c {s with vn:=u} vS vD vr (W.setCell ⟨c.B,2,none⟩ (.string (bsB u))):=h.set 2 _ rfl rfl rfl rfl ⟨rfl,rfl,rfl⟩
 have hb:Below c.w0.heap.size c.w0 W2:=h1.b.grown hg h1.b.size (fun k hk=>by
  injection hk with hk;subst hk;exact h.tb)
 refine⟨zjk h1.t hg h1.p,zjk h1.t hg h1.S,zjk h1.t hg h1.D,zjk h1.t hg h1.r,?_,h1.g.kept hg (fun e=>h.ne.1 (by injection e with e;exact e.symm)),h1.k.kept hg (fun e=>h.ne.2.1 (by injection e with e;exact e.symm)),h.ne,h.tb,h.gb,hb,h1.kp.trans (.map h1.t.s hg)⟩
 have e1:tN {s with vn:=u,vnd:=true}=tN s+1:=by
  unfold tN;rw[h0];simp;try omega
 rw[e1];refine hm.ext fun y=>?_;unfold tF;rw[h0];by_cases hy:y=zlF
 ·subst hy;simp
 ·simp[hy]
theorem DPar.comm {c:DC} {s:DS} {vS vD vr:Value} {W W2:World} (h:DPar c s vS vD vr W) (u:Bs) (h0:s.cmd=false)
 (hm:zav Tryz.prog 9 W2 c.tb (tN s+1) (fun y=>if y=zlv then some (.bool true)else tF s y)) (hg:(W.setCell ⟨c.B,3,none⟩ (.string (bsB u))).grownBy W2 (some c.tb)):
 DPar c {s with cm:=u,cmd:=true} vS vD vr W2:=by
 have h1:DPar c {s with cm:=u} vS vD vr (W.setCell ⟨c.B,3,none⟩ (.string (bsB u))):=h.set 3 _ rfl rfl rfl rfl ⟨rfl,rfl,rfl⟩
 have hb:Below c.w0.heap.size c.w0 W2:=h1.b.grown hg h1.b.size (fun k hk=>by
  injection hk with hk;subst hk;exact h.tb)
 refine⟨zjk h1.t hg h1.p,zjk h1.t hg h1.S,zjk h1.t hg h1.D,zjk h1.t hg h1.r,?_,h1.g.kept hg (fun e=>h.ne.1 (by injection e with e;exact e.symm)),h1.k.kept hg (fun e=>h.ne.2.1 (by injection e with e;exact e.symm)),h.ne,h.tb,h.gb,hb,h1.kp.trans (.map h1.t.s hg)⟩
 have e1:tN {s with cm:=u,cmd:=true}=tN s+1:=by
  unfold tN;rw[h0];simp;try omega
 rw[e1];refine hm.ext fun y=>?_;unfold tF;rw[h0];by_cases hy:y=zlv
 ·subst hy;simp
 ·simp[hy]
def DC.from (c:DC) (V:World):DC:={c with wk:=V}
theorem DPar.start {c:DC} {s:DS} {vS vD vr:Value} {W:World} (h:DPar c s vS vD vr W) (V:World) (hV:zah c.B V W):DPar (c.from V) s vS vD vr W:=⟨h.p,h.S,h.D,h.r,h.t,h.g,h.k,h.ne,h.tb,h.gb,h.b,hV⟩
theorem DPar.back {c:DC} {s:DS} {vS vD vr:Value} {V W:World} (h:DPar (c.from V) s vS vD vr W) (hV:zah c.B c.wk V):DPar c s vS vD vr W:=⟨h.p,h.S,h.D,h.r,h.t,h.g,h.k,h.ne,h.tb,h.gb,h.b,hV.trans h.kp⟩
def zad (c:DC) (s:DS) (e:Ending) (w':World):Prop:=e=.returned (.tuple #[])∧∃vS vD vr,DPar c s vS vD vr w'
def nbF (s:List Bs) (x:BsM):Option Value:=if x∈s then some (.int .i64 (s.idxOf x:Nat))else none
theorem zhD {s:List Bs} {c:Bs} (h:c∉s) (y:BsM):(if y=c then some (.int .i64 (s.length:Nat))else nbF s y)=nbF (s++ [c]) y:=by
 unfold nbF;by_cases hy:y=c
 ·subst hy;rw[if_pos rfl,if_pos (by simp),List.idxOf_append,if_neg h];simp
 ·rw[if_neg hy];by_cases hm:y∈s
  ·rw[if_pos hm,if_pos (by simp[hm]),List.idxOf_append,if_pos hm]
  ·rw[if_neg hm,if_neg (by simp[hm,hy])]
theorem zoZ:∀(l m:List Dcl) (s:List Bs),zoY (l++m) s=zoY l s++zoY m (zmr l s)
 | [],_,_=>rfl
 |x::l,m,s=>by
  show vrD x _::zoY (l++m) _=vrD x _::(zoY l _++_);rw[zoZ l m];rfl
theorem zmD (P:List Dcl) (x:Dcl):zmr (P++ [x]) []=zmp (zmr P []) x.code:=by rw[zmv];rfl
theorem zpa (P:List Dcl) (x:Dcl):zoY (P++ [x]) []=zoY P []++ [vrD x ((zmr (P++ [x]) []).idxOf x.code:Nat)]:=by
 rw[zoZ,zmD];rfl
theorem zgu {D P R:List Dcl} {x:Dcl} (hD:D=P++ [x]++R):knD (P++ [x]) x.code=some (oldD D x):=by
 obtain⟨y,hy⟩:∃y,knD (P++ [x]) x.code=some y:=by
  cases h:knD (P++ [x]) x.code with
  |some y=>exact⟨y,rfl⟩
  |none=>
   unfold knD at h;exact absurd (List.find?_eq_none.1 h x (List.mem_append_right _ (List.mem_singleton.2 rfl))) (by simp)
 rw[hy];unfold oldD;unfold knD at hy;rw[hD,List.find?_append,hy];rfl
theorem zgw {D:List Dcl} {k:Nat} (hk:k<D.length):knD (D.take k++ [D[k]]) D[k].code=some (oldD D D[k]):=
 zgu (R:=D.drop (k+1)) (by rw[←List.take_succ_eq_append_getElem hk,List.take_append_drop])
theorem zbx {P:List Dcl} {x:Dcl} (h:knD P x.code≠none) (y:BsM):cF P y=cF (P++ [x]) y:=by
 unfold cF knD at*;rw[List.find?_append];cases hz:P.find? fun d=>decide (d.code=y)with
 |some d=>rfl
 |none=>
  by_cases e:y=x.code
  ·subst e;exact absurd hz h
  ·rw[List.find?_cons,decide_eq_false (fun h=>e h.symm)];rfl
theorem zgs {D:List Dcl} {c:Bs} (h:knD D c≠none):c∈zmr D []:=by
 obtain⟨y,hy⟩:=Option.ne_none_iff_exists'.1 h;unfold knD at hy;exact zmz.2 (.inr ⟨y,List.mem_of_find?_eq_some hy,of_decide_eq_true (List.find?_some (p:=fun z:Dcl=>decide (z.code=c)) hy)⟩)
theorem zmC {P:List Dcl} {x:Dcl} (h:knD P x.code≠none):zmr (P++ [x]) []=zmr P []:=by
 rw[zmD];exact if_pos (zgs h)
theorem zmA {P:List Dcl} {x:Dcl} (h:knD P x.code=none):zmr (P++ [x]) []=zmr P []++ [x.code]:=by
 rw[zmD];exact if_neg (zgt h)
theorem zmy (P:List Dcl):(zmr P []).length≤P.length:=by
 have:∀(l:List Dcl) (s:List Bs),(zmr l s).length≤s.length+l.length:=by
  intro l;induction l with
  |nil=>intro s;exact Nat.le_refl _
  |cons x l ih=>
   intro s;show(zmr l (zmp s x.code)).length≤_;have h1:=ih (zmp s x.code);have h2:(zmp s x.code).length≤s.length+1:=by unfold zmp;split<;>simp
   simp only[List.length_cons];omega
 simpa using this P []
theorem zhC (P:List Dcl) (x:Dcl):nbF (zmr (P++ [x]) []) x.code=some (.int .i64 ((zmr (P++ [x]) []).idxOf x.code:Nat)):=
 if_pos (zmz.2 (.inr ⟨x,by simp,rfl⟩))
theorem zoT {d:DD} (h:(decide (-15≤d.sc)&&decide (d.sc≤2)&&zp2 d.dt&&zp2 d.vn&&zp2 d.cm)=false):zoN d=false:=by
 unfold zoN;rw[h];simp
theorem zoS {d:DD} {x:Dcl} (hx:x∈d.D) (h:okV (oldD d.D x) x=false):zoN d=false:=by
 unfold zoN
 have:d.D.all (fun x=>okV (oldD d.D x) x)=false:=by
  rw[←Bool.not_eq_true,List.all_eq_true];intro hh;rw[hh x hx]at h;cases h
 rw[this];simp
theorem zoQ {d:DD} (h:(decide (-15≤d.sc)&&decide (d.sc≤2)&&zp2 d.dt&&zp2 d.vn&&zp2 d.cm)=true) (ha:∀x∈d.D,okV (oldD d.D x) x=true):
 zoN d=(decide ((zmr d.D []).length≤64)&&hOk d.S (zoY d.D [])):=by
 unfold zoN;rw[h,List.all_eq_true.2 ha,Bool.true_and,Bool.true_and]
theorem zo8 {D:List Dcl} {m:Nat} (h:∀x∈D,x.nm.length≤m):∀v∈zoY D [],v.nm.length≤m:=by
 have:∀(l:List Dcl) (s:List Bs),(∀x∈l,x.nm.length≤m)→∀v∈zoY l s,v.nm.length≤m:=fun l=>by
  induction l with
  |nil=>intro s _ v hv;cases hv
  |cons x l ih=>
   intro s hl v hv;rcases List.mem_cons.1 hv with rfl|hv
   ·exact hl x List.mem_cons_self
   ·exact ih _ (fun y hy=>hl y (List.mem_cons_of_mem _ hy)) v hv
 exact this D [] h
theorem zo9 (D:List Dcl):∀v∈zoY D [],0≤v.sg∧v.sg≤(D.length:Int):=by
 have:∀(l:List Dcl) (s:List Bs),∀v∈zoY l s,0≤v.sg∧v.sg≤((s.length+l.length:Nat):Int):=fun l=>by
  induction l with
  |nil=>intro s v hv;cases hv
  |cons x l ih=>
   intro s v hv;have h2:(zmp s x.code).length≤s.length+1:=by unfold zmp;split<;>simp
   rcases List.mem_cons.1 hv with rfl|hv
   ·have h1:=List.idxOf_lt_length_of_mem (zmq s x.code);show 0≤(((zmp s x.code).idxOf x.code:Nat):Int)∧(((zmp s x.code).idxOf x.code:Nat):Int)≤_;simp only[List.length_cons];omega
   ·have:=ih _ v hv;simp only[List.length_cons];omega
 have h:=this D [];simpa using h
theorem zdz (c:DC) (s:DS) (vS vD vr:Value) (e:Int) (w:Wd) (W:World) (h:DPar c s vS vD vr W) (hl:s.wrong.length≤1000000):
 Calls Tryz.prog 51 #[.pointer (some ⟨c.B,0,none⟩),.int .i64 e,wdV w] W (zad c (s.prob e w)):=by
 obtain⟨tx,o1,o2,o3⟩:=w;obtain⟨i0,hi,iz0,iz1,iz2⟩:=info_parts (P:=Tryz.prog) zjZ;obtain⟨ar,cr,rfl,-,-⟩:=(SlR.of_own h.r).shape;have hal:Below W.heap.size W (W.alloc (.cells #[.string (bsB tx),.int .i64 o1,.int .i64 o2,.int .i64 o3] 58)):=(Below.refl _ _).alloc (Nat.le_refl _) _;have hx:=zaq.fresh W #[.string (bsB tx),.int .i64 o1,.int .i64 o2,.int .i64 o3] 58;have hz:W.heap.size<(W.alloc (.cells #[.string (bsB tx),.int .i64 o1,.int .i64 o2,.int .i64 o3] 58)).heap.size:=by simp
 have H:=lhd (h.later hal);generalize hw1:W.alloc (.cells #[.string (bsB tx),.int .i64 o1,.int .i64 o2,.int .i64 o3] 58)=w1 at*;have c8:=H.out.row.cell (j:=12) rfl;have x1:=hx.cell (j:=1) rfl;have x2:=hx.cell (j:=2) rfl;have x3:=hx.cell (j:=3) rfl;have hB:=h.lo;obtain⟨hB1,hB2⟩:=hB;have hbs:=H.out.b.size;have HRL:=lhd h.r.lt;have hal2:Below w1.heap.size w1 (w1.drew.alloc (.cells #[.int .i64 e,.int .i64 o1,.int .i64 o2,.int .i64 o3] 55)):=((Below.refl _ _).drew).alloc (Nat.le_refl _) _;have HA:=lhd (H.out.later hal2);have HXA:=lhd (hx.below hal2 hz);have hz2:W.heap.size<(w1.drew.alloc (.cells #[.int .i64 e,.int .i64 o1,.int .i64 o2,.int .i64 o3] 55)).heap.size:=by have:=hal2.size;omega
 have a8:=HA.out.row.cell (j:=12) rfl;have a1:=HXA.out.cell (j:=1) rfl;have a2:=HXA.out.cell (j:=2) rfl;have a3:=HXA.out.cell (j:=3) rfl;have hne:W.heap.size≠c.B:=by omega
 clear h hal hx hal2;go_enter Tryz.func51,Tryz.ntmps51;go_wp2_with fail;refine wp_region_held_drew (S:=(fun w'=>w'.cell? ⟨W.heap.size,1,none⟩=some (.int .i64 o1)∧w'.cell? ⟨W.heap.size,2,none⟩=some (.int .i64 o2)∧w'.cell? ⟨W.heap.size,3,none⟩=some (.int .i64 o3))) (by kernel_rfl) ⟨x1,x2,x3⟩ (fun hHeld=>?_);refine tkH 0 hHeld (v:=?_) ?_ ?_;rotate_left
 ·intro w h;(try dsimp only at h);go_simp;all_goals with_reducible rfl
 simp only[tkS];refine tkH 1 hHeld (v:=?_) ?_ ?_;rotate_left
 ·intro w h;(try dsimp only at h);go_simp;all_goals with_reducible rfl
 simp only[tkS];refine tkH 2 hHeld (v:=?_) ?_ ?_;rotate_left
 ·intro w h;(try dsimp only at h);go_simp;all_goals with_reducible rfl
 simp only[tkS];refine tkH 3 hHeld (v:=?_) ?_ ?_;rotate_left
 ·intro w h;(try dsimp only at h);go_simp;all_goals with_reducible rfl
 simp only[tkS];refine tkH 5 hHeld (v:=?_) ?_ ?_;rotate_left
 ·intro w h;(try dsimp only at h);go_simp;all_goals with_reducible rfl
 simp only[tkS];refine tkH 6 hHeld (v:=?_) ?_ ?_;rotate_left
 ·intro w h;(try dsimp only at h);go_simp;all_goals with_reducible rfl
 simp only[tkS];refine tkH 7 hHeld (v:=?_) ?_ ?_;rotate_left
 ·intro w h;(try dsimp only at h);go_simp;all_goals with_reducible rfl
 simp only[tkS];refine tkH 8 hHeld (v:=?_) ?_ ?_;rotate_left
 ·intro w h;(try dsimp only at h);go_simp;all_goals with_reducible rfl
 simp only[tkS];refine tkH 9 hHeld (v:=?_) ?_ ?_;rotate_left
 ·intro w h;(try dsimp only at h);go_simp;all_goals with_reducible rfl
 simp only[tkS];refine tkH 10 hHeld (v:=?_) ?_ ?_;rotate_left
 ·intro w h;(try dsimp only at h);go_simp;all_goals with_reducible rfl
 simp only[tkS];refine tkH 11 hHeld (v:=?_) ?_ ?_;rotate_left
 ·intro w h;(try dsimp only at h);go_simp;all_goals with_reducible rfl
 simp only[tkS];refine tkH 12 hHeld (v:=?_) ?_ ?_;rotate_left
 ·intro w h;(try dsimp only at h);go_simp;all_goals with_reducible rfl
 simp only[tkS];refine wpAnyH_ready (rs:=[4,13]) (by kernel_rfl) (by simp) ?_;refine AllReadyH.cons (o:=_) rfl (fun K hK=>?_) (AllReadyH.cons (o:=_) rfl (fun K hK=>?_) AllReadyH.nil)
 ·go_simp;refine hK.out _ _ ⟨x1,x2,x3⟩ (fun hHeld=>?_);clear hK;try simp only[tkS]
  refine oneH 13 (fun K hK=>?_);go_simp;refine hK.out _ _ ⟨a1,a2,a3⟩ (fun hHeld=>?_);clear hK;try simp only[tkS]
  refine oneH 14 (fun K hK=>?_);refine step_append_lies _ (by rfl) _ _ _ (by rfl) c.w0.heap.size 55 i0 _ 4 32 Tryz.underlying33 hi iz0 iz1 iz2 rfl (by omega) (.slice ar s.wrong.length cr) s.wrong.length (prbs s.wrong) (by rfl) (by exact HA.out.r) ⟨w1.heap.size,0,none⟩ 1 1 [.int .i64 e,.int .i64 o1,.int .i64 o2,.int .i64 o3] (by rfl) (by rfl) (World.news_of_block (cs:=#[.int .i64 e,.int .i64 o1,.int .i64 o2,.int .i64 o3]) (t:=55) (fr:=(0,0)) (by exact heap_alloc_new _ _)) (by simp[Value.oneCell']) (by omega) (by unfold maxLen;omega) (by omega) (by simp;omega) (w1.heap.size+1) (by simp) ?_;intro gg cap9 w9 ho9 hg9 hat hlt9;have HR9:=lhd (zjo (HA.out.p.kept hg9 (zjl HA.out.p HA.out.r (by decide))));have HX9:=lhd (HXA.out.grown hg9 hz2 (fun q=>by have:=(HRL.out _ q.symm).2;omega));have HE9:=lhd (HA.out.addR (x:=(e,o1,o2,o3)) ho9 hg9);have d8:=HR9.out.cell (j:=12) rfl;have f8:=HR9.out.free (j:=12) (by simp[zdR]);have y1:=HX9.out.cell (j:=1) rfl;have y2:=HX9.out.cell (j:=2) rfl;have y3:=HX9.out.cell (j:=3) rfl;have HZ9:=lhd (HX9.out.setFar (Ne.symm hne) 12 (.slice (some ⟨gg,0,none⟩) (s.wrong.length+1) cap9));clear ho9 hg9 hat hlt9;refine hK.out _ _ ⟨y1,y2,y3⟩ (fun hHeld=>?_);clear hK;try simp only[tkS]
  clear y1 y2 y3;refine tkH 15 hHeld (v:=?_) ?_ ?_;rotate_left
  ·intro w h;(try dsimp only at h);go_simp;all_goals with_reducible rfl
  simp only[tkS];refine tkH 16 hHeld (v:=?_) ?_ ?_;rotate_left
  ·intro w h;(try dsimp only at h);go_simp;all_goals with_reducible rfl
  simp only[tkS];refine oneH 17 (fun K hK=>?_);go_simp;refine hK.out _ _ ⟨HZ9.out.cell (j:=1) rfl,HZ9.out.cell (j:=2) rfl,HZ9.out.cell (j:=3) rfl⟩ (fun hHeld=>?_);clear hK;try simp only[tkS]
  refine wpAnyH_done (by kernel_rfl) ?_ _;clear hHeld;go_wp2_with fail;go_end0
  exact⟨rfl,_,_,_,HE9.out⟩
 ·go_simp;refine hK.out _ _ ⟨a1,a2,a3⟩ (fun hHeld=>?_);clear hK;try simp only[tkS]
  have a8:=zbz c8 (.cells #[.int .i64 e,.int .i64 o1,.int .i64 o2,.int .i64 o3] 55);refine oneH 4 (fun K hK=>?_);go_simp;refine hK.out _ _ ⟨a1,a2,a3⟩ (fun hHeld=>?_);clear hK;try simp only[tkS]
  clear a8;refine oneH 14 (fun K hK=>?_);refine step_append_lies _ (by rfl) _ _ _ (by rfl) c.w0.heap.size 55 i0 _ 4 32 Tryz.underlying33 hi iz0 iz1 iz2 rfl (by omega) (.slice ar s.wrong.length cr) s.wrong.length (prbs s.wrong) (by rfl) (by exact HA.out.r) ⟨w1.heap.size,0,none⟩ 1 1 [.int .i64 e,.int .i64 o1,.int .i64 o2,.int .i64 o3] (by rfl) (by rfl) (World.news_of_block (cs:=#[.int .i64 e,.int .i64 o1,.int .i64 o2,.int .i64 o3]) (t:=55) (fr:=(0,0)) (by exact heap_alloc_new _ _)) (by simp[Value.oneCell']) (by omega) (by unfold maxLen;omega) (by omega) (by simp;omega) (w1.heap.size+1) (by simp) ?_;intro gg cap9 w9 ho9 hg9 hat hlt9;have HR9:=lhd (zjo (HA.out.p.kept hg9 (zjl HA.out.p HA.out.r (by decide))));have HX9:=lhd (HXA.out.grown hg9 hz2 (fun q=>by have:=(HRL.out _ q.symm).2;omega));have HE9:=lhd (HA.out.addR (x:=(e,o1,o2,o3)) ho9 hg9);have d8:=HR9.out.cell (j:=12) rfl;have f8:=HR9.out.free (j:=12) (by simp[zdR]);have y1:=HX9.out.cell (j:=1) rfl;have y2:=HX9.out.cell (j:=2) rfl;have y3:=HX9.out.cell (j:=3) rfl;have HZ9:=lhd (HX9.out.setFar (Ne.symm hne) 12 (.slice (some ⟨gg,0,none⟩) (s.wrong.length+1) cap9));clear ho9 hg9 hat hlt9;refine hK.out _ _ ⟨y1,y2,y3⟩ (fun hHeld=>?_);clear hK;try simp only[tkS]
  clear y1 y2 y3;refine tkH 15 hHeld (v:=?_) ?_ ?_;rotate_left
  ·intro w h;(try dsimp only at h);go_simp;all_goals with_reducible rfl
  simp only[tkS];refine tkH 16 hHeld (v:=?_) ?_ ?_;rotate_left
  ·intro w h;(try dsimp only at h);go_simp;all_goals with_reducible rfl
  simp only[tkS];refine oneH 17 (fun K hK=>?_);go_simp;refine hK.out _ _ ⟨HZ9.out.cell (j:=1) rfl,HZ9.out.cell (j:=2) rfl,HZ9.out.cell (j:=3) rfl⟩ (fun hHeld=>?_);clear hK;try simp only[tkS]
  refine wpAnyH_done (by kernel_rfl) ?_ _;clear hHeld;go_wp2_with fail;go_end0
  exact⟨rfl,_,_,_,HE9.out⟩
theorem znI:∀k:Fin 18,Lib.replace (zlU ((k.val:Int)-15)) [32] [] 1=znH (zlU ((k.val:Int)-15))∧(zlU ((k.val:Int)-15)).length≤6∧Lib.countB (bsB (zlU ((k.val:Int)-15))) ⟨#[32]⟩=1∧zlV[k.val]? =some (zlU ((k.val:Int)-15)):=by decide+kernel
theorem znV (k:Nat) (hk:k<18) (w:World) (hg:Glm w):Calls Tryz.prog 170 #[.string (bsB (zlU ((k:Int)-15))),.string ⟨#[32]⟩,.string ⟨#[]⟩,.int .i64 1] w fun e w'=>e=.returned (.string (bsB (znH (zlU ((k:Int)-15)))))∧Below w.heap.size w w':=by
 obtain⟨m,hm⟩:=hg;obtain⟨h1,h2,h3,-⟩:=znI ⟨k,hk⟩;dsimp only at h1 h2 h3;have hq:=Tryz.strings_Replace (bsB (zlU ((k:Int)-15))) ⟨#[32]⟩ ⟨#[]⟩ 1 m w (by rw[zbk];omega) hm (by decide) (by rw[zbk,h3];show _+1*0≤_;omega);rw[zbh,show(⟨#[32]⟩:ByteArray).data.toList=[32]from rfl,show(⟨#[]⟩:ByteArray).data.toList=[]from rfl,h1]at hq;exact hq
def hitS (x:Bs) (k:Nat):Bool:=decide (x=zlU ((k:Int)-15))||decide (x=znH (zlU ((k:Int)-15)))
theorem zlS {x:Bs} {k:Nat} (hk:k<18) (h:hitS x k=true) (hn:∀j,j<k→hitS x j=false):zlR x=((k:Int)-15,0):=by
 have e:zlV.findIdx? (fun s=>decide (x=s)||decide (x=znH s))=some k:=by
  rw[List.findIdx?_eq_some_iff_getElem];have hl:zlV.length=18:=rfl;refine⟨by omega,?_,fun j hj=>?_⟩
  ·have h4:=(znI ⟨k,hk⟩).2.2.2;dsimp only at h4;rw[List.getElem?_eq_getElem (by omega)]at h4;rw[Option.some.inj h4];exact h
  ·have h4:=(znI ⟨j,by omega⟩).2.2.2;dsimp only at h4;rw[List.getElem?_eq_getElem (by omega)]at h4;rw[Option.some.inj h4];have:=hn j hj;unfold hitS at this;rw[this];simp
 unfold zlR;rw[e]
theorem zlT {x:Bs} (hn:∀j,j<18→hitS x j=false):zlR x=(0,3):=by
 have e:zlV.findIdx? (fun s=>decide (x=s)||decide (x=znH s))=none:=by
  rw[List.findIdx?_eq_none_iff];intro s hs;obtain⟨j,hj,rfl⟩:=List.mem_iff_getElem.1 hs;have hl:zlV.length=18:=rfl;have h4:=(znI ⟨j,by omega⟩).2.2.2;dsimp only at h4;rw[List.getElem?_eq_getElem (by omega)]at h4;rw[Option.some.inj h4];exact hn j (by omega)
 unfold zlR;rw[e]
theorem znR (x:Bs) (w:World) (hg:Glob w) (hm:Glm w):Calls Tryz.prog 140 #[.string (bsB x)] w fun e w'=>e=.returned (.tuple #[.int .i64 (zlR x).1,.int .i64 (zlR x).2])∧Below w.heap.size w w':=by
 have HG:=lhd hg;have HM:=lhd hm;clear hg hm;go_enter Tryz.func140,Tryz.ntmps140;go_wp2_with fail;go_loopw [4] (fun u wr=>∃k:Nat,k≤18∧u=.int .i64 ((k:Int)-15)∧(∀j,j<k→hitS x j=false)∧Below w.heap.size w wr) (fun u _=>(18-(intOf u+15)).toNat)
 case atStart=>exact⟨0,Nat.zero_le _,rfl,fun j hj=>absurd hj (Nat.not_lt_zero _),Below.refl _ _⟩
 case round=>
  obtain⟨k,hk,rfl,hgo,hb⟩:=hrel;have HGO:=lhd hgo;have HB:=lhd hb;clear hgo hb;by_cases hlt:k<18
  ·have hle:(k:Int)-15≤2:=by omega
   have HF:=lhd (znQ ((k:Int)-15) wr (HG.out.below HB.out));have HT:=lhd (fun(W:World) (hW:Below w.heap.size w W)=>znV k hlt W (HM.out.below hW));have hw1:IntKind.i64.wrap ((k:Int)-15+1)=(k:Int)-15+1:=IntWalk.i64_in _ (by omega);by_cases h1:x=zlU ((k:Int)-15)
   ·have HR:=lhd (zlS hlt (by unfold hitS;rw[decide_eq_true h1];rfl) HGO.out);rw[←h1]at HF;generalize (k:Int)-15=kk at*;go_wp2_with fail;refine HF.out.mono ?_;rintro e w1 ⟨rfl,hb1⟩;have HB1:=lhd (zd5 HB.out hb1);clear hb1;go_wp2_with fail;exact bodyPost_ret (v:=.tuple #[.int .i64 kk,.int .i64 0]) (by simp[results,Tryz.results140,go_sem]) rfl ⟨by rw[HR.out],HB1.out⟩
   ·have hb1:=zbi h1;by_cases h2:x=znH (zlU ((k:Int)-15))
    ·have HR:=lhd (zlS hlt (by unfold hitS;rw[decide_eq_true h2,Bool.or_true]) HGO.out);rw[←h2]at HT;generalize bsB (zlU ((k:Int)-15))=sc at*;generalize (k:Int)-15=kk at*;clear h1 h2;go_wp2_with fail;refine HF.out.mono ?_;rintro e w1 ⟨rfl,hb1⟩;have HB1:=lhd (zd5 HB.out hb1);clear hb1;go_wp2_with fail;refine(HT.out _ HB1.out).mono ?_;rintro e w2 ⟨rfl,hb2⟩;have HB2:=lhd (zd5 HB1.out hb2);clear hb2;go_wp2_with fail;exact bodyPost_ret (v:=.tuple #[.int .i64 kk,.int .i64 0]) (by simp[results,Tryz.results140,go_sem]) rfl ⟨by rw[HR.out],HB2.out⟩
    ·have hb2:=zbi h2
     have HN:=lhd (show ∀j,j<k+1→hitS x j=false from fun j hj=>by
      rcases Nat.lt_or_ge j k with h|h
      ·exact HGO.out j h
      ·obtain rfl:j=k:=by omega
       unfold hitS;rw[decide_eq_false h1,decide_eq_false h2];rfl)
     generalize bsB (zlU ((k:Int)-15))=sc at*;generalize bsB (znH (zlU ((k:Int)-15)))=sd at*;clear h1 h2;go_wp2_with fail;refine HF.out.mono ?_;rintro e w1 ⟨rfl,hb1⟩;have HB1:=lhd (zd5 HB.out hb1);clear hb1;go_wp2_with fail;refine(HT.out _ HB1.out).mono ?_;rintro e w2 ⟨rfl,hb2⟩;have HB2:=lhd (zd5 HB1.out hb2);clear hb2;go_wp2_with fail;go_roundw;case rel=>exact⟨k+1,hlt,by go_num,HN.out,HB2.out⟩
     case measure=>simp[intOf];omega
  ·obtain rfl:k=18:=by omega
   have HR:=lhd (zlT HGO.out);go_wp2_with fail;exact bodyPost_ret (v:=.tuple #[.int .i64 0,.int .i64 3]) (by simp[results,Tryz.results140,go_sem]) rfl ⟨by rw[HR.out],HB.out⟩
theorem zon {S:List Sc} (hF:Fst (parS S) S.length) {j:Nat} (hj:j<S.length):(upL S (S.length+1) (j:Int)).length=(upL S (S.length+1) S[j].2.2).length+1:=by
 have h1:upL S (S.length+1) (j:Int)=j::upL S S.length S[j].2.2:=by
  rw[upL,if_neg (by omega),Int.toNat_natCast,List.getElem?_eq_getElem hj]
 rw[h1,List.length_cons];have h2:=hF j hj;rw[zjD hj]at h2;have h3:=zoi hF S.length (S.length+1) S[j].2.2 (by omega);have h4:=zoi hF (S.length+1) S.length S[j].2.2 (by omega);omega
theorem zok (S:List Sc) (f:Nat) {q:Int} (h:q<0):upL S f q=[]:=by
 cases f with
 |zero=>rfl
 |succ f=>rw[upL,if_pos h]
theorem zdt (c:DC) (s:DS) (vS vD vr:Value) (W:World) (h:DPar c s vS vD vr W) (hv:VP s):
 Calls Tryz.prog 172 #[.pointer (some ⟨c.B,0,none⟩)] W fun e w'=>e=.returned (.int .i64 (zdb s.S s.now:Nat))∧W=w':=by
 obtain⟨aS,cS,rfl,hcS,hmS⟩:=(SlR.of_own h.S).shape;have HS:=lhd (SlR.of_own h.S);have HF:=lhd hv.sf;have hN:=hv.sn;have HN:=lhd hv.nw;have c4:=h.row.cell (j:=4) rfl;have c8:=h.row.cell (j:=8) rfl;have HD:=lhd (show(0:Int)+(upL s.S (s.S.length+1) s.now).length=(zdb s.S s.now:Nat)by unfold zdb;omega)
 have hd40:zdb s.S s.now≤40:=by
  unfold zdb;by_cases h0:s.now<0
  ·rw[zok _ _ h0];simp
  ·have hnw:=hv.nw;have h1:=hv.su s.now.toNat (by omega);have h2:=zoi hv.sf (s.S.length+1) (s.now.toNat+1) s.now (by omega);rw[show((s.now.toNat:Nat):Int)=s.now by omega]at h1;omega
 generalize zdb s.S s.now=dd at*;clear h hv;go_enter Tryz.func172,Tryz.ntmps172;go_wp2_with fail
 go_loopw [3,4] (fun n u wr=>∃(i:Int) (k:Nat),n=.int .i64 k∧u=.int .i64 i∧ -1≤i∧i<(s.S.length:Int)∧(k:Int)+(upL s.S (s.S.length+1) i).length=(dd:Nat)∧W=wr)
  (fun _ u _=>(intOf u+1).toNat)
 case atStart=>exact⟨s.now,0,rfl,rfl,HN.out.1,HN.out.2,HD.out,rfl⟩
 case round=>
  obtain⟨i,k,rfl,rfl,h1,h2,h3,rfl⟩:=hrel;by_cases hi:0≤i
  ·obtain⟨j,rfl⟩:∃j:Nat,i=(j:Int):=⟨i.toNat,by omega⟩;have hjl:j<s.S.length:=by omega
   obtain⟨b,o,rfl,hcell⟩:=HS.out.scs hjl;have d2:W.cell? ⟨b,o+j*3+2,none⟩=some (.int .i64 s.S[j].2.2):=hcell 2 _ rfl;have hfs:=HF.out j hjl;rw[zjD hjl]at hfs;rw[zon HF.out hjl]at h3;have HNX:=lhd h3;have hk:k≤40:=by omega
   clear h3;generalize s.S[j].2.2=x at*;clear hcell;have hw1:IntKind.i64.wrap ((k:Int)+1)=(k:Int)+1:=IntWalk.i64_in _ (by omega);go_wp2_with fail;go_roundw;case rel=>exact⟨x,k+1,by go_num,rfl,hfs.1,by omega,by have:=HNX.out;omega,by first|trivial|rfl⟩
   case measure=>simp[intOf];omega
  ·rw[zok _ _ (by omega)]at h3;have h3:(k:Int)=(dd:Int):=by simpa using h3
   go_wp2_with fail;go_ret;exact⟨rfl,rfl⟩
end Go.Proofs.YtcdekelomkcahaaGreatDoor
