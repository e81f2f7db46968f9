import Derived.Test.YtcdekelomkcahaaGreatDoorZ00
import Derived.RangeFuncBox
import Derived.Test.YtcdekelomkcahaaGreatDoorZ19
set_option maxRecDepth 100000
set_option maxHeartbeats 16000000
namespace Go.Proofs.YtcdekelomkcahaaGreatDoor
open Go.RowKit Go.Shelf
attribute [local go_sem] Oper.semAt_some
set_option linter.unusedSimpArgs false
theorem zgJ (s:ByteArray) (w:World):Calls Tryz.prog 60 #[.string s] w fun e w'=>e=.returned (.func (.func 115) #[] #[.pointer (some ⟨w.heap.size,0,none⟩)])∧w'=w.alloc (.cells #[.string s] 9):=by
 go_enter Tryz.func60,Tryz.ntmps60;go_wp2_with fail;go_ret;exact⟨rfl,rfl⟩
structure ScI (w:World) (s:Bs) (k:Nat) (W:World) (vo:Value) (ws:List Wd) (cur:Bs):Prop where
 st:ScSt s k ws cur
 bt:W.heap[w.heap.size]? =some (.cells #[.string (bsB s)] 9 (0,0))
 bo:W.heap[w.heap.size+1]? =some (.cells #[vo] 37 (0,0))
 bi:W.heap[w.heap.size+2]? =some (.cells #[.bool (decide (cur≠ []))] 4 (0,0))
 o:W.ownsRow w.heap.size 58 4 vo ws.length (wds ws)
 b:Below w.heap.size w W
def ScJ (w:World) (s:Bs) (k:Nat) (W:World):Prop:=∃vo ws cur,ScI w s k W vo ws cur
theorem zjw {B Bt:Nat} {T e size n:Nat} {v:Value} {xs:List Value} {W V:World} (h:W.ownsRow B e size v n xs) (hT:e≠T) (ht:TurnI Bt T W V):V.ownsRow B e size v n xs:=by
 refine⟨h.1,?_⟩;rcases h.2 with h0|⟨g,cap,cur,h1,h2,h3,h4⟩
 ·exact .inl h0
 ·exact .inr ⟨g,cap,cur,h1,h2,ht.cells _ _ _ _ hT h3,h4⟩
theorem za5 {B Bt:Nat} {T:TypeId} {w W V:World} (h:Below B w W) (hB:B≤Bt) (ht:TurnI Bt T W V):Below B w V:=
 h.trans ⟨ht.os,ht.tape,ht.output,ht.size,fun b hb=>ht.low b (by omega)⟩
theorem ScI.turn {w W V:World} {s:Bs} {k Bt:Nat} {vo:Value} {ws:List Wd} {cur:Bs} (h:ScI w s k W vo ws cur) (hB:w.heap.size≤Bt) (ht:TurnI Bt 113 W V):ScI w s k V vo ws cur:=
 ⟨h.st,ht.cells _ _ _ _ (by decide) h.bt,ht.cells _ _ _ _ (by decide) h.bo,ht.cells _ _ _ _ (by decide) h.bi,zjw h.o (by decide) ht,za5 h.b hB ht⟩
def zak (s:Bs) (w:World) (e:Ending) (w':World):Prop:=
 ∃v ws,e=.returned (.tuple #[v,.int .i64 0])∧w'.ownsRow w.heap.size 58 4 v ws.length (wds ws)∧ws.map (·.1)=zp1 s∧ws.length≤s.length∧Below w.heap.size w w'
theorem KpS.set {W:World} {b:Nat} {C:Array Value} {T:TypeId} {fr:Nat×Nat} (hb:W.heap[b]? =some (.cells C T fr)) (h1:T≠113) (h2:T≠9) (j:Nat) (u:Value):KpS W (W.setCell ⟨b,j,none⟩ u):=fun i C' T' fr' hT hi=>by
 have hne:i≠b:=by
  rintro rfl;rw[hb]at hi;injection hi with hi;injection hi with _ hi _;rcases hT with rfl|rfl
  ·exact h1 hi
  ·exact h2 hi
 rw[Below.heap_setCell _ _ _ _ hne];exact hi
theorem KpS.grown {W V:World} {base e size n:Nat} {v:Value} {xs:List Value} (ho:W.ownsRow base e size v n xs) (h1:e≠113) (h2:e≠9) (hg:W.grownBy V v.ownBlock):KpS W V:=fun b C T fr hT h4=>by
 rw[hg.block b (Array.getElem?_eq_some_iff.1 h4).1 (fun q=>by
  rcases ho.2 with⟨rfl,-⟩|⟨g,cap,cur,rfl,-,hb,-⟩
  ·cases q
  ·injection q with q;subst q;rw[hb]at h4;injection h4 with h4;injection h4 with _ h5 _;rcases hT with rfl|rfl
   ·exact h1 h5
   ·exact h2 h5)]
 exact h4
theorem za9 {W:World} {b:Nat} {x y:Value} {T:TypeId} (h:W.heap[b]? =some (.cells #[x] T (0,0))):(W.setCell ⟨b,0,none⟩ y).heap[b]? =some (.cells #[y] T (0,0)):=by
 simp[World.setCell,Array.getElem?_modify,h]
theorem za7 {W:World} {b b' j:Nat} {y:Value} {o:Obj} (hne:b≠b') (h:W.heap[b]? =some o):(W.setCell ⟨b',j,none⟩ y).heap[b]? =some o:=by
 rw[Below.heap_setCell _ _ _ _ hne];exact h
theorem zjh {W:World} {B T e size n:Nat} {v:Value} {xs:List Value} {b j:Nat} {C:Array Value} {fr:Nat×Nat} (h:W.ownsRow B e size v n xs) (hb:W.heap[b]? =some (.cells C T fr)) (hT:T≠e) (u:Value):(W.setCell ⟨b,j,none⟩ u).ownsRow B e size v n xs:=by
 refine⟨h.1,?_⟩;rcases h.2 with h0|⟨g,cap,cur,h1,h2,h3,h4⟩
 ·exact .inl h0
 ·refine .inr ⟨g,cap,cur,h1,h2,za7 ?_ h3,h4⟩;rintro rfl;rw[h3]at hb;injection hb with hb;injection hb with _ hb _;exact hT hb.symm
theorem zby {W:World} {b:Nat} {v:Value} {T:TypeId} (h:W.heap[b]? =some (.cells #[v] T (0,0))):W.cell? ⟨b,0,none⟩=some v∧W.frozen? ⟨b,0,none⟩=false:=⟨by simp[World.cell?,h],by simp[World.frozen?,h]⟩
theorem znr (s:Bs) (p k:Nat):(bsB s).extract p k=bsB ((s.take k).drop p):=by
 rw[←zbj ((bsB s).extract p k),Lib.extract_data,zbh,List.drop_take]
theorem ScI.white {w W:World} {s:Bs} {k:Nat} {vo:Value} {ws:List Wd} {cur:Bs} (h:ScI w s k W vo ws cur) (hk:k<s.length) (hw:isW s[k]=true):ScJ w s (k+1) (W.setCell ⟨w.heap.size+2,0,none⟩ (.bool false)):=
 ⟨vo,ws,[],h.st.white hk hw,za7 (by omega) h.bt,za7 (by omega) h.bo,za9 h.bi,zjh h.o h.bi (by decide) _,h.b.setCell (p:=⟨w.heap.size+2,0,none⟩) (by show w.heap.size≤w.heap.size+2;omega) _⟩
theorem zg9 {w W W':World} {s:Bs} {k:Nat} {vo:Value} {ws:List Wd} {cur:Bs} {C:Array Value} (h:ScI w s k W vo ws cur) (hg:(W.alloc (.cells C 58)).grownBy W' vo.ownBlock):
 W'.heap[w.heap.size]? =some (.cells #[.string (bsB s)] 9 (0,0))∧W'.heap[w.heap.size+1]? =some (.cells #[vo] 37 (0,0))∧W'.heap[w.heap.size+2]? =some (.cells #[.bool (decide (cur≠ []))] 4 (0,0))∧
 Below w.heap.size w W'∧KeepsOthers W W'∧KpS W W':=by
 have hal:Below W.heap.size W (W.alloc (.cells C 58)):=(Below.refl _ _).alloc (Nat.le_refl _) _;have ho2:=World.ownsRow.alloc h.o (.cells C 58);have b1:Boxed W w.heap.size 9 (.string (bsB s)):=h.bt;have b2:Boxed W (w.heap.size+1) 37 vo:=h.bo;have b3:Boxed W (w.heap.size+2) 4 (.bool (decide (cur≠ []))):=h.bi;refine⟨(b1.alloc _).kept hg (b1.not_row (by decide) h.o),(b2.alloc _).kept hg (b2.not_row (by decide) h.o),(b3.alloc _).kept hg (b3.not_row (by decide) h.o),?_,?_,KpS.trans (KpS.below hal) (KpS.grown ho2 (by decide) (by decide) hg)⟩
 ·exact(h.b.alloc h.b.size _).grown hg (by have:=h.b.size;simp;omega) (fun j ej=>(h.o.lt j ej).1)
 ·refine(KeepsOthers.alloc W _).trans (KeepsOthers.of_grownBy hg fun j o ej hj=>?_);rcases ho2.2 with⟨rfl,_⟩|⟨g,cap,cur,rfl,_,hgb,_⟩
  ·simp[Value.ownBlock]at ej
  ·obtain rfl:g=j:=by simpa[Value.ownBlock] using ej
   rw[hgb]at hj;cases hj;rfl
structure ScM (w W:World) (s:Bs) (k n g cap:Nat) (ini:List Wd) (x:Wd) (p:Nat):Prop where
 nx:ini.length=n
 bt:W.heap[w.heap.size]? =some (.cells #[.string (bsB s)] 9 (0,0))
 bo:W.heap[w.heap.size+1]? =some (.cells #[.slice (some ⟨g,0,none⟩) (n+1) cap] 37 (0,0))
 bi:W.heap[w.heap.size+2]? =some (.cells #[.bool true] 4 (0,0))
 o:W.ownsRow w.heap.size 58 4 (.slice (some ⟨g,0,none⟩) (n+1) cap) (n+1) (wds (ini++ [x]))
 b:Below w.heap.size w W
 po:x.2.1=(p:Int)
 pk:p≤k
 st:ScSt s (k+1) (ini++ [((s.take (k+1)).drop p,x.2)]) ((s.take (k+1)).drop p)
 nl:n+1≤s.length
theorem ScI.mid {w W:World} {s:Bs} {k:Nat} {vo:Value} {ws:List Wd} {cur:Bs} (h:ScI w s k W vo ws cur) (hc:cur≠ []) (hk:k<s.length) (hw:isW s[k]=false):
 ∃n g cap ini x p,vo=.slice (some ⟨g,0,none⟩) (n+1) cap∧ScM w W s k n g cap ini x p:=by
 obtain⟨ini,x,rfl,hx,ho⟩:=h.st.c hc;have h5:=h.o;have h6:=h.st.l;rw[show(ini++ [x]).length=ini.length+1 by simp]at h5 h6;obtain⟨g,cap,rfl⟩:=ownsRow_succ h5;refine⟨ini.length,g,cap,ini,x,k-cur.length,rfl,rfl,h.bt,h.bo,?_,h5,h.b,ho,by omega,?_,by omega⟩
 ·have:=h.bi;rwa [decide_eq_true hc]at this
 ·rw[h.st.text hk];exact h.st.more hx hc hk hw ho
theorem ScM.new {w W:World} {s:Bs} {k n g cap:Nat} {ws:List Wd} {q1 q2:Int} (hn:ws.length=n) (h:ScSt s k ws []) (hk:k<s.length) (hw:isW s[k]=false)
 (bt:W.heap[w.heap.size]? =some (.cells #[.string (bsB s)] 9 (0,0)))
 (bo:W.heap[w.heap.size+1]? =some (.cells #[.slice (some ⟨g,0,none⟩) (n+1) cap] 37 (0,0)))
 (bi:W.heap[w.heap.size+2]? =some (.cells #[.bool true] 4 (0,0)))
 (o:W.ownsRow w.heap.size 58 4 (.slice (some ⟨g,0,none⟩) (n+1) cap) (n+1) (wds ws++ [.string ⟨#[]⟩,.int .i64 (k:Int),.int .i64 q1,.int .i64 q2]))
 (b:Below w.heap.size w W):ScM w W s k n g cap ws ([],(k:Int),q1,q2) k:=by
 have e:(s.take (k+1)).drop k=[s[k]]:=by
  have:=h.text hk;simpa using this
 refine⟨hn,bt,bo,bi,?_,b,rfl,Nat.le_refl _,?_,by have:=h.l;omega⟩
 ·rw[zpS];exact o
 ·rw[e];exact h.new hk hw q1 q2
theorem ScM.done {w W:World} {s:Bs} {k n g cap:Nat} {ini:List Wd} {x:Wd} {p:Nat} (h:ScM w W s k n g cap ini x p) (hk:k<s.length):
 ScJ w s (k+1) (W.setCell ⟨g,n*4,none⟩ (.string (bsB ((s.take (k+1)).drop p))))∧KpS W (W.setCell ⟨g,n*4,none⟩ (.string (bsB ((s.take (k+1)).drop p)))):=by
 obtain⟨hnx,bt,bo,bi,o,b,po,pk,st,nl⟩:=h;have hg:=o.lt g rfl
 obtain⟨C,hC⟩:∃C,W.heap[g]? =some (.cells C 58 (0,0)):=by
  rcases o.2 with⟨h0,-⟩|⟨g',cap',cur,h0,-,hgb,-⟩
  ·cases h0
  ·injection h0 with h0 _ _;injection h0 with h0;injection h0 with h0 _ _;subst h0;exact⟨cur,hgb⟩
 have hne:∀(i:Nat) (D:Array Value) (T:TypeId) (fr:Nat×Nat),W.heap[i]? =some (.cells D T fr)→T≠58→i≠g:=by
  rintro i D T fr hi hT rfl;rw[hC]at hi;injection hi with hi;injection hi with _ hi _;exact hT hi.symm
 refine⟨⟨_,_,_,st,za7 (hne _ _ _ _ bt (by decide)) bt,za7 (hne _ _ _ _ bo (by decide)) bo,?_,?_,b.setCell (p:=⟨g,n*4,none⟩) hg.1 _⟩,KpS.set hC (by decide) (by decide) _ _⟩
 ·rw[show decide ((s.take (k+1)).drop p≠ [])=true from decide_eq_true (fun e=>by have:=congrArg List.length e;simp at this;omega)];exact za7 (hne _ _ _ _ bi (by decide)) bi
 ·have h2:=zjr o (n*4) (.string (bsB ((s.take (k+1)).drop p)));rw[show(ini++ [((s.take (k+1)).drop p,x.2)]).length=n+1 by simp[hnx]]
  have e:(wds (ini++ [x])).set (n*4) (.string (bsB ((s.take (k+1)).drop p)))=wds (ini++ [((s.take (k+1)).drop p,x.2)]):=by
   rw[zpS,zpS,List.set_append_right _ _ (by rw[zpQ];omega),zpQ,show n*4-4*ini.length=0 by omega];rfl
  rwa [e]at h2
theorem ScM.cells {w W:World} {s:Bs} {k n g cap:Nat} {ini:List Wd} {x:Wd} {p:Nat} (h:ScM w W s k n g cap ini x p):
 W.cell? ⟨g,n*4,none⟩=some (.string (bsB x.1))∧W.cell? ⟨g,n*4+1,none⟩=some (.int .i64 (p:Int))∧W.frozen? ⟨g,n*4,none⟩=false:=by
 have hnx:=h.nx;obtain⟨h0,h1,-,-⟩:=zpL (ini++ [x]) n (by simp[hnx]);have e:(ini++ [x])[n]'(by simp[hnx])=x:=by simp[←hnx]
 rw[e]at h0 h1;rw[h.po,Nat.mul_comm]at h1;rw[Nat.mul_comm]at h0;exact⟨(h.o.cellAt _ (by omega)).trans h0,(h.o.cellAt _ (by omega)).trans h1,h.o.frozenAt _⟩
theorem ScM.keep {w V:World} {s:Bs} {k n g cap b:Nat} {ini:List Wd} {x:Wd} {p:Nat} {D:Array Value} {q:Value} (h:ScM w V s k n g cap ini x p) (hb:V.heap[b]? =some (.cells D 115 (0,0))) (hq:V.cell? ⟨b,0,none⟩=some q) (u:Value):
 (V.setCell ⟨g,n*4,none⟩ u).cell? ⟨w.heap.size,0,none⟩=some (.string (bsB s))∧(V.setCell ⟨g,n*4,none⟩ u).cell? ⟨g,n*4+1,none⟩=some (.int .i64 (p:Int))∧(V.setCell ⟨g,n*4,none⟩ u).cell? ⟨b,0,none⟩=some q:=by
 have hne:∀(i:Nat) (D:Array Value) (T:TypeId) (fr:Nat×Nat),V.heap[i]? =some (.cells D T fr)→T≠58→g≠i:=by
  rintro i D T fr hi hT rfl;rcases h.o.2 with⟨h0,-⟩|⟨g',cap',cur,h0,-,hgb,-⟩
  ·cases h0
  ·injection h0 with h0 _ _;injection h0 with h0;injection h0 with h0 _ _;subst h0;rw[hgb]at hi;injection hi with hi;injection hi with _ hi _;exact hT hi.symm
 refine⟨?_,?_,?_⟩
 ·rw[World.cell?_setCell_other (h:=fun e=>by injection e with e _ _;exact hne _ _ _ _ h.bt (by decide) e)];exact(zby h.bt).1
 ·rw[World.cell?_setCell_other (h:=fun e=>by injection e with _ e _;omega)];exact h.cells.2.1
 ·rw[World.cell?_setCell_other (h:=fun e=>by injection e with e _ _;exact hne _ _ _ _ hb (by decide) e)];exact hq
theorem ScM.drew {w W:World} {s:Bs} {k n g cap:Nat} {ini:List Wd} {x:Wd} {p:Nat} (h:ScM w W s k n g cap ini x p):ScM w W.drew s k n g cap ini x p:=
 ⟨h.nx,h.bt,h.bo,h.bi,h.o,h.b.drew,h.po,h.pk,h.st,h.nl⟩
theorem zg7 {w W W':World} {s:Bs} {k g cap:Nat} {vo:Value} {ws:List Wd} {C:Array Value} {q1 q2:Int} (h:ScI w s k W vo ws []) (hk:k<s.length) (hw:isW s[k]=false)
 (hown:W'.ownsRow w.heap.size 58 4 (.slice (some ⟨g,0,none⟩) (ws.length+1) cap) (ws.length+1) (wds ws++ [.string ⟨#[]⟩,.int .i64 (k:Int),.int .i64 q1,.int .i64 q2])) (hg:(W.alloc (.cells C 58)).grownBy W' vo.ownBlock):
 ScM w ((W'.setCell ⟨w.heap.size+1,0,none⟩ (.slice (some ⟨g,0,none⟩) (ws.length+1) cap)).setCell ⟨w.heap.size+2,0,none⟩ (.bool true)) s k ws.length g cap ws ([],(k:Int),q1,q2) k∧
 KeepsOthers W ((W'.setCell ⟨w.heap.size+1,0,none⟩ (.slice (some ⟨g,0,none⟩) (ws.length+1) cap)).setCell ⟨w.heap.size+2,0,none⟩ (.bool true))∧
 KpS W ((W'.setCell ⟨w.heap.size+1,0,none⟩ (.slice (some ⟨g,0,none⟩) (ws.length+1) cap)).setCell ⟨w.heap.size+2,0,none⟩ (.bool true))∧
 (∀(b:Nat) (D:Array Value),W.heap[b]? =some (.cells D 115 (0,0))→((W'.setCell ⟨w.heap.size+1,0,none⟩ (.slice (some ⟨g,0,none⟩) (ws.length+1) cap)).setCell ⟨w.heap.size+2,0,none⟩ (.bool true)).heap[b]? =some (.cells D 115 (0,0))):=by
 obtain⟨g1,g2,g3,g4,g5,g6⟩:=zg9 h hg;have f2:(W'.setCell ⟨w.heap.size+1,0,none⟩ (.slice (some ⟨g,0,none⟩) (ws.length+1) cap)).heap[w.heap.size+1]? =some (.cells #[.slice (some ⟨g,0,none⟩) (ws.length+1) cap] 37 (0,0)):=za9 g2;have f3:(W'.setCell ⟨w.heap.size+1,0,none⟩ (.slice (some ⟨g,0,none⟩) (ws.length+1) cap)).heap[w.heap.size+2]? =some (.cells #[.bool (decide (([]:Bs)≠ []))] 4 (0,0)):=za7 (by omega) g3;refine⟨ScM.new rfl h.st hk hw (za7 (by omega) (za7 (by omega) g1)) (za7 (by omega) f2) (za9 f3) (zjh (zjh hown g2 (by decide) _) f3 (by decide) _) ((g4.setCell (p:=⟨w.heap.size+1,0,none⟩) (by show w.heap.size≤w.heap.size+1;omega) _).setCell (p:=⟨w.heap.size+2,0,none⟩) (by show w.heap.size≤w.heap.size+2;omega) _),?_,?_,?_⟩
 ·exact(g5.trans (KeepsOthers.setCell _ _ _)).trans (KeepsOthers.setCell _ _ _)
 ·exact KpS.trans (KpS.trans g6 (KpS.set g2 (by decide) (by decide) _ _)) (KpS.set f3 (by decide) (by decide) _ _)
 ·intro b D hb
  have hal:(W.alloc (.cells C 58)).heap[b]? =some (.cells D 115 (0,0)):=by
   rw[((Below.refl _ W).alloc (Nat.le_refl _) (.cells C 58)).block b (Array.getElem?_eq_some_iff.1 hb).1];exact hb
  have hb2:W'.heap[b]? =some (.cells D 115 (0,0)):=by
   rw[hg.block b (Array.getElem?_eq_some_iff.1 hal).1 (fun q=>by
    rcases(World.ownsRow.alloc h.o (.cells C 58)).2 with⟨rfl,-⟩|⟨g',cap',cur,rfl,-,hgb,-⟩
    ·cases q
    ·injection q with q;subst q;rw[hgb]at hal;injection hal with hal;injection hal with _ h5 _;exact absurd h5 (by decide))]
   exact hal
  have n1:b≠w.heap.size+1:=by
   rintro rfl;rw[g2]at hb2;injection hb2 with hb2;injection hb2 with _ h5 _;exact absurd h5 (by decide)
  have n2:b≠w.heap.size+2:=by
   rintro rfl;rw[g3]at hb2;injection hb2 with hb2;injection hb2 with _ h5 _;exact absurd h5 (by decide)
  exact za7 n2 (za7 n1 hb2)
theorem zg8 {s:Bs} {p k:Nat} (hpk:p≤k) (hk:k<s.length) (hl:s.length≤16384):IntKind.i64.wrap ((k:Int)+1)=(k:Int)+1∧p≤k+1∧k+1≤(bsB s).size∧(p:Int)≤(k:Int)+1∧(k:Int)+1≤((bsB s).size:Int)∧(0:Int)≤(k:Int)+1∧((k:Int)+1).toNat=k+1:=by
 have hz:=zbk s;generalize (bsB s).size=z at*;exact⟨IntWalk.i64_in _ (by omega),by omega,by omega,by omega,by omega,by omega,by omega⟩
theorem zgG (s:Bs) (w:World) (hl:s.length≤16384):Calls Tryz.prog 26 #[.string (bsB s)] w (zak s w):=by
 have hsz:(bsB s).size=s.length:=zbk s;have hgt:decide ((16384:Int)<(s.length:Int))=false:=by rw[decide_eq_false_iff_not];omega
 obtain⟨i0,hi,iz0,iz1,iz2⟩:=info_parts (P:=Tryz.prog) zpF;refine(callsIn_wide (n:=6)).1 ?_;refine callsIn_of_wp_marks Tryz.func26 rfl trivial ?_ rfl;refine wpIn_wide.2 ?_;simp only[Tryz.ntmps26,List.size_toArray,List.length_cons,List.length_nil,Nat.reduceAdd,Nat.reduceSub,Array.replicate_succ,Array.replicate_zero,List.push_toArray,List.append_toArray,List.nil_append,List.cons_append];go_wp2_with fail;refine(zgJ (bsB s) _).mono ?_;rintro e w1 ⟨rfl,rfl⟩;go_wp2_with fail;have HSZ:=lhd hsz;clear hsz hgt;obtain⟨W0,hW0⟩:∃X,(((w.alloc (.cells #[.string (bsB s)] 9)).alloc (.cells #[.slice none 0 0] 37)).alloc (.cells #[.bool false] 4)).alloc (.cells #[.string (bsB s)] 9)=X:=⟨_,rfl⟩;have hs0:W0.heap.size=w.heap.size+4:=by rw[←hW0];simp
 have h1:=heap_alloc_new w (.cells #[.string (bsB s)] 9);have b1:Below w.heap.size w (w.alloc (.cells #[.string (bsB s)] 9)):=(Below.refl _ _).alloc (Nat.le_refl _) _;have e1:(w.alloc (.cells #[.string (bsB s)] 9)).heap.size=w.heap.size+1:=by simp
 generalize w.alloc (.cells #[.string (bsB s)] 9)=x1 at*;have h2:=heap_alloc_new x1 (.cells #[.slice none 0 0] 37);have b2:Below x1.heap.size x1 (x1.alloc (.cells #[.slice none 0 0] 37)):=(Below.refl _ _).alloc (Nat.le_refl _) _;have e2:(x1.alloc (.cells #[.slice none 0 0] 37)).heap.size=w.heap.size+2:=by simp[e1]
 generalize x1.alloc (.cells #[.slice none 0 0] 37)=x2 at*;have h3:=heap_alloc_new x2 (.cells #[.bool false] 4);have b3:Below x2.heap.size x2 (x2.alloc (.cells #[.bool false] 4)):=(Below.refl _ _).alloc (Nat.le_refl _) _;have e3:(x2.alloc (.cells #[.bool false] 4)).heap.size=w.heap.size+3:=by simp[e2]
 generalize x2.alloc (.cells #[.bool false] 4)=x3 at*;have h4:=heap_alloc_new x3 (.cells #[.string (bsB s)] 9);have b4:Below x3.heap.size x3 (x3.alloc (.cells #[.string (bsB s)] 9)):=(Below.refl _ _).alloc (Nat.le_refl _) _;rw[hW0]at h4 b4⊢;rw[e1]at h2;rw[e2]at h3;rw[e3]at h4
 have hI0:ScI w s 0 W0 (.slice none 0 0) [] []:=
  ⟨ScSt.start s,za8 (za8 (za8 h1 b2) b3) b4,za8 (za8 h2 b3) b4,za8 h3 b4,World.ownsRow_nil _ _ _ _,zd5 (zd5 (zd5 b1 b2) b3) b4⟩
 clear h1 h2 h3 b1 b2 b3 b4 e1 e2 e3 hW0;refine(wpIn_wide (n:=6)).1 ?_
 refine zkO rfl (by decide) (gf:=115) (lb:=#[.pointer (some ⟨w.heap.size+3,0,none⟩)]) rfl trivial (enters_of Tryz.func115 (by kernel_rfl) rfl)
  (encs:=zng s) (Kp:=KpS) (N:=s.length) (T:=113)
  (fun l J W hW hJ hY h0=>znj (6-1) (by decide) l (w.heap.size+3) W0.heap.size s (by omega) J W hW.size hJ hY (0,0) (za8 h4 hW) h0)
  KpS.trans (fun _ _ h=>KpS.same0 h) (fun _=>rfl)
  (ScJ w s) (fun k W V ⟨vo,ws,cur,h⟩ ht=>⟨vo,ws,cur,h.turn (by omega) ht⟩) ⟨_,_,_,hI0⟩ ?round ?done
 case done=>
  rintro D W hD ⟨vo,ws,cur,h⟩ hK;obtain⟨co,fo⟩:=zby h.bo;have H:=lhd h;have HK:=lhd hK;clear h hK;go_wp2_with fail;refine⟨by simp,.inl ⟨_,_,rfl,run_takeDeferred HK.out,?_⟩⟩;have e:=H.out.st.fin;have el:=H.out.st.l;exact⟨.tuple #[vo,.int .i64 0],by simp[results,Tryz.results26,go_sem],vo,ws,rfl,ownsRow_putObj H.out.o _ HK.out rfl,e,el,H.out.b.trans (belowK_b (w:=W0) (by omega) _ D _ _ hD HK.out rfl rfl)⟩
 case round=>
  intro l k W hlW ⟨vo,ws,cur,h⟩ hk;obtain⟨b1,b2,b3,b4,b5⟩:=zjT (s:=s) (k:=k) (by omega);have hgd:s.getD k 0=s[k]:=by simp[List.getD,hk]
  unfold zng;rw[hgd];obtain⟨c,hc⟩:∃c,s[k]=c:=⟨_,rfl⟩;rw[hc];generalize plc s k=p at b1 b2 b3 b4 b5⊢;obtain⟨po,pl,pc⟩:=p;dsimp only at b1 b2 b3 b4 b5⊢;subst b1;have hal:Below W.heap.size W (W.alloc (.cells #[.int .i64 (k:Int),.int .i64 pl,.int .i64 pc,.int .u8 (c.toNat:Int)] 115)):=(Below.refl _ _).alloc (Nat.le_refl _) _;have HN:=lhd (heap_alloc_new W (.cells #[.int .i64 (k:Int),.int .i64 pl,.int .i64 pc,.int .u8 (c.toNat:Int)] 115));have H1:=lhd (h.turn (Nat.le_refl _) (TurnJ.below (T:=113) h.b.size hal).i);have HKP:=lhd (And.intro ((KeepsOthers.alloc W (.cells #[.int .i64 (k:Int),.int .i64 pl,.int .i64 pc,.int .u8 (c.toNat:Int)] 115)).from W0.heap.size) (KpS.below hal));clear h hal hgd;gi_wp2
  refine⟨HKP.out.1,HKP.out.2,?_⟩;intro W2 hs2 ht2;have H2:=lhd (H1.out.turn (by omega) ht2);have HS:=lhd (hs2.cells _ _ _ _ HN.out);clear hs2 ht2 HKP HN H1;have q0:=(zjf HS.out).cell (j:=0) rfl;have q1:=(zjf HS.out).cell (j:=1) rfl;have q2:=(zjf HS.out).cell (j:=2) rfl;have q3:=(zjf HS.out).cell (j:=3) rfl;obtain⟨ct,-⟩:=zby H2.out.bt;obtain⟨co,fo⟩:=zby H2.out.bo;obtain⟨ci,fi⟩:=zby H2.out.bi;cases hw:isW c
  ·by_cases hcur:cur=[]
   ·subst hcur;rw[show decide (([]:Bs)≠ [])=false by decide]at ci;have hwl:=H2.out.st.l;have hbz:=H2.out.b.size
    gi_wp2_with (first
     |(refine⟨trivial,?_⟩;gi_at_call 61;refine(CallsIn.inRound l (callsIn_wide.2 (zgK c _))).mono ?_;rintro e W3 ⟨rfl,rfl⟩;rw[hw])
     |(gi_at_builtin;refine wpListIn_append_own _ rfl _ _ 37 rfl w.heap.size 58 i0 (.agg #[.string ⟨#[]⟩,.int .i64 0,.int .i64 0,.int .i64 0]) 4 40 Tryz.underlying37 hi iz0 iz1 iz2 rfl (by decide) _ _ _ rfl (World.ownsRow.alloc (by exact H2.out.o) _) ⟨W3.heap.size,0,none⟩ 1 1 [.string ⟨#[]⟩,.int .i64 (k:Int),.int .i64 pl,.int .i64 pc] rfl rfl (World.news_of_block (cs:=#[.string ⟨#[]⟩,.int .i64 (k:Int),.int .i64 pl,.int .i64 pc]) (t:=58) (fr:=(0,0)) (by exact heap_alloc_new _ _)) (by simp[Value.oneCell']) (by unfold maxLen;omega) (by omega) (by simp;omega) ?_;rintro v' W4 hown hgrow-;obtain⟨g,cap,rfl⟩:=ownsRow_succ hown;have HA:=lhd (zg9 H2.out hgrow);obtain⟨⟨co,fo⟩,⟨ci,fi⟩⟩:=And.intro (zby HA.out.2.1) (zby HA.out.2.2.1)))
    have HV:=lhd (zg7 H2.out hk (hc▸hw) hown hgrow);obtain⟨V,hV⟩:∃X,(W4.setCell ⟨w.heap.size+1,0,none⟩ (.slice (some ⟨g,0,none⟩) (ws.length+1) cap)).setCell ⟨w.heap.size+2,0,none⟩ (.bool true)=X:=⟨_,rfl⟩;rw[hV]at HV;show Code.wpIn _ _ _ _ _ _ ((W4.setCell ⟨w.heap.size+1,0,none⟩ (.slice (some ⟨g,0,none⟩) (ws.length+1) cap)).setCell ⟨w.heap.size+2,0,none⟩ (.bool true));rw[hV];obtain⟨p,hm⟩:∃p,ScM w V s k ws.length g cap ws ([],(k:Int),pl,pc) p:=⟨k,HV.out.1⟩;have HM:=lhd hm;clear hm;have HK:=lhd (HV.out.2.1.from (w.heap.size+4));have HP:=lhd HV.out.2.2.1;have HS2:=lhd (HV.out.2.2.2 _ _ HS.out);have q0:=(zjf HS2.out).cell (j:=0) rfl;generalize hn:ws.length=n at*;clear co fo ci fi ct q1 q2 q3 HV HA hown hgrow hV H2;obtain⟨c0,c1,cf⟩:=HM.out.cells;have ctx:=(zby HM.out.bt).1;have hpk:=HM.out.pk;obtain⟨hkw,hs1,hs2,hs3,hs4,hs5,hs6⟩:=zg8 hpk hk hl;have hst:=znr s p (k+1);refine wpIn_mono (Q:=fun e _ W'=>e=.normal∧W'=V.drew.setCell ⟨g,n*4,none⟩ (.string (bsB ((s.take (k+1)).drop p)))) ?_ ?_;rotate_left
    ·rintro e a' W' ⟨rfl,rfl⟩;obtain⟨z1,z2⟩:=HM.out.drew.done hk;gi_wp2
     exact⟨(HK.out.trans (show KeepsFrom (w.heap.size+4) V V.drew from⟨Nat.le_refl _,fun _ _ _ h _=>h⟩)).trans ((KeepsOthers.setCell V.drew ⟨g,n*4,none⟩ (.string (bsB ((s.take (k+1)).drop p)))).from _),KpS.trans HP.out z2,z1⟩
    refine wpIn_region_any (by kernel_rfl) ?_;refine zaH (zh3 (by kernel_rfl)) ?_ _ _ _ _ ?_
    ·rintro⟨a0,w0,h0,-⟩;cases h0
    refine wpAny_of_held (S:=fun w'=>w'.cell? ⟨w.heap.size,0,none⟩=some (.string (bsB s))∧w'.cell? ⟨g,n*4+1,none⟩=some (.int .i64 (p:Int))∧w'.cell? ⟨W.heap.size,0,none⟩=some (.int .i64 (k:Int))) _ _ _ _ ?_;have hHeld:V.drew.cell? ⟨w.heap.size,0,none⟩=some (.string (bsB s))∧V.drew.cell? ⟨g,n*4+1,none⟩=some (.int .i64 (p:Int))∧V.drew.cell? ⟨W.heap.size,0,none⟩=some (.int .i64 (k:Int)):=⟨ctx,c1,q0⟩
    ·have hHeld:V.drew.cell? ⟨w.heap.size,0,none⟩=some (.string (bsB s))∧V.drew.cell? ⟨g,n*4+1,none⟩=some (.int .i64 (p:Int))∧V.drew.cell? ⟨W.heap.size,0,none⟩=some (.int .i64 (k:Int)):=⟨ctx,c1,q0⟩;refine tkH 0 hHeld (v:=?_) ?_;simp only[tkS];refine tkH 1 hHeld (v:=?_) ?_;simp only[tkS];refine tkH 2 hHeld (v:=?_) ?_;simp only[tkS];refine tkH 3 hHeld (v:=?_) ?_;simp only[tkS];refine tkH 4 hHeld (v:=?_) ?_;simp only[tkS];refine tkH 5 hHeld (v:=?_) ?_;simp only[tkS];refine tkH 6 hHeld (v:=?_) ?_;simp only[tkS];refine tkH 7 hHeld (v:=?_) ?_;simp only[tkS];refine tkH 8 hHeld (v:=?_) ?_;simp only[tkS];refine tkH 9 hHeld (v:=?_) ?_;simp only[tkS];refine tkH 10 hHeld (v:=?_) ?_;simp only[tkS];refine tkH 11 hHeld (v:=?_) ?_;simp only[tkS];refine tkH 12 hHeld (v:=?_) ?_;simp only[tkS];refine oneH 13 (fun K hK=>?_);go_simp;have hk9:=HM.out.drew.keep HS2.out q0 (.string (bsB ((s.take (k+1)).drop p)));refine hK.out _ _ hk9 (fun hHeld=>?_);clear hK;try simp only[tkS]
     refine wpAnyH_done (by kernel_rfl) ?_ _;exact⟨rfl,rfl⟩
   ·rw[decide_eq_true hcur]at ci;obtain⟨n,g,cap,ini,x,p,rfl,hm⟩:=H2.out.mid hcur hk (hc▸hw);have HM:=lhd hm;clear hm;have hwn:wrap64 (n:Int)=(n:Int):=IntWalk.wrap64_in _ (by have:=HM.out.nl;omega);gi_wp2_with (refine⟨trivial,?_⟩;gi_at_call 61;refine(CallsIn.inRound l (callsIn_wide.2 (zgK c _))).mono ?_;rintro e W3 ⟨rfl,rfl⟩;rw[hw])
    have HK:=lhd ((KeepsOthers.refl W3).from (w.heap.size+4));have HP:=lhd (KpS.below (Below.refl _ W3));clear co fo ci fi ct q1 q2 q3 H2;have HS2:=HS;rename World=>V
    obtain⟨c0,c1,cf⟩:=HM.out.cells;have ctx:=(zby HM.out.bt).1;have hpk:=HM.out.pk;obtain⟨hkw,hs1,hs2,hs3,hs4,hs5,hs6⟩:=zg8 hpk hk hl;have hst:=znr s p (k+1);refine wpIn_mono (Q:=fun e _ W'=>e=.normal∧W'=V.drew.setCell ⟨g,n*4,none⟩ (.string (bsB ((s.take (k+1)).drop p)))) ?_ ?_;rotate_left
    ·rintro e a' W' ⟨rfl,rfl⟩;obtain⟨z1,z2⟩:=HM.out.drew.done hk;gi_wp2
     exact⟨(HK.out.trans (show KeepsFrom (w.heap.size+4) V V.drew from⟨Nat.le_refl _,fun _ _ _ h _=>h⟩)).trans ((KeepsOthers.setCell V.drew ⟨g,n*4,none⟩ (.string (bsB ((s.take (k+1)).drop p)))).from _),KpS.trans HP.out z2,z1⟩
    refine wpIn_region_any (by kernel_rfl) ?_;refine zaH (zh3 (by kernel_rfl)) ?_ _ _ _ _ ?_
    ·rintro⟨a0,w0,h0,-⟩;cases h0
    refine wpAny_of_held (S:=fun w'=>w'.cell? ⟨w.heap.size,0,none⟩=some (.string (bsB s))∧w'.cell? ⟨g,n*4+1,none⟩=some (.int .i64 (p:Int))∧w'.cell? ⟨W.heap.size,0,none⟩=some (.int .i64 (k:Int))) _ _ _ _ ?_;have hHeld:V.drew.cell? ⟨w.heap.size,0,none⟩=some (.string (bsB s))∧V.drew.cell? ⟨g,n*4+1,none⟩=some (.int .i64 (p:Int))∧V.drew.cell? ⟨W.heap.size,0,none⟩=some (.int .i64 (k:Int)):=⟨ctx,c1,q0⟩
    ·have hHeld:V.drew.cell? ⟨w.heap.size,0,none⟩=some (.string (bsB s))∧V.drew.cell? ⟨g,n*4+1,none⟩=some (.int .i64 (p:Int))∧V.drew.cell? ⟨W.heap.size,0,none⟩=some (.int .i64 (k:Int)):=⟨ctx,c1,q0⟩;refine tkH 0 hHeld (v:=?_) ?_;simp only[tkS];refine tkH 1 hHeld (v:=?_) ?_;simp only[tkS];refine tkH 2 hHeld (v:=?_) ?_;simp only[tkS];refine tkH 3 hHeld (v:=?_) ?_;simp only[tkS];refine tkH 4 hHeld (v:=?_) ?_;simp only[tkS];refine tkH 5 hHeld (v:=?_) ?_;simp only[tkS];refine tkH 6 hHeld (v:=?_) ?_;simp only[tkS];refine tkH 7 hHeld (v:=?_) ?_;simp only[tkS];refine tkH 8 hHeld (v:=?_) ?_;simp only[tkS];refine tkH 9 hHeld (v:=?_) ?_;simp only[tkS];refine tkH 10 hHeld (v:=?_) ?_;simp only[tkS];refine tkH 11 hHeld (v:=?_) ?_;simp only[tkS];refine tkH 12 hHeld (v:=?_) ?_;simp only[tkS];refine oneH 13 (fun K hK=>?_);go_simp;have hk9:=HM.out.drew.keep HS2.out q0 (.string (bsB ((s.take (k+1)).drop p)));refine hK.out _ _ hk9 (fun hHeld=>?_);clear hK;try simp only[tkS]
     refine wpAnyH_done (by kernel_rfl) ?_ _;exact⟨rfl,rfl⟩
  ·gi_wp2_with (refine⟨trivial,?_⟩;gi_at_call 61;refine(CallsIn.inRound l (callsIn_wide.2 (zgK c _))).mono ?_;rintro e W3 ⟨rfl,rfl⟩;rw[hw])
   exact⟨(KeepsOthers.setCell _ _ _).from _,KpS.set H2.out.bi (by decide) (by decide) _ _,H2.out.white hk (hc▸hw)⟩
end Go.Proofs.YtcdekelomkcahaaGreatDoor
