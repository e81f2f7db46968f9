import Derived.Test.YtcdekelomkcahaaGreatDoorZ00
import Derived.Test.YtcdekelomkcahaaGreatDoorZ03
import Derived.Test.YtcdekelomkcahaaGreatDoorZ17
import Derived.Test.YtcdekelomkcahaaGreatDoorZ20
import Derived.Test.YtcdekelomkcahaaGreatDoorZ23
import Derived.Test.YtcdekelomkcahaaGreatDoorZ31
import Derived.Test.YtcdekelomkcahaaGreatDoorZ34
import Derived.Test.YtcdekelomkcahaaGreatDoorZ49
set_option maxRecDepth 100000
set_option maxHeartbeats 16000000
namespace Go.Proofs.YtcdekelomkcahaaGreatDoor
open Go.RowKit Go.Shelf
attribute [local go_sem] Oper.semAt_some
set_option linter.unusedSimpArgs false
structure ScSP (s:Bs) (k:Nat) (ws:List Wd) (cur:Bs):Prop where
 t:∃d,ws.map (·.1)=d++curL cur∧zp1 s=d++wrd (s.drop k) cur
 c:cur≠ []→∃ini x,ws=ini++ [x]∧x.1=cur∧x.2.1=((k-cur.length:Nat):Int)
 e:cur.length≤k∧cur=(s.take k).drop (k-cur.length)
 l:ws.length≤k
 p:ws.Pairwise (fun a b=>a.2.1<b.2.1)∧∀x∈ws,x.2.1<(k:Int)
theorem ScSP.start (s:Bs):ScSP s 0 [] []:=⟨⟨[],rfl,rfl⟩,fun h=>absurd rfl h,⟨Nat.le_refl _,rfl⟩,Nat.le_refl _,.nil,fun _ h=>by cases h⟩
theorem ScSP.white {s:Bs} {k:Nat} {ws:List Wd} {cur:Bs} (h:ScSP s k ws cur) (hk:k<s.length) (hw:isW s[k]=true):ScSP s (k+1) ws []:=by
 obtain⟨d,h1,h2⟩:=h.t;refine⟨⟨d++curL cur,by rw[h1];simp[curL],?_⟩,fun h=>absurd rfl h,⟨Nat.zero_le _,by simp⟩,by have:=h.l;omega,h.p.1,fun x hx=>by have:=h.p.2 x hx;omega⟩;rw[h2,List.drop_eq_getElem_cons hk,wrd,if_pos hw,List.append_assoc];congr 1
 unfold curL;split<;>rfl
theorem ScSP.new {s:Bs} {k:Nat} {ws:List Wd} (h:ScSP s k ws []) (hk:k<s.length) (hw:isW s[k]=false) (p q:Int):ScSP s (k+1) (ws++ [([s[k]],(k:Int),p,q)]) [s[k]]:=by
 obtain⟨d,h1,h2⟩:=h.t
 refine⟨⟨d,?_,?_⟩,fun _=>⟨ws,_,rfl,rfl,?_⟩,⟨by simp,?_⟩,by have:=h.l;simp;omega,List.pairwise_append.2 ⟨h.p.1,List.pairwise_singleton _ _,fun x hx y hy=>by
  obtain rfl:=List.mem_singleton.1 hy;exact h.p.2 x hx⟩,fun x hx=>by
  rcases List.mem_append.1 hx with hx|hx
  ·have:=h.p.2 x hx;omega
  ·obtain rfl:=List.mem_singleton.1 hx;show(k:Int)<_;omega⟩
 ·rw[List.map_append,h1];simp[curL]
 ·rw[h2,List.drop_eq_getElem_cons hk,wrd,if_neg (by rw[hw];simp)];rfl
 ·simp
 ·rw[List.take_succ_eq_append_getElem hk,List.length_singleton,Nat.add_sub_cancel,List.drop_append_of_le_length (by simp;omega),List.drop_of_length_le (by simp;omega)];rfl
theorem ScSP.more {s:Bs} {k:Nat} {ini:List Wd} {x:Wd} {cur:Bs} (h:ScSP s k (ini++ [x]) cur) (hx:x.1=cur) (hc:cur≠ []) (hk:k<s.length) (hw:isW s[k]=false) (ho:x.2.1=((k-cur.length:Nat):Int)):
 ScSP s (k+1) (ini++ [(cur++ [s[k]],x.2)]) (cur++ [s[k]]):=by
 obtain⟨d,h1,h2⟩:=h.t;obtain⟨e1,e2⟩:=h.e
 refine⟨⟨d,?_,?_⟩,fun _=>⟨ini,_,rfl,rfl,?_⟩,⟨by simp;omega,?_⟩,by have:=h.l;simp at this⊢;omega,List.pairwise_append.2 ⟨(List.pairwise_append.1 h.p.1).1,List.pairwise_singleton _ _,fun y hy z hz=>by
  obtain rfl:=List.mem_singleton.1 hz;exact(List.pairwise_append.1 h.p.1).2.2 y hy x (List.mem_singleton.2 rfl)⟩,fun y hy=>by
  rcases List.mem_append.1 hy with hy|hy
  ·have:=h.p.2 y (List.mem_append_left _ hy);omega
  ·obtain rfl:=List.mem_singleton.1 hy;have:=h.p.2 x (by simp);show x.2.1<_;omega⟩
 ·rw[List.map_append,List.map_cons,List.map_nil]at h1⊢;have:curL cur=[cur]:=by unfold curL;rw[if_neg hc]
  rw[this,hx]at h1;have h3:=List.append_inj_left' h1 rfl;rw[h3];unfold curL;rw[if_neg (by simp)]
 ·rw[h2,List.drop_eq_getElem_cons hk,wrd,if_neg (by rw[hw];simp)]
 ·rw[ho];simp
 ·rw[List.take_succ_eq_append_getElem hk,List.length_append,List.length_singleton,show k+1-(cur.length+1)=k-cur.length by omega,List.drop_append_of_le_length (by simp;omega),←e2]
theorem ScSP.fin {s:Bs} {ws:List Wd} {cur:Bs} (h:ScSP s s.length ws cur):ws.map (·.1)=zp1 s:=by
 obtain⟨d,h1,h2⟩:=h.t;rw[h1,h2,List.drop_length,wrd];rfl
theorem ScSP.text {s:Bs} {k:Nat} {ws:List Wd} {cur:Bs} (h:ScSP s k ws cur) (hk:k<s.length):(s.take (k+1)).drop (k-cur.length)=cur++ [s[k]]:=by
 obtain⟨e1,e2⟩:=h.e;rw[List.take_succ_eq_append_getElem hk,List.drop_append_of_le_length (by simp;omega),←e2]
structure ScIP (w:World) (s:Bs) (k:Nat) (W:World) (vo:Value) (ws:List Wd) (cur:Bs):Prop where
 st:ScSP s k ws cur
 bt:W.heap[w.heap.size]? =some (.cells #[.string (bsB s)] 9 (0,0))
 bo:W.heap[w.heap.size+1]? =some (.cells #[vo] 37 (0,0))
 bi:W.heap[w.heap.size+2]? =some (.cells #[.bool (decide (cur≠ []))] 4 (0,0))
 o:W.ownsRow w.heap.size 58 4 vo ws.length (wds ws)
 b:Below w.heap.size w W
def ScJP (w:World) (s:Bs) (k:Nat) (W:World):Prop:=∃vo ws cur,ScIP w s k W vo ws cur
theorem ScIP.turn {w W V:World} {s:Bs} {k Bt:Nat} {vo:Value} {ws:List Wd} {cur:Bs} (h:ScIP w s k W vo ws cur) (hB:w.heap.size≤Bt) (ht:TurnI Bt 113 W V):ScIP w s k V vo ws cur:=
 ⟨h.st,ht.cells _ _ _ _ (by decide) h.bt,ht.cells _ _ _ _ (by decide) h.bo,ht.cells _ _ _ _ (by decide) h.bi,zjw h.o (by decide) ht,za5 h.b hB ht⟩
def zqV (s:Bs) (w:World) (e:Ending) (w':World):Prop:=
 ∃v ws,e=.returned (.tuple #[v,.int .i64 0])∧w'.ownsRow w.heap.size 58 4 v ws.length (wds ws)∧ws.map (·.1)=zp1 s∧ws.length≤s.length∧ws.Pairwise (fun a b=>a.2.1<b.2.1)∧Below w.heap.size w w'
theorem zq0 {w W:World} {s:Bs} {k:Nat} {vo:Value} {ws:List Wd} {cur:Bs} (h:ScIP w s k W vo ws cur):W.cell? ⟨w.heap.size,0,none⟩=some (.string (bsB s)):=by simp[World.cell?,h.bt]
theorem ScIP.white {w W:World} {s:Bs} {k:Nat} {vo:Value} {ws:List Wd} {cur:Bs} (h:ScIP w s k W vo ws cur) (hk:k<s.length) (hw:isW s[k]=true):ScJP w s (k+1) (W.setCell ⟨w.heap.size+2,0,none⟩ (.bool false)):=
 ⟨vo,ws,[],h.st.white hk hw,za7 (by omega) h.bt,za7 (by omega) h.bo,za9 h.bi,zjh h.o h.bi (by decide) _,h.b.setCell (p:=⟨w.heap.size+2,0,none⟩) (by show w.heap.size≤w.heap.size+2;omega) _⟩
theorem zq1 {w W W':World} {s:Bs} {k:Nat} {vo:Value} {ws:List Wd} {cur:Bs} {C:Array Value} (h:ScIP w s k W vo ws cur) (hg:(W.alloc (.cells C 58)).grownBy W' vo.ownBlock):
 W'.heap[w.heap.size]? =some (.cells #[.string (bsB s)] 9 (0,0))∧W'.heap[w.heap.size+1]? =some (.cells #[vo] 37 (0,0))∧W'.heap[w.heap.size+2]? =some (.cells #[.bool (decide (cur≠ []))] 4 (0,0))∧
 Below w.heap.size w W'∧KeepsOthers W W'∧KpS W W':=by
 have hal:Below W.heap.size W (W.alloc (.cells C 58)):=(Below.refl _ _).alloc (Nat.le_refl _) _;have ho2:=World.ownsRow.alloc h.o (.cells C 58);have b1:Boxed W w.heap.size 9 (.string (bsB s)):=h.bt;have b2:Boxed W (w.heap.size+1) 37 vo:=h.bo;have b3:Boxed W (w.heap.size+2) 4 (.bool (decide (cur≠ []))):=h.bi;refine⟨(b1.alloc _).kept hg (b1.not_row (by decide) h.o),(b2.alloc _).kept hg (b2.not_row (by decide) h.o),(b3.alloc _).kept hg (b3.not_row (by decide) h.o),?_,?_,KpS.trans (KpS.below hal) (KpS.grown ho2 (by decide) (by decide) hg)⟩
 ·exact(h.b.alloc h.b.size _).grown hg (by have:=h.b.size;simp;omega) (fun j ej=>(h.o.lt j ej).1)
 ·refine(KeepsOthers.alloc W _).trans (KeepsOthers.of_grownBy hg fun j o ej hj=>?_);rcases ho2.2 with⟨rfl,_⟩|⟨g,cap,cur,rfl,_,hgb,_⟩
  ·simp[Value.ownBlock]at ej
  ·obtain rfl:g=j:=by simpa[Value.ownBlock] using ej
   rw[hgb]at hj;cases hj;rfl
structure ScMP (w W:World) (s:Bs) (k n g cap:Nat) (ini:List Wd) (x:Wd) (p:Nat):Prop where
 nx:ini.length=n
 bt:W.heap[w.heap.size]? =some (.cells #[.string (bsB s)] 9 (0,0))
 bo:W.heap[w.heap.size+1]? =some (.cells #[.slice (some ⟨g,0,none⟩) (n+1) cap] 37 (0,0))
 bi:W.heap[w.heap.size+2]? =some (.cells #[.bool true] 4 (0,0))
 o:W.ownsRow w.heap.size 58 4 (.slice (some ⟨g,0,none⟩) (n+1) cap) (n+1) (wds (ini++ [x]))
 b:Below w.heap.size w W
 po:x.2.1=(p:Int)
 pk:p≤k
 st:ScSP s (k+1) (ini++ [((s.take (k+1)).drop p,x.2)]) ((s.take (k+1)).drop p)
 nl:n+1≤s.length
theorem ScIP.mid {w W:World} {s:Bs} {k:Nat} {vo:Value} {ws:List Wd} {cur:Bs} (h:ScIP w s k W vo ws cur) (hc:cur≠ []) (hk:k<s.length) (hw:isW s[k]=false):
 ∃n g cap ini x p,vo=.slice (some ⟨g,0,none⟩) (n+1) cap∧ScMP w W s k n g cap ini x p:=by
 obtain⟨ini,x,rfl,hx,ho⟩:=h.st.c hc;have h5:=h.o;have h6:=h.st.l;rw[show(ini++ [x]).length=ini.length+1 by simp]at h5 h6;obtain⟨g,cap,rfl⟩:=ownsRow_succ h5;refine⟨ini.length,g,cap,ini,x,k-cur.length,rfl,rfl,h.bt,h.bo,?_,h5,h.b,ho,by omega,?_,by omega⟩
 ·have:=h.bi;rwa [decide_eq_true hc]at this
 ·rw[h.st.text hk];exact h.st.more hx hc hk hw ho
theorem ScMP.new {w W:World} {s:Bs} {k n g cap:Nat} {ws:List Wd} {q1 q2:Int} (hn:ws.length=n) (h:ScSP s k ws []) (hk:k<s.length) (hw:isW s[k]=false)
 (bt:W.heap[w.heap.size]? =some (.cells #[.string (bsB s)] 9 (0,0)))
 (bo:W.heap[w.heap.size+1]? =some (.cells #[.slice (some ⟨g,0,none⟩) (n+1) cap] 37 (0,0)))
 (bi:W.heap[w.heap.size+2]? =some (.cells #[.bool true] 4 (0,0)))
 (o:W.ownsRow w.heap.size 58 4 (.slice (some ⟨g,0,none⟩) (n+1) cap) (n+1) (wds ws++ [.string ⟨#[]⟩,.int .i64 (k:Int),.int .i64 q1,.int .i64 q2]))
 (b:Below w.heap.size w W):ScMP w W s k n g cap ws ([],(k:Int),q1,q2) k:=by
 have e:(s.take (k+1)).drop k=[s[k]]:=by
  have:=h.text hk;simpa using this
 refine⟨hn,bt,bo,bi,?_,b,rfl,Nat.le_refl _,?_,by have:=h.l;omega⟩
 ·rw[zpS];exact o
 ·rw[e];exact h.new hk hw q1 q2
theorem ScMP.done {w W:World} {s:Bs} {k n g cap:Nat} {ini:List Wd} {x:Wd} {p:Nat} (h:ScMP w W s k n g cap ini x p) (hk:k<s.length):
 ScJP w s (k+1) (W.setCell ⟨g,n*4,none⟩ (.string (bsB ((s.take (k+1)).drop p))))∧KpS W (W.setCell ⟨g,n*4,none⟩ (.string (bsB ((s.take (k+1)).drop p)))):=by
 obtain⟨hnx,bt,bo,bi,o,b,po,pk,st,nl⟩:=h;have hg:=o.lt g rfl
 obtain⟨C,hC⟩:∃C,W.heap[g]? =some (.cells C 58 (0,0)):=by
  rcases o.2 with⟨h0,-⟩|⟨g',cap',cur,h0,-,hgb,-⟩
  ·cases h0
  ·injection h0 with h0 _ _;injection h0 with h0;injection h0 with h0 _ _;subst h0;exact⟨cur,hgb⟩
 have hne:∀(i:Nat) (D:Array Value) (T:TypeId) (fr:Nat×Nat),W.heap[i]? =some (.cells D T fr)→T≠58→i≠g:=by
  rintro i D T fr hi hT rfl;rw[hC]at hi;injection hi with hi;injection hi with _ hi _;exact hT hi.symm
 refine⟨⟨_,_,_,st,za7 (hne _ _ _ _ bt (by decide)) bt,za7 (hne _ _ _ _ bo (by decide)) bo,?_,?_,b.setCell (p:=⟨g,n*4,none⟩) hg.1 _⟩,KpS.set hC (by decide) (by decide) _ _⟩
 ·rw[show decide ((s.take (k+1)).drop p≠ [])=true from decide_eq_true (fun e=>by have:=congrArg List.length e;simp at this;omega)];exact za7 (hne _ _ _ _ bi (by decide)) bi
 ·have h2:=zjr o (n*4) (.string (bsB ((s.take (k+1)).drop p)));rw[show(ini++ [((s.take (k+1)).drop p,x.2)]).length=n+1 by simp[hnx]]
  have e:(wds (ini++ [x])).set (n*4) (.string (bsB ((s.take (k+1)).drop p)))=wds (ini++ [((s.take (k+1)).drop p,x.2)]):=by
   rw[zpS,zpS,List.set_append_right _ _ (by rw[zpQ];omega),zpQ,show n*4-4*ini.length=0 by omega];rfl
  rwa [e]at h2
theorem ScMP.cells {w W:World} {s:Bs} {k n g cap:Nat} {ini:List Wd} {x:Wd} {p:Nat} (h:ScMP w W s k n g cap ini x p):
 W.cell? ⟨g,n*4,none⟩=some (.string (bsB x.1))∧W.cell? ⟨g,n*4+1,none⟩=some (.int .i64 (p:Int))∧W.frozen? ⟨g,n*4,none⟩=false:=by
 have hnx:=h.nx;obtain⟨h0,h1,-,-⟩:=zpL (ini++ [x]) n (by simp[hnx]);have e:(ini++ [x])[n]'(by simp[hnx])=x:=by simp[←hnx]
 rw[e]at h0 h1;rw[h.po,Nat.mul_comm]at h1;rw[Nat.mul_comm]at h0;exact⟨(h.o.cellAt _ (by omega)).trans h0,(h.o.cellAt _ (by omega)).trans h1,h.o.frozenAt _⟩
theorem ScMP.keep {w V:World} {s:Bs} {k n g cap b:Nat} {ini:List Wd} {x:Wd} {p:Nat} {D:Array Value} {q:Value} (h:ScMP w V s k n g cap ini x p) (hb:V.heap[b]? =some (.cells D 115 (0,0))) (hq:V.cell? ⟨b,0,none⟩=some q) (u:Value):
 (V.setCell ⟨g,n*4,none⟩ u).cell? ⟨w.heap.size,0,none⟩=some (.string (bsB s))∧(V.setCell ⟨g,n*4,none⟩ u).cell? ⟨g,n*4+1,none⟩=some (.int .i64 (p:Int))∧(V.setCell ⟨g,n*4,none⟩ u).cell? ⟨b,0,none⟩=some q:=by
 have hne:∀(i:Nat) (D:Array Value) (T:TypeId) (fr:Nat×Nat),V.heap[i]? =some (.cells D T fr)→T≠58→g≠i:=by
  rintro i D T fr hi hT rfl;rcases h.o.2 with⟨h0,-⟩|⟨g',cap',cur,h0,-,hgb,-⟩
  ·cases h0
  ·injection h0 with h0 _ _;injection h0 with h0;injection h0 with h0 _ _;subst h0;rw[hgb]at hi;injection hi with hi;injection hi with _ hi _;exact hT hi.symm
 refine⟨?_,?_,?_⟩
 ·rw[World.cell?_setCell_other (h:=fun e=>by injection e with e _ _;exact hne _ _ _ _ h.bt (by decide) e)];exact(zby h.bt).1
 ·rw[World.cell?_setCell_other (h:=fun e=>by injection e with _ e _;omega)];exact h.cells.2.1
 ·rw[World.cell?_setCell_other (h:=fun e=>by injection e with e _ _;exact hne _ _ _ _ hb (by decide) e)];exact hq
theorem ScMP.drew {w W:World} {s:Bs} {k n g cap:Nat} {ini:List Wd} {x:Wd} {p:Nat} (h:ScMP w W s k n g cap ini x p):ScMP w W.drew s k n g cap ini x p:=
 ⟨h.nx,h.bt,h.bo,h.bi,h.o,h.b.drew,h.po,h.pk,h.st,h.nl⟩
theorem zqZ {w W W':World} {s:Bs} {k g cap:Nat} {vo:Value} {ws:List Wd} {C:Array Value} {q1 q2:Int} (h:ScIP w s k W vo ws []) (hk:k<s.length) (hw:isW s[k]=false)
 (hown:W'.ownsRow w.heap.size 58 4 (.slice (some ⟨g,0,none⟩) (ws.length+1) cap) (ws.length+1) (wds ws++ [.string ⟨#[]⟩,.int .i64 (k:Int),.int .i64 q1,.int .i64 q2])) (hg:(W.alloc (.cells C 58)).grownBy W' vo.ownBlock):
 ScMP w ((W'.setCell ⟨w.heap.size+1,0,none⟩ (.slice (some ⟨g,0,none⟩) (ws.length+1) cap)).setCell ⟨w.heap.size+2,0,none⟩ (.bool true)) s k ws.length g cap ws ([],(k:Int),q1,q2) k∧
 KeepsOthers W ((W'.setCell ⟨w.heap.size+1,0,none⟩ (.slice (some ⟨g,0,none⟩) (ws.length+1) cap)).setCell ⟨w.heap.size+2,0,none⟩ (.bool true))∧
 KpS W ((W'.setCell ⟨w.heap.size+1,0,none⟩ (.slice (some ⟨g,0,none⟩) (ws.length+1) cap)).setCell ⟨w.heap.size+2,0,none⟩ (.bool true))∧
 (∀(b:Nat) (D:Array Value),W.heap[b]? =some (.cells D 115 (0,0))→((W'.setCell ⟨w.heap.size+1,0,none⟩ (.slice (some ⟨g,0,none⟩) (ws.length+1) cap)).setCell ⟨w.heap.size+2,0,none⟩ (.bool true)).heap[b]? =some (.cells D 115 (0,0))):=by
 obtain⟨g1,g2,g3,g4,g5,g6⟩:=zq1 h hg;have f2:(W'.setCell ⟨w.heap.size+1,0,none⟩ (.slice (some ⟨g,0,none⟩) (ws.length+1) cap)).heap[w.heap.size+1]? =some (.cells #[.slice (some ⟨g,0,none⟩) (ws.length+1) cap] 37 (0,0)):=za9 g2;have f3:(W'.setCell ⟨w.heap.size+1,0,none⟩ (.slice (some ⟨g,0,none⟩) (ws.length+1) cap)).heap[w.heap.size+2]? =some (.cells #[.bool (decide (([]:Bs)≠ []))] 4 (0,0)):=za7 (by omega) g3;refine⟨ScMP.new rfl h.st hk hw (za7 (by omega) (za7 (by omega) g1)) (za7 (by omega) f2) (za9 f3) (zjh (zjh hown g2 (by decide) _) f3 (by decide) _) ((g4.setCell (p:=⟨w.heap.size+1,0,none⟩) (by show w.heap.size≤w.heap.size+1;omega) _).setCell (p:=⟨w.heap.size+2,0,none⟩) (by show w.heap.size≤w.heap.size+2;omega) _),?_,?_,?_⟩
 ·exact(g5.trans (KeepsOthers.setCell _ _ _)).trans (KeepsOthers.setCell _ _ _)
 ·exact KpS.trans (KpS.trans g6 (KpS.set g2 (by decide) (by decide) _ _)) (KpS.set f3 (by decide) (by decide) _ _)
 ·intro b D hb
  have hal:(W.alloc (.cells C 58)).heap[b]? =some (.cells D 115 (0,0)):=by
   rw[((Below.refl _ W).alloc (Nat.le_refl _) (.cells C 58)).block b (Array.getElem?_eq_some_iff.1 hb).1];exact hb
  have hb2:W'.heap[b]? =some (.cells D 115 (0,0)):=by
   rw[hg.block b (Array.getElem?_eq_some_iff.1 hal).1 (fun q=>by
    rcases(World.ownsRow.alloc h.o (.cells C 58)).2 with⟨rfl,-⟩|⟨g',cap',cur,rfl,-,hgb,-⟩
    ·cases q
    ·injection q with q;subst q;rw[hgb]at hal;injection hal with hal;injection hal with _ h5 _;exact absurd h5 (by decide))]
   exact hal
  have n1:b≠w.heap.size+1:=by
   rintro rfl;rw[g2]at hb2;injection hb2 with hb2;injection hb2 with _ h5 _;exact absurd h5 (by decide)
  have n2:b≠w.heap.size+2:=by
   rintro rfl;rw[g3]at hb2;injection hb2 with hb2;injection hb2 with _ h5 _;exact absurd h5 (by decide)
  exact za7 n2 (za7 n1 hb2)
theorem zqY (s:Bs) (w:World) (hl:s.length≤16384):Calls Tryz.prog 26 #[.string (bsB s)] w (zqV s w):=by
 have hsz:(bsB s).size=s.length:=zbk s;have hgt:decide ((16384:Int)<(s.length:Int))=false:=by rw[decide_eq_false_iff_not];omega
 obtain⟨i0,hi,iz0,iz1,iz2⟩:=info_parts (P:=Tryz.prog) zpF;refine(callsIn_wide (n:=6)).1 ?_;refine callsIn_of_wp_marks Tryz.func26 rfl trivial ?_ rfl;refine wpIn_wide.2 ?_;simp only[Tryz.ntmps26,List.size_toArray,List.length_cons,List.length_nil,Nat.reduceAdd,Nat.reduceSub,Array.replicate_succ,Array.replicate_zero,List.push_toArray,List.append_toArray,List.nil_append,List.cons_append];go_wp2_with fail;refine(zgJ (bsB s) _).mono ?_;rintro e w1 ⟨rfl,rfl⟩;go_wp2_with fail;have HSZ:=lhd hsz;clear hsz hgt;obtain⟨W0,hW0⟩:∃X,(((w.alloc (.cells #[.string (bsB s)] 9)).alloc (.cells #[.slice none 0 0] 37)).alloc (.cells #[.bool false] 4)).alloc (.cells #[.string (bsB s)] 9)=X:=⟨_,rfl⟩;have hs0:W0.heap.size=w.heap.size+4:=by rw[←hW0];simp
 have h1:=heap_alloc_new w (.cells #[.string (bsB s)] 9);have b1:Below w.heap.size w (w.alloc (.cells #[.string (bsB s)] 9)):=(Below.refl _ _).alloc (Nat.le_refl _) _;have e1:(w.alloc (.cells #[.string (bsB s)] 9)).heap.size=w.heap.size+1:=by simp
 generalize w.alloc (.cells #[.string (bsB s)] 9)=x1 at*;have h2:=heap_alloc_new x1 (.cells #[.slice none 0 0] 37);have b2:Below x1.heap.size x1 (x1.alloc (.cells #[.slice none 0 0] 37)):=(Below.refl _ _).alloc (Nat.le_refl _) _;have e2:(x1.alloc (.cells #[.slice none 0 0] 37)).heap.size=w.heap.size+2:=by simp[e1]
 generalize x1.alloc (.cells #[.slice none 0 0] 37)=x2 at*;have h3:=heap_alloc_new x2 (.cells #[.bool false] 4);have b3:Below x2.heap.size x2 (x2.alloc (.cells #[.bool false] 4)):=(Below.refl _ _).alloc (Nat.le_refl _) _;have e3:(x2.alloc (.cells #[.bool false] 4)).heap.size=w.heap.size+3:=by simp[e2]
 generalize x2.alloc (.cells #[.bool false] 4)=x3 at*;have h4:=heap_alloc_new x3 (.cells #[.string (bsB s)] 9);have b4:Below x3.heap.size x3 (x3.alloc (.cells #[.string (bsB s)] 9)):=(Below.refl _ _).alloc (Nat.le_refl _) _;rw[hW0]at h4 b4⊢;rw[e1]at h2;rw[e2]at h3;rw[e3]at h4
 have hI0:ScIP w s 0 W0 (.slice none 0 0) [] []:=
  ⟨ScSP.start s,za8 (za8 (za8 h1 b2) b3) b4,za8 (za8 h2 b3) b4,za8 h3 b4,World.ownsRow_nil _ _ _ _,zd5 (zd5 (zd5 b1 b2) b3) b4⟩
 clear h1 h2 h3 b1 b2 b3 b4 e1 e2 e3 hW0;refine(wpIn_wide (n:=6)).1 ?_
 refine zkO rfl (by decide) (gf:=115) (lb:=#[.pointer (some ⟨w.heap.size+3,0,none⟩)]) rfl trivial (enters_of Tryz.func115 (by kernel_rfl) rfl)
  (encs:=zng s) (Kp:=KpS) (N:=s.length) (T:=113)
  (fun l J W hW hJ hY h0=>znj (6-1) (by decide) l (w.heap.size+3) W0.heap.size s (by omega) J W hW.size hJ hY (0,0) (za8 h4 hW) h0)
  KpS.trans (fun _ _ h=>KpS.same0 h) (fun _=>rfl)
  (ScJP w s) (fun k W V ⟨vo,ws,cur,h⟩ ht=>⟨vo,ws,cur,h.turn (by omega) ht⟩) ⟨_,_,_,hI0⟩ ?round ?done
 case done=>
  rintro D W hD ⟨vo,ws,cur,h⟩ hK;obtain⟨co,fo⟩:=zby h.bo;have H:=lhd h;have HK:=lhd hK;clear h hK;go_wp2_with fail;refine⟨by simp,.inl ⟨_,_,rfl,run_takeDeferred HK.out,?_⟩⟩;have e:=H.out.st.fin;have el:=H.out.st.l;exact⟨.tuple #[vo,.int .i64 0],by simp[results,Tryz.results26,go_sem],vo,ws,rfl,ownsRow_putObj H.out.o _ HK.out rfl,e,el,H.out.st.p.1,H.out.b.trans (belowK_b (w:=W0) (by omega) _ D _ _ hD HK.out rfl rfl)⟩
 case round=>
  intro l k W hlW ⟨vo,ws,cur,h⟩ hk;obtain⟨b1,b2,b3,b4,b5⟩:=zjT (s:=s) (k:=k) (by omega);have hgd:s.getD k 0=s[k]:=by simp[List.getD,hk]
  unfold zng;rw[hgd];obtain⟨c,hc⟩:∃c,s[k]=c:=⟨_,rfl⟩;rw[hc];generalize plc s k=p at b1 b2 b3 b4 b5⊢;obtain⟨po,pl,pc⟩:=p;dsimp only at b1 b2 b3 b4 b5⊢;subst b1;have hal:Below W.heap.size W (W.alloc (.cells #[.int .i64 (k:Int),.int .i64 pl,.int .i64 pc,.int .u8 (c.toNat:Int)] 115)):=(Below.refl _ _).alloc (Nat.le_refl _) _;have HN:=lhd (heap_alloc_new W (.cells #[.int .i64 (k:Int),.int .i64 pl,.int .i64 pc,.int .u8 (c.toNat:Int)] 115));have H1:=lhd (h.turn (Nat.le_refl _) (TurnJ.below (T:=113) h.b.size hal).i);have HKP:=lhd (And.intro ((KeepsOthers.alloc W (.cells #[.int .i64 (k:Int),.int .i64 pl,.int .i64 pc,.int .u8 (c.toNat:Int)] 115)).from W0.heap.size) (KpS.below hal));clear h hal hgd;gi_wp2
  refine⟨HKP.out.1,HKP.out.2,?_⟩;intro W2 hs2 ht2;have H2:=lhd (H1.out.turn (by omega) ht2);have HS:=lhd (hs2.cells _ _ _ _ HN.out);clear hs2 ht2 HKP HN H1;have q0:=(zjf HS.out).cell (j:=0) rfl;have q1:=(zjf HS.out).cell (j:=1) rfl;have q2:=(zjf HS.out).cell (j:=2) rfl;have q3:=(zjf HS.out).cell (j:=3) rfl;obtain⟨ct,-⟩:=zby H2.out.bt;obtain⟨co,fo⟩:=zby H2.out.bo;obtain⟨ci,fi⟩:=zby H2.out.bi;cases hw:isW c
  ·by_cases hcur:cur=[]
   ·subst hcur;rw[show decide (([]:Bs)≠ [])=false by decide]at ci;have hwl:=H2.out.st.l;have hbz:=H2.out.b.size
    gi_wp2_with (first
     |(refine⟨trivial,?_⟩;gi_at_call 61;refine(CallsIn.inRound l (callsIn_wide.2 (zgK c _))).mono ?_;rintro e W3 ⟨rfl,rfl⟩;rw[hw])
     |(gi_at_builtin;refine wpListIn_append_own _ rfl _ _ 37 rfl w.heap.size 58 i0 (.agg #[.string ⟨#[]⟩,.int .i64 0,.int .i64 0,.int .i64 0]) 4 40 Tryz.underlying37 hi iz0 iz1 iz2 rfl (by decide) _ _ _ rfl (World.ownsRow.alloc (by exact H2.out.o) _) ⟨W3.heap.size,0,none⟩ 1 1 [.string ⟨#[]⟩,.int .i64 (k:Int),.int .i64 pl,.int .i64 pc] rfl rfl (World.news_of_block (cs:=#[.string ⟨#[]⟩,.int .i64 (k:Int),.int .i64 pl,.int .i64 pc]) (t:=58) (fr:=(0,0)) (by exact heap_alloc_new _ _)) (by simp[Value.oneCell']) (by unfold maxLen;omega) (by omega) (by simp;omega) ?_;rintro v' W4 hown hgrow-;obtain⟨g,cap,rfl⟩:=ownsRow_succ hown;have HA:=lhd (zq1 H2.out hgrow);obtain⟨⟨co,fo⟩,⟨ci,fi⟩⟩:=And.intro (zby HA.out.2.1) (zby HA.out.2.2.1)))
    have HV:=lhd (zqZ H2.out hk (hc▸hw) hown hgrow);obtain⟨V,hV⟩:∃X,(W4.setCell ⟨w.heap.size+1,0,none⟩ (.slice (some ⟨g,0,none⟩) (ws.length+1) cap)).setCell ⟨w.heap.size+2,0,none⟩ (.bool true)=X:=⟨_,rfl⟩;rw[hV]at HV;show Code.wpIn _ _ _ _ _ _ ((W4.setCell ⟨w.heap.size+1,0,none⟩ (.slice (some ⟨g,0,none⟩) (ws.length+1) cap)).setCell ⟨w.heap.size+2,0,none⟩ (.bool true));rw[hV];obtain⟨p,hm⟩:∃p,ScMP w V s k ws.length g cap ws ([],(k:Int),pl,pc) p:=⟨k,HV.out.1⟩;have HM:=lhd hm;clear hm;have HK:=lhd (HV.out.2.1.from (w.heap.size+4));have HP:=lhd HV.out.2.2.1;have HS2:=lhd (HV.out.2.2.2 _ _ HS.out);have q0:=(zjf HS2.out).cell (j:=0) rfl;generalize hn:ws.length=n at*;clear co fo ci fi ct q1 q2 q3 HV HA hown hgrow hV H2;obtain⟨c0,c1,cf⟩:=HM.out.cells;have ctx:=(zby HM.out.bt).1;have hpk:=HM.out.pk;obtain⟨hkw,hs1,hs2,hs3,hs4,hs5,hs6⟩:=zg8 hpk hk hl;have hst:=znr s p (k+1);refine wpIn_mono (Q:=fun e _ W'=>e=.normal∧W'=V.drew.setCell ⟨g,n*4,none⟩ (.string (bsB ((s.take (k+1)).drop p)))) ?_ ?_;rotate_left
    ·rintro e a' W' ⟨rfl,rfl⟩;obtain⟨z1,z2⟩:=HM.out.drew.done hk;gi_wp2
     exact⟨(HK.out.trans (show KeepsFrom (w.heap.size+4) V V.drew from⟨Nat.le_refl _,fun _ _ _ h _=>h⟩)).trans ((KeepsOthers.setCell V.drew ⟨g,n*4,none⟩ (.string (bsB ((s.take (k+1)).drop p)))).from _),KpS.trans HP.out z2,z1⟩
    refine wpIn_region_any (by kernel_rfl) ?_;refine zaH (zh3 (by kernel_rfl)) ?_ _ _ _ _ ?_
    ·rintro⟨a0,w0,h0,-⟩;cases h0
    refine wpAny_of_held (S:=fun w'=>w'.cell? ⟨w.heap.size,0,none⟩=some (.string (bsB s))∧w'.cell? ⟨g,n*4+1,none⟩=some (.int .i64 (p:Int))∧w'.cell? ⟨W.heap.size,0,none⟩=some (.int .i64 (k:Int))) _ _ _ _ ?_;have hHeld:V.drew.cell? ⟨w.heap.size,0,none⟩=some (.string (bsB s))∧V.drew.cell? ⟨g,n*4+1,none⟩=some (.int .i64 (p:Int))∧V.drew.cell? ⟨W.heap.size,0,none⟩=some (.int .i64 (k:Int)):=⟨ctx,c1,q0⟩
    ·have hHeld:V.drew.cell? ⟨w.heap.size,0,none⟩=some (.string (bsB s))∧V.drew.cell? ⟨g,n*4+1,none⟩=some (.int .i64 (p:Int))∧V.drew.cell? ⟨W.heap.size,0,none⟩=some (.int .i64 (k:Int)):=⟨ctx,c1,q0⟩;refine tkH 0 hHeld (v:=?_) ?_ ?_;rotate_left
     ·intro w h;(try dsimp only at h);go_simp;all_goals with_reducible rfl
     simp only[tkS];refine tkH 1 hHeld (v:=?_) ?_ ?_;rotate_left
     ·intro w h;(try dsimp only at h);go_simp;all_goals with_reducible rfl
     simp only[tkS];refine tkH 2 hHeld (v:=?_) ?_ ?_;rotate_left
     ·intro w h;(try dsimp only at h);go_simp;all_goals with_reducible rfl
     simp only[tkS];refine tkH 3 hHeld (v:=?_) ?_ ?_;rotate_left
     ·intro w h;(try dsimp only at h);go_simp;all_goals with_reducible rfl
     simp only[tkS];refine tkH 4 hHeld (v:=?_) ?_ ?_;rotate_left
     ·intro w h;(try dsimp only at h);go_simp;all_goals with_reducible rfl
     simp only[tkS];refine tkH 5 hHeld (v:=?_) ?_ ?_;rotate_left
     ·intro w h;(try dsimp only at h);go_simp;all_goals with_reducible rfl
     simp only[tkS];refine tkH 6 hHeld (v:=?_) ?_ ?_;rotate_left
     ·intro w h;(try dsimp only at h);go_simp;all_goals with_reducible rfl
     simp only[tkS];refine tkH 7 hHeld (v:=?_) ?_ ?_;rotate_left
     ·intro w h;(try dsimp only at h);go_simp;all_goals with_reducible rfl
     simp only[tkS];refine tkH 8 hHeld (v:=?_) ?_ ?_;rotate_left
     ·intro w h;(try dsimp only at h);go_simp;all_goals with_reducible rfl
     simp only[tkS];refine tkH 9 hHeld (v:=?_) ?_ ?_;rotate_left
     ·intro w h;(try dsimp only at h);go_simp;all_goals with_reducible rfl
     simp only[tkS];refine tkH 10 hHeld (v:=?_) ?_ ?_;rotate_left
     ·intro w h;(try dsimp only at h);go_simp;all_goals with_reducible rfl
     simp only[tkS];refine tkH 11 hHeld (v:=?_) ?_ ?_;rotate_left
     ·intro w h;(try dsimp only at h);go_simp;all_goals with_reducible rfl
     simp only[tkS];refine tkH 12 hHeld (v:=?_) ?_ ?_;rotate_left
     ·intro w h;(try dsimp only at h);go_simp;all_goals with_reducible rfl
     simp only[tkS];refine oneH 13 (fun K hK=>?_);go_simp;have hk9:=HM.out.drew.keep HS2.out q0 (.string (bsB ((s.take (k+1)).drop p)));refine hK.out _ _ hk9 (fun hHeld=>?_);clear hK;try simp only[tkS]
     refine wpAnyH_done (by kernel_rfl) ?_ _;exact⟨rfl,rfl⟩
   ·rw[decide_eq_true hcur]at ci;obtain⟨n,g,cap,ini,x,p,rfl,hm⟩:=H2.out.mid hcur hk (hc▸hw);have HM:=lhd hm;clear hm;have hwn:wrap64 (n:Int)=(n:Int):=IntWalk.wrap64_in _ (by have:=HM.out.nl;omega);gi_wp2_with (refine⟨trivial,?_⟩;gi_at_call 61;refine(CallsIn.inRound l (callsIn_wide.2 (zgK c _))).mono ?_;rintro e W3 ⟨rfl,rfl⟩;rw[hw])
    have HK:=lhd ((KeepsOthers.refl W3).from (w.heap.size+4));have HP:=lhd (KpS.below (Below.refl _ W3));clear co fo ci fi ct q1 q2 q3 H2;have HS2:=HS;rename World=>V
    obtain⟨c0,c1,cf⟩:=HM.out.cells;have ctx:=(zby HM.out.bt).1;have hpk:=HM.out.pk;obtain⟨hkw,hs1,hs2,hs3,hs4,hs5,hs6⟩:=zg8 hpk hk hl;have hst:=znr s p (k+1);refine wpIn_mono (Q:=fun e _ W'=>e=.normal∧W'=V.drew.setCell ⟨g,n*4,none⟩ (.string (bsB ((s.take (k+1)).drop p)))) ?_ ?_;rotate_left
    ·rintro e a' W' ⟨rfl,rfl⟩;obtain⟨z1,z2⟩:=HM.out.drew.done hk;gi_wp2
     exact⟨(HK.out.trans (show KeepsFrom (w.heap.size+4) V V.drew from⟨Nat.le_refl _,fun _ _ _ h _=>h⟩)).trans ((KeepsOthers.setCell V.drew ⟨g,n*4,none⟩ (.string (bsB ((s.take (k+1)).drop p)))).from _),KpS.trans HP.out z2,z1⟩
    refine wpIn_region_any (by kernel_rfl) ?_;refine zaH (zh3 (by kernel_rfl)) ?_ _ _ _ _ ?_
    ·rintro⟨a0,w0,h0,-⟩;cases h0
    refine wpAny_of_held (S:=fun w'=>w'.cell? ⟨w.heap.size,0,none⟩=some (.string (bsB s))∧w'.cell? ⟨g,n*4+1,none⟩=some (.int .i64 (p:Int))∧w'.cell? ⟨W.heap.size,0,none⟩=some (.int .i64 (k:Int))) _ _ _ _ ?_;have hHeld:V.drew.cell? ⟨w.heap.size,0,none⟩=some (.string (bsB s))∧V.drew.cell? ⟨g,n*4+1,none⟩=some (.int .i64 (p:Int))∧V.drew.cell? ⟨W.heap.size,0,none⟩=some (.int .i64 (k:Int)):=⟨ctx,c1,q0⟩
    ·have hHeld:V.drew.cell? ⟨w.heap.size,0,none⟩=some (.string (bsB s))∧V.drew.cell? ⟨g,n*4+1,none⟩=some (.int .i64 (p:Int))∧V.drew.cell? ⟨W.heap.size,0,none⟩=some (.int .i64 (k:Int)):=⟨ctx,c1,q0⟩;refine tkH 0 hHeld (v:=?_) ?_ ?_;rotate_left
     ·intro w h;(try dsimp only at h);go_simp;all_goals with_reducible rfl
     simp only[tkS];refine tkH 1 hHeld (v:=?_) ?_ ?_;rotate_left
     ·intro w h;(try dsimp only at h);go_simp;all_goals with_reducible rfl
     simp only[tkS];refine tkH 2 hHeld (v:=?_) ?_ ?_;rotate_left
     ·intro w h;(try dsimp only at h);go_simp;all_goals with_reducible rfl
     simp only[tkS];refine tkH 3 hHeld (v:=?_) ?_ ?_;rotate_left
     ·intro w h;(try dsimp only at h);go_simp;all_goals with_reducible rfl
     simp only[tkS];refine tkH 4 hHeld (v:=?_) ?_ ?_;rotate_left
     ·intro w h;(try dsimp only at h);go_simp;all_goals with_reducible rfl
     simp only[tkS];refine tkH 5 hHeld (v:=?_) ?_ ?_;rotate_left
     ·intro w h;(try dsimp only at h);go_simp;all_goals with_reducible rfl
     simp only[tkS];refine tkH 6 hHeld (v:=?_) ?_ ?_;rotate_left
     ·intro w h;(try dsimp only at h);go_simp;all_goals with_reducible rfl
     simp only[tkS];refine tkH 7 hHeld (v:=?_) ?_ ?_;rotate_left
     ·intro w h;(try dsimp only at h);go_simp;all_goals with_reducible rfl
     simp only[tkS];refine tkH 8 hHeld (v:=?_) ?_ ?_;rotate_left
     ·intro w h;(try dsimp only at h);go_simp;all_goals with_reducible rfl
     simp only[tkS];refine tkH 9 hHeld (v:=?_) ?_ ?_;rotate_left
     ·intro w h;(try dsimp only at h);go_simp;all_goals with_reducible rfl
     simp only[tkS];refine tkH 10 hHeld (v:=?_) ?_ ?_;rotate_left
     ·intro w h;(try dsimp only at h);go_simp;all_goals with_reducible rfl
     simp only[tkS];refine tkH 11 hHeld (v:=?_) ?_ ?_;rotate_left
     ·intro w h;(try dsimp only at h);go_simp;all_goals with_reducible rfl
     simp only[tkS];refine tkH 12 hHeld (v:=?_) ?_ ?_;rotate_left
     ·intro w h;(try dsimp only at h);go_simp;all_goals with_reducible rfl
     simp only[tkS];refine oneH 13 (fun K hK=>?_);go_simp;have hk9:=HM.out.drew.keep HS2.out q0 (.string (bsB ((s.take (k+1)).drop p)));refine hK.out _ _ hk9 (fun hHeld=>?_);clear hK;try simp only[tkS]
     refine wpAnyH_done (by kernel_rfl) ?_ _;exact⟨rfl,rfl⟩
  ·gi_wp2_with (refine⟨trivial,?_⟩;gi_at_call 61;refine(CallsIn.inRound l (callsIn_wide.2 (zgK c _))).mono ?_;rintro e W3 ⟨rfl,rfl⟩;rw[hw])
   exact⟨(KeepsOthers.setCell _ _ _).from _,KpS.set H2.out.bi (by decide) (by decide) _ _,H2.out.white hk (hc▸hw)⟩
open Go.RowKit
def zq3 (q:Pb) (x:Wd):Bool:=decide (x.2.1=q.2.1)&&(decide (x.2.2.1=q.2.2.1)&&decide (x.2.2.2=q.2.2.2))
theorem zq2 (pt:Nat) (q:Pb) (x:Wd) (W:World) (hq:zaq W pt (prbC q)) (hlt:pt<W.heap.size):
 Calls Tryz.prog 28 #[wdV x,.pointer (some ⟨pt,0,none⟩)] W fun e w'=>e=.returned (.bool (zq3 q x))∧Below W.heap.size W w':=by
 obtain⟨x0,x1,x2,x3⟩:=x;obtain⟨q0,q1,q2,q3⟩:=q;have hb:=(Below.refl W.heap.size W).alloc (Nat.le_refl _) (.cells #[.string (bsB x0),.int .i64 x1,.int .i64 x2,.int .i64 x3] 58);have hx:=zaq.fresh W #[.string (bsB x0),.int .i64 x1,.int .i64 x2,.int .i64 x3] 58;have hq2:=hq.below hb hlt;have c1:=hx.cell (j:=1) rfl;have c2:=hx.cell (j:=2) rfl;have c3:=hx.cell (j:=3) rfl;have d1:=hq2.cell (j:=1) rfl;have d2:=hq2.cell (j:=2) rfl;have d3:=hq2.cell (j:=3) rfl;have HB:=lhd hb;clear hb hx hq2 hq;dsimp only at c1 c2 c3 d1 d2 d3;by_cases h1:x1=q1
 ·subst h1;by_cases h2:x2=q2
  ·subst h2;by_cases h3:x3=q3
   ·subst h3;have HVA:=lhd (show zq3 (q0,x1,x2,x3) (x0,x1,x2,x3)=true by simp[zq3]);go_enter Tryz.func28,Tryz.ntmps28;go_wp2_with fail;go_ret;exact⟨zle HVA.out.symm,HB.out⟩
   ·have hb3:(x3==q3)=false:=by rw[beq_eq_false_iff_ne];exact h3
    have HVA:=lhd (show zq3 (q0,x1,x2,q3) (x0,x1,x2,x3)=false by simp[zq3,h3]);clear h3;go_enter Tryz.func28,Tryz.ntmps28;go_wp2_with fail;go_ret;exact⟨zle HVA.out.symm,HB.out⟩
  ·have hb2:(x2==q2)=false:=by rw[beq_eq_false_iff_ne];exact h2
   have HVA:=lhd (show zq3 (q0,x1,q2,q3) (x0,x1,x2,x3)=false by simp[zq3,h2]);clear h2;go_enter Tryz.func28,Tryz.ntmps28;go_wp2_with fail;go_ret;exact⟨zle HVA.out.symm,HB.out⟩
 ·have hb1:(x1==q1)=false:=by rw[beq_eq_false_iff_ne];exact h1
  have HVA:=lhd (show zq3 (q0,q1,q2,q3) (x0,x1,x2,x3)=false by simp[zq3,h1]);clear h1;go_enter Tryz.func28,Tryz.ntmps28;go_wp2_with fail;go_ret;exact⟨zle HVA.out.symm,HB.out⟩
theorem zqX (pt:Nat) (p:Wd→Bool) (v:Value) (L:List Wd) (w:World) (hs:SlR w v L.length (wds L))
 (hF:∀x∈L,∀W,Below w.heap.size w W→Calls Tryz.prog 28 #[wdV x,.pointer (some ⟨pt,0,none⟩)] W fun e w'=>e=.returned (.bool (p x))∧Below W.heap.size W w'):
 Calls Tryz.prog 27 #[v,.func (.func 28) #[] #[.pointer (some ⟨pt,0,none⟩)]] w fun e w'=>e=.returned (.int .i64 (fixI p L))∧Below w.heap.size w w':=by
 obtain⟨a,cap,rfl,hc,hm⟩:=hs.shape;unfold maxLen at hm;have HS:=lhd hs;have HF:=lhd hF;obtain⟨R,hR⟩:∃R,R=fixI p L:=⟨_,rfl⟩;rw[←hR];have HRR:=lhd hR;clear hs hF hR;go_enter Tryz.func27,Tryz.ntmps27;go_wp2_with fail;go_loopw [8] (fun i wr=>∃j:Nat,j≤L.length∧i=.int .i64 j∧(∀i,∀hi:i<L.length,i<j→p L[i]=false)∧Below w.heap.size w wr) (fun i _=>L.length-(intOf i).toNat)
 case atStart=>exact⟨0,Nat.zero_le _,rfl,fun i _ h=>absurd h (Nat.not_lt_zero _),Below.refl _ _⟩
 case round=>
  obtain⟨j,hj,rfl,hgo,hb⟩:=hrel;have HGO:=lhd hgo;have HB:=lhd hb;clear hgo hb;by_cases hlt:j<L.length
  ·obtain⟨b,o,rfl,d0,d1,d2,d3⟩:=SlR.wds (HS.out.below HB.out) hlt;have HC:=lhd (fun W hW=>HF.out L[j] (List.getElem_mem hlt) W hW);have HT:=lhd (fun(h:p L[j]=true)=>HRR.out.trans (zea hlt h HGO.out))
   have HN:=lhd (show p L[j]=false→∀i,∀hi:i<L.length,i<j+1→p L[i]=false from fun h i hi hij=>by
    rcases Nat.lt_or_ge i j with h1|h1
    ·exact HGO.out i hi h1
    ·obtain rfl:i=j:=by omega
     exact h)
   generalize L[j]=x at d0 d1 d2 d3 HC HT HN;obtain⟨px,hpx⟩:∃px,px=p x:=⟨_,rfl⟩;rw[←hpx]at HC HT HN;clear hpx;obtain⟨x0,x1,x2,x3⟩:=x;dsimp only at d0 d1 d2 d3;go_wp2_with fail;refine(HC.out _ HB.out).mono ?_;rintro e w1 ⟨rfl,hb1⟩;have HB1:=lhd (zd5 HB.out hb1);clear hb1 d0 d1 d2 d3;cases px
   ·have HN2:=lhd (HN.out rfl);go_wp2_with fail;go_roundw;case rel=>exact⟨j+1,by omega,by go_num,HN2.out,HB1.out⟩
    case measure=>simp[intOf];omega
   ·obtain rfl:R=(j:Int):=HT.out rfl;go_wp2_with fail;go_ret;exact⟨rfl,HB1.out⟩
  ·obtain rfl:R= -1:=HRR.out.trans (zeb fun i hi=>HGO.out i hi (by omega));go_wp2_with fail;go_ret;exact⟨rfl,HB.out⟩
theorem zqW {ws:List Wd} {i:Nat} {x:Wd} {e:Int} (hp:ws.Pairwise fun a b=>a.2.1<b.2.1) (hi:ws[i]? =some x):fixI (zq3 (posP e x)) ws=(i:Int):=by
 obtain⟨h1,rfl⟩:=List.getElem?_eq_some_iff.1 hi;refine zea h1 (by simp[zq3,posP]) fun k hk hki=>?_;have:=List.pairwise_iff_getElem.1 hp k i hk h1 hki;unfold zq3;rw[decide_eq_false (fun h:ws[k].2.1=(posP e ws[i]).2.1=>absurd (show ws[k].2.1=ws[i].2.1 from h) (by omega)),Bool.false_and]
theorem law_DeclarationsPositions (s:Bs) (w:World) (hg:Glob w) (he:zag w) (hm:Glm w):
 Calls Tryz.prog 6 #[.string (bsB s)] w fun e w'=>e=.returned (.bool true)∧Below w.heap.size w w':=by
 have HG:=lhd hg;have HE:=lhd he;have HM:=lhd hm;have z0:=zbk s;clear hg he hm;go_enter Tryz.func6,Tryz.ntmps6;go_wp2_with fail;refine(law_awake25 _ HG.out HE.out HM.out).mono ?_;rintro e w1 ⟨rfl,hb1⟩;have HB1:=lhd hb1;clear hb1;by_cases h120:(2000:Int)<(s.length:Int)
 ·have hd0:decide ((2000:Int)<(s.length:Int))=true:=decide_eq_true h120;clear h120;go_wp2_with fail;go_ret;exact⟨rfl,HB1.out⟩
 have hd0:decide ((2000:Int)<(s.length:Int))=false:=decide_eq_false h120;have HWL:=lhd (show s.length≤2000 by omega);clear h120;go_wp2_with fail;refine(zqY s _ (by have:=HWL.out;omega)).mono ?_;rintro e w2 ⟨v1,ws,rfl,ho,hw,hwl,hpw,hb2⟩;have hs1:=SlR.of_own ho;obtain⟨a1,c1,rfl,hc1,hm1⟩:=hs1.shape;have HS:=lhd hs1;have HB2:=lhd (zd5 HB1.out hb2);have HPW:=lhd hpw;have HW:=lhd hw;have HWN:=lhd (show ws.length≤2000 by have:=HWL.out;omega);clear ho hw hwl hpw hb2 hs1 hd0 z0;go_wp2_with fail;refine(zdh _ ws w2 HS.out (HG.out.below HB2.out) (HE.out.below HB2.out) (HM.out.below HB2.out) (by have:=HWN.out;omega) (by have:=zpT HW.out;have:=HWL.out;omega)).mono ?_;rintro e w3 ⟨vS,vD,vr,rfl,hoS,hoD,hor,hb3⟩;have hsS:=SlR.of_own hoS;have hsD:=SlR.of_own hoD;have hsr:=SlR.of_own hor;obtain⟨aS,cS,rfl,-,-⟩:=hsS.shape;obtain⟨aD,cD,rfl,-,-⟩:=hsD.shape;obtain⟨ar,cr,rfl,hcr,hmr⟩:=hsr.shape;unfold maxLen at hmr;have hle:(zjK ws).2≤ws.length:=zlp ws.length ws ds0 (Nat.le_refl _);have hpf:=(zjO ws).front;obtain⟨P,hP⟩:∃P,P=zjK ws:=⟨_,rfl⟩;rw[←hP]at hle hpf hsr hcr⊢;obtain⟨st,np⟩:=P;dsimp only at hle hpf hsr hcr⊢;have hal:Below w3.heap.size w3 (w3.alloc (.cells #[.int .i64 st.sc,.string (bsB st.dt),.string (bsB st.vn),.string (bsB st.cm),.slice aS st.S.length cS,.slice aD st.D.length cD] 25)):=(Below.refl _ _).alloc (Nat.le_refl _) _;have HB4:=lhd (zd5 HB2.out (zd5 hb3 hal));have HS4:=lhd (HS.out.below (zd5 hb3 hal));have HR4:=lhd (hsr.below hal);generalize st.wrong=Wr at*;have HPF:=lhd hpf;have n0:¬(np:Int)<0:=by omega
 have hnp:=HWN.out;have hNP:=lhd (show np≤2000 by omega);clear hP hoS hoD hor hsS hsD hsr hb3 hal hpf HS;go_upto_region 7 with fail;generalize w3.alloc (.cells #[.int .i64 st.sc,.string (bsB st.dt),.string (bsB st.vn),.string (bsB st.cm),.slice aS st.S.length cS,.slice aD st.D.length cD] 25)=w4 at*;generalize w3.heap.size=bX at*;go_wp2_with fail;go_loopw [42,8] (fun i la wr=>∃(j a:Nat) (z:Int),j≤Wr.length∧i=.int .i64 j∧la=.int .i64 z∧z≤(a:Int)∧PF' ws np a (Wr.drop j)∧Below w4.heap.size w4 wr) (fun i _ _=>Wr.length-(intOf i).toNat)
 case atStart=>exact⟨0,0,-1,Nat.zero_le _,rfl,rfl,by omega,HPF.out,Below.refl _ _⟩
 case round=>
  obtain⟨j,a,z,hj,rfl,rfl,hza,hp,hb⟩:=hrel;have HB:=lhd hb;clear hb;by_cases hlt:j<Wr.length
  ·obtain⟨b,o,rfl,d0,d1,d2,d3⟩:=SlR.prbs (HR4.out.below HB.out) hlt;rw[List.drop_eq_getElem_cons hlt]at hp;obtain⟨i,x,hai,hin,hix,hpe,hpx,hpn⟩:=hp;have hw:IntKind.i64.wrap ((j:Int)+1)=(j:Int)+1:=IntWalk.i64_in _ (by omega);have hfx:=zqW (e:=Wr[j].1) HPW.out hix;rw[←hpx]at hfx;have HPN:=lhd hpn;clear hpn hpx hix;generalize Wr[j]=q at d0 d1 d2 d3 hpe hfx;obtain⟨x0,x1,x2,x3⟩:=q;dsimp only at d0 d1 d2 d3 hpe;have hx0:(x0==0)=false:=by rw[beq_eq_false_iff_ne];exact hpe
   have hal:Below wr.heap.size wr (wr.alloc (.cells #[.int .i64 x0,.int .i64 x1,.int .i64 x2,.int .i64 x3] 55)):=(Below.refl _ _).alloc (Nat.le_refl _) _;have hx:=zaq.fresh wr #[.int .i64 x0,.int .i64 x1,.int .i64 x2,.int .i64 x3] 55;have hz:wr.heap.size<(wr.alloc (.cells #[.int .i64 x0,.int .i64 x1,.int .i64 x2,.int .i64 x3] 55)).heap.size:=by simp
   have HC:=lhd (zqX wr.heap.size (zq3 (x0,x1,x2,x3)) _ ws _ (HS4.out.below (HB.out.trans (hal.mono HB.out.size))) (fun x _ W hW=>zq2 wr.heap.size (x0,x1,x2,x3) x W (zaq.below hx hW hz) (Nat.lt_of_lt_of_le hz hW.size)));rw[hfx]at HC;have HBX:=lhd (HB.out.trans (hal.mono HB.out.size));have HX:=lhd hx;have HZ:=lhd hz;have i0:decide ((i:Int)<0)=false:=by rw[decide_eq_false_iff_not];omega
   have i2:decide ((i:Int)<z)=false:=by rw[decide_eq_false_iff_not];omega
   clear hal hx hz hfx hpe hai hza;go_wp2_with fail;refine HC.out.mono ?_;rintro e w5 ⟨rfl,hb5⟩;have HB5:=lhd (HBX.out.trans (hb5.mono HBX.out.size));have p0:=(HX.out.below hb5 HZ.out).cell (j:=0) rfl;clear hb5 d0 d1 d2 d3;go_wp2_with fail;go_roundw;case rel=>exact⟨j+1,i,i,by omega,by go_num,rfl,Int.le_refl _,HPN.out,HB5.out⟩
   case measure=>simp[intOf];omega
  ·obtain rfl:j=Wr.length:=by omega
   go_wp2_with fail;go_ret;exact⟨rfl,zd5 HB4.out HB.out⟩
end Go.Proofs.YtcdekelomkcahaaGreatDoor
