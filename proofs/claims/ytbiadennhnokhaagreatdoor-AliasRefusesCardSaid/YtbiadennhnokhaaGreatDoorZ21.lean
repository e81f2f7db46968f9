import Derived.Test.YtbiadennhnokhaaGreatDoorZ16
set_option maxRecDepth 100000
set_option maxHeartbeats 16000000
namespace Go.Proofs.YtbiadennhnokhaaGreatDoor
open Go.RowKit
theorem zqZ {P:Program} (w:World) {o:Oper} {a:Act} {K:Act→World→Prop} {Q:Exit→Act→World→Prop} (s x:Operand) (t:TypeId)
 (ho:o.op=.call {callee:=.builtin .append,args:=#[s,x],argTypes:=#[t,t]})
 (base:Nat) (e:TypeId) (i:TypeInfo) (z:Value) (size bytes:Nat) (ht:P.underlying t=some (.slice e)) (hi:P.info? e=some i) (hz:i.zero=some z)
 (hsize:i.size=size) (hby:i.bytes=bytes) (hzs:z.cells.size=size) (hsz:0<size)
 (v:Value) (n:Nat) (xs:List Value) (hs:a.eval s=v) (hown:w.ownsRow base e size v n xs)
 (ad:Option Addr) (m c:Nat) (news:List Value) (hx:a.eval x=.slice ad m c) (hsl:SlR w (.slice ad m c) m news) (hl:news.length=m*size) (h1:∀u∈news,u.oneCell'=true)
 (h63:n+m≤maxLen) (hbytes:(n+m)*bytes≤140737488355328) (hbase:base≤w.heap.size)
 (h:∀a' c' w',w'.ownsRow base e size (.slice a' (n+m) c') (n+m) (xs++news)→w.grownBy w' v.ownBlock→K (a.put o.dst (.slice a' (n+m) c')) w'):o.wp P a w K Q:=by
 have h':∀v' w',w'.ownsRow base e size v' (n+m) (xs++news)→w.grownBy w' v.ownBlock→K (a.put o.dst v') w':=fun v' w' h2 h3=>by
  obtain⟨a',c',rfl,-,-⟩:=(SlR.of_own h2).shape;exact h a' c' w' h2 h3
 cases ad with
 |none=>
  obtain⟨a',cap',hv,hc1,hc2,hc3,-⟩:=hsl;injection hv with e1 _ e3;have h0:=hc3 e1.symm;have hm:m=0:=by omega
  have hc:c=0:=by omega
  subst hm hc;have hn:news=[]:=List.length_eq_zero_iff.1 (by omega);subst hn;have hrun:=run_append_owned_none (P:=P) (w:=w) base t o.type e i size ht hi v n xs hown;unfold Oper.wp;simp[execOp,ho,resolve,invoke,builtin,hs,hx,hrun,Result.andThen];exact h' v w (by simpa using hown) (World.grownBy.refl _ _)
 |some ad=>
  exact wp_append_own w s x t ho base e i z size bytes ht hi hz hsize hby hzs hsz v n xs hs hown ad m c news hx hl
   (hsl.news (fun h0=>by subst h0;exact List.length_eq_zero_iff.1 (by omega))) h1 h63 hbytes hbase (fun v' w' h2 h3 _=>h' v' w' h2 h3)
theorem znV {P:Program} (w:World) {ops:Array Oper} {o:Oper} {a:Act} {K:Act→World→Prop} {Q:Exit→Act→World→Prop} {E:Prop} (hgd:o.guard=none) (s x:Operand) (t:TypeId)
 (ho:o.op=.call {callee:=.builtin .append,args:=#[s,x],argTypes:=#[t,t]})
 (base:Nat) (e:TypeId) (i:TypeInfo) (z:Value) (size bytes:Nat) (ht:P.underlying t=some (.slice e)) (hi:P.info? e=some i) (hz:i.zero=some z)
 (hsize:i.size=size) (hby:i.bytes=bytes) (hzs:z.cells.size=size) (hsz:0<size)
 (v:Value) (n:Nat) (xs:List Value) (hs:a.eval s=v) (hown:w.ownsRow base e size v n xs)
 (ad:Option Addr) (m c:Nat) (news:List Value) (hx:a.eval x=.slice ad m c) (hsl:SlR w (.slice ad m c) m news) (hl:news.length=m*size) (h1:∀u∈news,u.oneCell'=true)
 (h63:n+m≤maxLen) (hbytes:(n+m)*bytes≤140737488355328) (hbase:base≤w.heap.size)
 (h:∀a' c' w',w'.ownsRow base e size (.slice a' (n+m) c') (n+m) (xs++news)→w.grownBy w' v.ownBlock→K (a.put o.dst (.slice a' (n+m) c')) w'):
 if Region.wanted o (yielded ops a.tmps)=true then Oper.wp P o a w K Q else E:=by
 have hw:Region.wanted o (yielded ops a.tmps)=true:=by simp[Region.wanted,hgd]
 rw[if_pos hw];exact zqZ w s x t ho base e i z size bytes ht hi hz hsize hby hzs hsz v n xs hs hown ad m c news hx hsl hl h1 h63 hbytes hbase h
theorem zcn (l:List Ch) (i j:Nat) (hij:i≤j):chs l=chs (l.take i)++(chs ((l.take j).drop i)++chs (l.drop j)):=by
 rw[←zck,←zck];congr 1
 have h3:l.take i=(l.take j).take i:=by rw[List.take_take,Nat.min_eq_left hij]
 rw[h3,←List.append_assoc,List.take_append_drop,List.take_append_drop]
theorem SlR.sub {w:World} {a:Option Addr} {cap:Nat} {l:List Ch} (h:SlR w (.slice a l.length cap) l.length (chs l)) (i j:Nat) (hij:i≤j) (hj:j≤l.length):
 SlR w (.slice (if cap=i then a else a.map (·.add (i*2))) ((l.take j).drop i).length (cap-i)) ((l.take j).drop i).length (chs ((l.take j).drop i)):=by
 obtain⟨a',cap',hv,h1,h2,h3,h4⟩:=h;injection hv with e1 _ e3;subst e1 e3;have hl:((l.take j).drop i).length=j-i:=by simp;omega
 refine⟨_,_,rfl,by omega,by omega,fun h=>?_,fun hn=>?_⟩
 ·by_cases hc:cap=i
  ·omega
  ·rw[if_neg hc]at h;have:=h3 (by simpa using h);omega
 ·obtain⟨b,o,rfl,hc⟩:=h4 (by omega);refine⟨b,o+i*2,by rw[if_neg (by omega)];show some ((⟨b,o,none⟩:Addr).add (i*2))=_;rw[zaF],fun x u hx=>?_⟩;have hx':=(List.getElem?_eq_some_iff.1 hx).1;have h5:(chs (l.take i)).length=i*2:=by rw[zco];simp;omega
  have:=hc (i*2+x) u (by
   rw[zcn l i j hij,List.getElem?_append_right (by omega),h5,Nat.add_sub_cancel_left,List.getElem?_append_left hx'];exact hx)
  rwa [←Nat.add_assoc]at this
theorem SlR.rest {w:World} {a:Option Addr} {cap:Nat} {l:List Ch} (h:SlR w (.slice a l.length cap) l.length (chs l)) (i:Nat) (hi:i≤l.length):
 SlR w (.slice (if cap=i then a else a.map (·.add (i*2))) (l.length-i) (cap-i)) (l.length-i) (chs (l.drop i)):=by
 have:=h.sub i l.length hi (Nat.le_refl _);rw[List.take_length,List.length_drop]at this;exact this
theorem zbW (w:World):(Go.sizeOf 53).run Tryz.prog w=.ok 2 w:=by kernel_rfl
theorem znn (a:Option Addr) (cap:Nat) (l:List Ch) (i:Nat) (hi:i≤l.length):
 ∃ad c,(∀w,(Instr.slice 43 (.slice a l.length cap) (some (.int .i64 (i:Int))) none none).run Tryz.prog w=.ok (.slice ad (l.drop i).length c) w)∧
  ∀W,SlR W (.slice a l.length cap) l.length (chs l)→SlR W (.slice ad (l.drop i).length c) (l.drop i).length (chs (l.drop i)):=by
 refine⟨if cap=i then a else a.map (·.add (i*2)),cap-i,fun w=>?_,fun W h=>?_⟩
 ·have ht:Tryz.prog.underlying 43=some (.slice 53):=Tryz.underlying43;have ht':Tryz.prog.underlying 43=some (.slice (Tryz.prog.elem 43)):=by simp[Program.elem,ht]
  have he:Tryz.prog.elem 43=53:=by simp[Program.elem,ht]
  rw[run_slice_l w 43 a l.length cap ht' .i64 _ (by omega) (by omega),he,zbW];simp only[Result.andThen,sliced,List.length_drop,Int.toNat_natCast]
 ·have:=h.sub i l.length hi (Nat.le_refl _);rw[List.take_length]at this;exact this
end Go.Proofs.YtbiadennhnokhaaGreatDoor
