import Derived.Test.YtbiadennhnokhaaGreatDoorZ00
import Derived.Test.YtbiadennhnokhaaGreatDoorZ16
import Derived.Test.YtbiadennhnokhaaGreatDoorZ17
import Derived.Test.YtbiadennhnokhaaGreatDoorZ25
set_option maxRecDepth 100000
set_option maxHeartbeats 16000000
namespace Go.Proofs.YtbiadennhnokhaaGreatDoor
open Go.RowKit
set_option linter.unusedSimpArgs false
def trC (t:Tr) (p:TP):List Value:=[.int .i64 t.sc,.string (bsB t.dt),.string (bsB t.vn),.string (bsB t.cm),p.vs,p.vv,p.vg,p.vp,.int .i64 t.en]
def fnsL (b:Nat):List Value:=[.func (.func 53) #[.pointer (some ⟨b,0,none⟩)] #[],.func (.func 54) #[.pointer (some ⟨b,0,none⟩)] #[],.func (.func 55) #[.pointer (some ⟨b,0,none⟩)] #[],.func (.func 56) #[.pointer (some ⟨b,0,none⟩)] #[],.func (.func 57) #[.pointer (some ⟨b,0,none⟩)] #[],.func (.func 58) #[.pointer (some ⟨b,0,none⟩)] #[]]
structure BI (w:World) (t:Tr) (p:TP) (u:Tr) (q:TP) (W:World):Prop where
 x:zas W w.heap.size (trC t p++trC u q)
 s:W.ownsRow (w.heap.size+2) 55 3 q.vs u.S.length (scs u.S)
 v:W.ownsRow (w.heap.size+2) 42 7 q.vv u.V.length (vrs u.V)
 g:W.ownsRow (w.heap.size+2) 45 3 q.vg q.M.length (sgs q.M)
 c:∀x∈q.M,x∈p.M∨W.ownsRow (w.heap.size+2) 53 2 x.2 x.1.2.2.length (chs x.1.2.2)
 r:W.ownsRow (w.heap.size+2) 57 2 q.vp u.P.length (gps u.P)
 m:q.M.map Prod.fst=u.G
 b:Below w.heap.size w W
 k:zas W (w.heap.size+1) (fnsL w.heap.size)
 l:∀x∈p.M,SlR w x.2 x.1.2.2.length (chs x.1.2.2)
def zay (w:World) (t:Tr) (p:TP) (code:Int) (u:Tr) (e:Ending) (W:World):Prop:=e=.returned (.int .i64 code)∧Below w.heap.size w W∧(code=0→∃q,BI w t p u q W)
def zaz (w:World) (t:Tr) (p:TP) (vp:Value) (code:Int) (u:Tr) (e:Ending) (W:World):Prop:=e=.returned (.int .i64 code)∧Below w.heap.size w W∧(code=0→∃q,BI w t p u q W∧q.vp=vp)
theorem BI.lt {w W:World} {t u:Tr} {p q:TP} (h:BI w t p u q W):w.heap.size<W.heap.size:=zcn (h.x.cell (j:=0) rfl)
theorem BI.lt2 {w W:World} {t u:Tr} {p q:TP} (h:BI w t p u q W):w.heap.size+1<W.heap.size:=zcn (h.k.cell (j:=0) rfl)
theorem BI.next {w W V:World} {t u:Tr} {p q:TP} (h:BI w t p u q W) (hb:Below W.heap.size W V):BI w t p u q V:=
 {x:=h.x.below hb h.lt
  s:=zbE h.s hb
  v:=zbE h.v hb
  g:=zbE h.g hb
  c:=fun x hx=>(h.c x hx).imp id (fun h=>zbE h hb)
  r:=zbE h.r hb
  m:=h.m
  b:=h.b.trans (hb.mono h.b.size)
  k:=h.k.below hb h.lt2
  l:=h.l}
theorem BI.set {w W:World} {t u:Tr} {p q:TP} (h:BI w t p u q W) {j:Nat} (hj:j<18) (z:Value) {u':Tr} {q':TP} (hx:(trC t p++trC u q).set j z=trC t p++trC u' q')
 (hs:(W.setCell ⟨w.heap.size,j,none⟩ z).ownsRow (w.heap.size+2) 55 3 q'.vs u'.S.length (scs u'.S))
 (hv:(W.setCell ⟨w.heap.size,j,none⟩ z).ownsRow (w.heap.size+2) 42 7 q'.vv u'.V.length (vrs u'.V))
 (hg:(W.setCell ⟨w.heap.size,j,none⟩ z).ownsRow (w.heap.size+2) 45 3 q'.vg q'.M.length (sgs q'.M))
 (hc:∀x∈q'.M,x∈p.M∨(W.setCell ⟨w.heap.size,j,none⟩ z).ownsRow (w.heap.size+2) 53 2 x.2 x.1.2.2.length (chs x.1.2.2))
 (hq:(W.setCell ⟨w.heap.size,j,none⟩ z).ownsRow (w.heap.size+2) 57 2 q'.vp u'.P.length (gps u'.P))
 (hm:q'.M.map Prod.fst=u'.G):BI w t p u' q' (W.setCell ⟨w.heap.size,j,none⟩ z):=
 {x:=by rw[←hx];exact h.x.set (j:=j) (by simpa[trC] using hj) z
  s:=hs,v:=hv,g:=hg,c:=hc,r:=hq,m:=hm
  b:=h.b.setCell (by simp) z
  k:=h.k.other (a:=⟨w.heap.size,j,none⟩) (by show w.heap.size≠w.heap.size+1;omega) z
  l:=h.l}
theorem zka {w W:World} {e size n:Nat} {v:Value} {xs:List Value} (h:W.ownsRow (w.heap.size+2) e size v n xs) (j:Nat) (z:Value):(W.setCell ⟨w.heap.size,j,none⟩ z).ownsRow (w.heap.size+2) e size v n xs:=
 ownsRow_setCell_below h (by simp) z
theorem Glm.from {w w':World} (h:Glm w) (hb:Below w.heap.size w w'):Glm w':=h.below hb
theorem BI.put {w W:World} {t u:Tr} {p q:TP} (h:BI w t p u q W) {j:Nat} (hj:j<18) (z:Value) {u':Tr} (hx:(trC t p++trC u q).set j z=trC t p++trC u' q) (h1:u'.S=u.S) (h2:u'.V=u.V) (h3:u'.G=u.G) (h4:u'.P=u.P):
 BI w t p u' q (W.setCell ⟨w.heap.size,j,none⟩ z):=
 h.set hj z hx (by rw[h1];exact zka h.s _ _) (by rw[h2];exact zka h.v _ _) (zka h.g _ _) (fun x hx=>(h.c x hx).imp id (fun h=>zka h _ _)) (by rw[h4];exact zka h.r _ _) (by rw[h3];exact h.m)
theorem BI.drew {w W:World} {t u:Tr} {p q:TP} (h:BI w t p u q W):BI w t p u q W.drew:=h.next (Below.refl _ _).drew
theorem zo8 (w W:World) (t u:Tr) (p q:TP) (h:BI w t p u q W) (hg:Glm w) (hl:t.dt.length≤100000∧t.vn.length≤100000∧t.cm.length≤100000):
 Calls Tryz.prog 53 #[.pointer (some ⟨w.heap.size,0,none⟩)] W fun e W'=>zaz w t p q.vp (zpa t) {u with sc:=t.sc,dt:=t.dt,vn:=t.vn,cm:=t.cm} e W':=by
 obtain⟨t1,t2,t3,t4,t5,t6,t7,t8,t9⟩:=t;have HI:=lhd h;dsimp only at hl;obtain⟨l1,l2,l3⟩:=hl;have c0:=h.x.cell (j:=0) rfl;have c1:=h.x.cell (j:=1) rfl;have c2:=h.x.cell (j:=2) rfl;have c3:=h.x.cell (j:=3) rfl;clear h;dsimp only at c0 c1 c2 c3;have HT:=lhd (zpC t1);by_cases hsc:t1< -15∨2<t1
 ·have HE:=lhd (show 2=zpa ⟨t1,t2,t3,t4,t5,t6,t7,t8,t9⟩by unfold zpa;rw[if_pos hsc])
  have HF:=lhd (show(decide (-15≤t1)&&decide (t1≤2))=false by
   rcases hsc with h|h
   ·rw[decide_eq_false (by omega)];rfl
   ·rw[decide_eq_false (show ¬t1≤2 by omega),Bool.and_false])
  clear hsc;go_enter Tryz.func53,Tryz.ntmps53;go_wp2_with fail;refine(HT.out _).mono ?_;rintro e w1 ⟨rfl,rfl⟩;rw[HF.out];go_wp2_with fail;go_ret;exact⟨zlF HE.out,HI.out.b,fun h=>by rw[←HE.out]at h;cases h⟩
 ·have HF:=lhd (show(decide (-15≤t1)&&decide (t1≤2))=true by
   rw[decide_eq_true (by omega),decide_eq_true (by omega)];rfl)
  have HE:=lhd (show(if(zrg t2&&zrg t3&&zrg t4)=true then 0 else 3)=zpa ⟨t1,t2,t3,t4,t5,t6,t7,t8,t9⟩by unfold zpa;rw[if_neg hsc]);clear hsc;go_enter Tryz.func53,Tryz.ntmps53;go_wp2_with fail;refine(HT.out _).mono ?_;rintro e w1 ⟨rfl,rfl⟩;rw[HF.out];go_wp2_with fail;go_region
  clear c0 c1 c2 c3;obtain⟨L,hL⟩:∃L,L=[t2,t3,t4]:=⟨_,rfl⟩;have hL3:L.length=3:=by rw[hL];rfl
  have HL3:=lhd hL3;have HSZ:=lhd (show ∀x∈L,x.length≤100000 by rw[hL];intro x hx;simp at hx;rcases hx with rfl|rfl|rfl<;>assumption)
  have hE2:(if L.all zrg=true then 0 else 3)=zpa ⟨t1,t2,t3,t4,t5,t6,t7,t8,t9⟩:=by
   rw[←HE.out,hL];simp[Bool.and_assoc]
  have HE2:=lhd hE2
  have HC:=lhd (show ∀(k:Nat) (x:Bs),L[k]? =some x→(W.alloc (.cells #[.string (bsB t2),.string (bsB t3),.string (bsB t4)] 9)).drew.cell? ⟨W.heap.size,k,none⟩=some (.string (bsB x))from fun k x hx=>by
   rw[hL]at hx;refine(zas.fresh W #[.string (bsB t2),.string (bsB t3),.string (bsB t4)] 9).drew.cell (j:=k) ?_;match k,hx with
   |0,hx=>exact congrArg (fun y=>some (Value.string (bsB y))) (Option.some.inj hx)
   |1,hx=>exact congrArg (fun y=>some (Value.string (bsB y))) (Option.some.inj hx)
   |2,hx=>exact congrArg (fun y=>some (Value.string (bsB y))) (Option.some.inj hx)
   |k+3,hx=>simp at hx)
  have hW2:W.heap.size<(W.alloc (.cells #[.string (bsB t2),.string (bsB t3),.string (bsB t4)] 9)).drew.heap.size:=by
   show W.heap.size<(W.alloc _).heap.size;simp
  have HB0:=lhd (show Below W.heap.size W (W.alloc (.cells #[.string (bsB t2),.string (bsB t3),.string (bsB t4)] 9)).drew from((Below.refl _ _).alloc (Nat.le_refl _) _).drew);generalize (W.alloc (.cells #[.string (bsB t2),.string (bsB t3),.string (bsB t4)] 9)).drew=W2 at*;clear hE2 hL3 hL HE;have HB1:=lhd (Below.refl W2.heap.size W2);go_wp2_with fail;go_loopw [29] (fun i wr=>∃k:Nat,k≤3∧i=.int .i64 k∧(L.take k).all zrg=true∧Below W2.heap.size W2 wr) (fun i _=>3-(intOf i).toNat)
  case atStart=>exact⟨0,Nat.zero_le _,rfl,rfl,HB1.out⟩
  case round=>
   obtain⟨k,hk,rfl,hal,hb⟩:=hrel;have HB:=lhd hb;have HA:=lhd hal;clear hal hb;have HBW:=lhd (HB0.out.trans (HB.out.mono HB0.out.size));by_cases hlt:k<3
   ·have hlt3:k<L.length:=by rw[HL3.out];exact hlt
    have hxx:=List.getElem?_eq_getElem hlt3;have hsz:=HSZ.out _ (List.getElem_mem hlt3)
    have HTS:=lhd (fun(hw:zrg L[k]=true)=>show(L.take (k+1)).all zrg=true by
     rw[List.take_succ_eq_append_getElem hlt3,List.all_append,HA.out];simp[hw])
    have HTN:=lhd (fun(hw:zrg L[k]=false)=>show ¬L.all zrg=true by
     intro h;rw[List.all_eq_true]at h;have:=h _ (List.getElem_mem hlt3);rw[hw]at this;cases this)
    generalize L[k]=x at*;have d0:wr.cell? ⟨W.heap.size,k,none⟩=some (.string (bsB x)):=(HB.out.cell (p:=⟨W.heap.size,k,none⟩) hW2).trans (HC.out k _ hxx);have HVW:=lhd (zld (bsB x) wr (by exact hsz) ((Glm.from hg HI.out.b).below HBW.out));rw[show(bsB x).data.toList=x from rfl]at HVW;clear hxx hlt3;by_cases hw:zrg x=true
    ·rw[hw]at HVW;have HTS:=lhd (HTS.out hw);clear hw;go_wp2_with fail;refine HVW.out.mono ?_;rintro e w1 ⟨rfl,hb1⟩;have HB2:=lhd (HB.out.trans (hb1.mono HB.out.size));clear hb1;go_wp2_with fail;go_roundw;case rel=>exact⟨k+1,hlt,by go_num,HTS.out,HB2.out⟩
     case measure=>simp[intOf];omega
    ·have hwf:zrg x=false:=by simpa using hw
     rw[hwf]at HVW;have HR:=lhd (show(3:Int)=zpa ⟨t1,t2,t3,t4,t5,t6,t7,t8,t9⟩by rw[←HE2.out,if_neg (HTN.out hwf)]);clear hw hwf;go_wp2_with fail;refine HVW.out.mono ?_;rintro e w1 ⟨rfl,hb1⟩;have HB2:=lhd (HBW.out.trans (hb1.mono HBW.out.size));clear hb1;go_wp2_with fail;go_ret;exact⟨zlF HR.out,(HI.out.next HB2.out).b,fun h=>by rw[←HR.out]at h;cases h⟩
   ·obtain rfl:k=3:=by omega
    have HR:=lhd (show(0:Int)=zpa ⟨t1,t2,t3,t4,t5,t6,t7,t8,t9⟩by
     rw[←HE2.out,if_pos];have:=HA.out;rwa [List.take_of_length_le (by rw[HL3.out];exact Nat.le_refl _)]at this)
    have HI2:=lhd (HI.out.next HBW.out);have c0:=HI2.out.x.cell (j:=0) rfl;have c1:=HI2.out.x.cell (j:=1) rfl;have c2:=HI2.out.x.cell (j:=2) rfl;have c3:=HI2.out.x.cell (j:=3) rfl;have c9:=HI2.out.x.cell (j:=9) rfl;have c10:=HI2.out.x.cell (j:=10) rfl;have c11:=HI2.out.x.cell (j:=11) rfl;have c12:=HI2.out.x.cell (j:=12) rfl;have f9:=HI2.out.x.free (j:=9) (by simp[trC]);have f10:=HI2.out.x.free (j:=10) (by simp[trC]);have f11:=HI2.out.x.free (j:=11) (by simp[trC]);have f12:=HI2.out.x.free (j:=12) (by simp[trC]);dsimp only at c0 c1 c2 c3 c9 c10 c11 c12;have HBF:=lhd (((HI2.out.drew.put (j:=9) (by decide) (.int .i64 t1) (u':={u with sc:=t1}) rfl rfl rfl rfl rfl).put (j:=10) (by decide) (.string (bsB t2)) (u':={u with sc:=t1,dt:=t2}) rfl rfl rfl rfl rfl).put (j:=11) (by decide) (.string (bsB t3)) (u':={u with sc:=t1,dt:=t2,vn:=t3}) rfl rfl rfl rfl rfl|>.put (j:=12) (by decide) (.string (bsB t4)) (u':={u with sc:=t1,dt:=t2,vn:=t3,cm:=t4}) rfl rfl rfl rfl rfl);clear hlt;go_wp2_with fail;refine zrt (S:=fun w'=>w'.cell? ⟨w.heap.size,0,none⟩=some (.int .i64 t1)∧w'.cell? ⟨w.heap.size,1,none⟩=some (.string (bsB t2))∧w'.cell? ⟨w.heap.size,2,none⟩=some (.string (bsB t3))∧w'.cell? ⟨w.heap.size,3,none⟩=some (.string (bsB t4))) (X:=fun _=>false) (by kernel_rfl) ?_;have HS:=lhd (show wr.drew.cell? ⟨w.heap.size,0,none⟩=some (.int .i64 t1)∧wr.drew.cell? ⟨w.heap.size,1,none⟩=some (.string (bsB t2))∧wr.drew.cell? ⟨w.heap.size,2,none⟩=some (.string (bsB t3))∧wr.drew.cell? ⟨w.heap.size,3,none⟩=some (.string (bsB t4))from⟨c0,c1,c2,c3⟩);refine zrn (i:=0) (v:=?_) rfl (by kernel_rfl) (by kernel_rfl) (by kernel_rfl) (by kernel_rfl) (fun _ _ _ h=>h) (Or.inl ⟨by rfl,?_⟩) HS.out ?_;rotate_left
    ·intro w hSw;(try dsimp only at hSw)
     go_simp;all_goals with_reducible rfl
    simp only[tkS];refine zrn (i:=1) (v:=?_) rfl (by kernel_rfl) (by kernel_rfl) (by kernel_rfl) (by kernel_rfl) (fun _ _ _ h=>h) (Or.inl ⟨by rfl,?_⟩) HS.out ?_;rotate_left
    ·intro w hSw;(try dsimp only at hSw)
     go_simp;all_goals with_reducible rfl
    simp only[tkS];refine zrn (i:=2) (v:=?_) rfl (by kernel_rfl) (by kernel_rfl) (by kernel_rfl) (by kernel_rfl) (fun _ _ _ h=>h) (Or.inl ⟨by rfl,?_⟩) HS.out ?_;rotate_left
    ·intro w hSw;(try dsimp only at hSw)
     go_simp;all_goals with_reducible rfl
    simp only[tkS];refine zrn (i:=3) (v:=?_) rfl (by kernel_rfl) (by kernel_rfl) (by kernel_rfl) (by kernel_rfl) (fun _ _ _ h=>h) (Or.inl ⟨by rfl,?_⟩) HS.out ?_;rotate_left
    ·intro w hSw;(try dsimp only at hSw)
     go_simp;all_goals with_reducible rfl
    simp only[tkS];refine zrn (i:=4) (v:=?_) rfl (by kernel_rfl) (by kernel_rfl) (by kernel_rfl) (by kernel_rfl) (fun _ _ _ h=>h) (Or.inl ⟨by rfl,?_⟩) HS.out ?_;rotate_left
    ·intro w hSw;(try dsimp only at hSw)
     go_simp;all_goals with_reducible rfl
    simp only[tkS];refine zrn (i:=5) (v:=?_) rfl (by kernel_rfl) (by kernel_rfl) (by kernel_rfl) (by kernel_rfl) (fun _ _ _ h=>h) (Or.inl ⟨by rfl,?_⟩) HS.out ?_;rotate_left
    ·intro w hSw;(try dsimp only at hSw)
     go_simp;all_goals with_reducible rfl
    simp only[tkS];refine zrn (i:=6) (v:=?_) rfl (by kernel_rfl) (by kernel_rfl) (by kernel_rfl) (by kernel_rfl) (fun _ _ _ h=>h) (Or.inl ⟨by rfl,?_⟩) HS.out ?_;rotate_left
    ·intro w hSw;(try dsimp only at hSw)
     go_simp;all_goals with_reducible rfl
    simp only[tkS];refine zrn (i:=7) (v:=?_) rfl (by kernel_rfl) (by kernel_rfl) (by kernel_rfl) (by kernel_rfl) (fun _ _ _ h=>h) (Or.inl ⟨by rfl,?_⟩) HS.out ?_;rotate_left
    ·intro w hSw;(try dsimp only at hSw)
     go_simp;all_goals with_reducible rfl
    simp only[tkS];refine zrn (i:=8) (v:=?_) rfl (by kernel_rfl) (by kernel_rfl) (by kernel_rfl) (by kernel_rfl) (fun _ _ _ h=>h) (Or.inl ⟨by rfl,?_⟩) HS.out ?_;rotate_left
    ·intro w hSw;(try dsimp only at hSw)
     go_simp;all_goals with_reducible rfl
    simp only[tkS];refine zrn (i:=9) (v:=?_) rfl (by kernel_rfl) (by kernel_rfl) (by kernel_rfl) (by kernel_rfl) (fun _ _ _ h=>h) (Or.inl ⟨by rfl,?_⟩) HS.out ?_;rotate_left
    ·intro w hSw;(try dsimp only at hSw)
     go_simp;all_goals with_reducible rfl
    simp only[tkS];refine zrn (i:=10) (v:=?_) rfl (by kernel_rfl) (by kernel_rfl) (by kernel_rfl) (by kernel_rfl) (fun _ _ _ h=>h) (Or.inl ⟨by rfl,?_⟩) HS.out ?_;rotate_left
    ·intro w hSw;(try dsimp only at hSw)
     go_simp;all_goals with_reducible rfl
    simp only[tkS];refine zrn (i:=11) (v:=?_) rfl (by kernel_rfl) (by kernel_rfl) (by kernel_rfl) (by kernel_rfl) (fun _ _ _ h=>h) (Or.inl ⟨by rfl,?_⟩) HS.out ?_;rotate_left
    ·intro w hSw;(try dsimp only at hSw)
     go_simp;all_goals with_reducible rfl
    simp only[tkS];refine zrn (i:=12) (v:=?_) rfl (by kernel_rfl) (by kernel_rfl) (by kernel_rfl) (by kernel_rfl) (fun _ _ _ h=>h) (Or.inl ⟨by rfl,?_⟩) HS.out ?_;rotate_left
    ·intro w hSw;(try dsimp only at hSw)
     go_simp;all_goals with_reducible rfl
    simp only[tkS];refine zrn (i:=13) (v:=?_) rfl (by kernel_rfl) (by kernel_rfl) (by kernel_rfl) (by kernel_rfl) (fun _ _ _ h=>h) (Or.inl ⟨by rfl,?_⟩) HS.out ?_;rotate_left
    ·intro w hSw;(try dsimp only at hSw)
     go_simp;all_goals with_reducible rfl
    simp only[tkS];refine zrn (i:=14) (v:=?_) rfl (by kernel_rfl) (by kernel_rfl) (by kernel_rfl) (by kernel_rfl) (fun _ _ _ h=>h) (Or.inl ⟨by rfl,?_⟩) HS.out ?_;rotate_left
    ·intro w hSw;(try dsimp only at hSw)
     go_simp;all_goals with_reducible rfl
    simp only[tkS];refine zrn (i:=15) (v:=?_) rfl (by kernel_rfl) (by kernel_rfl) (by kernel_rfl) (by kernel_rfl) (fun _ _ _ h=>h) (Or.inl ⟨by rfl,?_⟩) HS.out ?_;rotate_left
    ·intro w hSw;(try dsimp only at hSw)
     go_simp;all_goals with_reducible rfl
    simp only[tkS];refine zrn (i:=16) (v:=?_) rfl (by kernel_rfl) (by kernel_rfl) (by kernel_rfl) (by kernel_rfl) (fun _ _ _ h=>h) (Or.inl ⟨by rfl,?_⟩) HS.out ?_;rotate_left
    ·intro w hSw;(try dsimp only at hSw)
     go_simp;all_goals with_reducible rfl
    simp only[tkS];refine zrn (i:=17) (v:=?_) rfl (by kernel_rfl) (by kernel_rfl) (by kernel_rfl) (by kernel_rfl) (fun _ _ _ h=>h) (Or.inl ⟨by rfl,?_⟩) HS.out ?_;rotate_left
    ·intro w hSw;(try dsimp only at hSw)
     go_simp;all_goals with_reducible rfl
    simp only[tkS];refine zrn (i:=18) (v:=?_) rfl (by kernel_rfl) (by kernel_rfl) (by kernel_rfl) (by kernel_rfl) (fun _ _ _ h=>h) (Or.inl ⟨by rfl,?_⟩) HS.out ?_;rotate_left
    ·intro w hSw;(try dsimp only at hSw)
     go_simp;all_goals with_reducible rfl
    simp only[tkS];refine zrn (i:=19) (v:=?_) rfl (by kernel_rfl) (by kernel_rfl) (by kernel_rfl) (by kernel_rfl) (fun _ _ _ h=>h) (Or.inl ⟨by rfl,?_⟩) HS.out ?_;rotate_left
    ·intro w hSw;(try dsimp only at hSw)
     go_simp;all_goals with_reducible rfl
    simp only[tkS];refine zrn (i:=20) (v:=?_) rfl (by kernel_rfl) (by kernel_rfl) (by kernel_rfl) (by kernel_rfl) (fun _ _ _ h=>h) (Or.inl ⟨by rfl,?_⟩) HS.out ?_;rotate_left
    ·intro w hSw;(try dsimp only at hSw)
     go_simp;all_goals with_reducible rfl
    simp only[tkS];refine zrn (i:=21) (v:=?_) rfl (by kernel_rfl) (by kernel_rfl) (by kernel_rfl) (by kernel_rfl) (fun _ _ _ h=>h) (Or.inl ⟨by rfl,?_⟩) HS.out ?_;rotate_left
    ·intro w hSw;(try dsimp only at hSw)
     go_simp;all_goals with_reducible rfl
    simp only[tkS];refine zrn (i:=22) (v:=?_) rfl (by kernel_rfl) (by kernel_rfl) (by kernel_rfl) (by kernel_rfl) (fun _ _ _ h=>h) (Or.inl ⟨by rfl,?_⟩) HS.out ?_;rotate_left
    ·intro w hSw;(try dsimp only at hSw)
     go_simp;all_goals with_reducible rfl
    simp only[tkS];refine zrn (i:=23) (v:=?_) rfl (by kernel_rfl) (by kernel_rfl) (by kernel_rfl) (by kernel_rfl) (fun _ _ _ h=>h) (Or.inl ⟨by rfl,?_⟩) HS.out ?_;rotate_left
    ·intro w hSw;(try dsimp only at hSw)
     go_simp;all_goals with_reducible rfl
    simp only[tkS];refine zrn (i:=24) (v:=?_) rfl (by kernel_rfl) (by kernel_rfl) (by kernel_rfl) (by kernel_rfl) (fun _ _ _ h=>h) (Or.inl ⟨by rfl,?_⟩) HS.out ?_;rotate_left
    ·intro w hSw;(try dsimp only at hSw)
     go_simp;all_goals with_reducible rfl
    simp only[tkS];refine zrn (i:=25) (v:=?_) rfl (by kernel_rfl) (by kernel_rfl) (by kernel_rfl) (by kernel_rfl) (fun _ _ _ h=>h) (Or.inl ⟨by rfl,?_⟩) HS.out ?_;rotate_left
    ·intro w hSw;(try dsimp only at hSw)
     go_simp;all_goals with_reducible rfl
    simp only[tkS];refine zrn (i:=26) (v:=?_) rfl (by kernel_rfl) (by kernel_rfl) (by kernel_rfl) (by kernel_rfl) (fun _ _ _ h=>h) (Or.inl ⟨by rfl,?_⟩) HS.out ?_;rotate_left
    ·intro w hSw;(try dsimp only at hSw)
     go_simp;all_goals with_reducible rfl
    simp only[tkS];refine zrm (i:=27) (by kernel_rfl) rfl (fun K hK=>?_);go_simp;refine hK.out _ _ (fun _=>by go_simp) ?_;clear hK;try simp only[tkS]
    refine zrn (i:=28) (v:=?_) rfl (by kernel_rfl) (by kernel_rfl) (by kernel_rfl) (by kernel_rfl) (fun _ _ _ h=>h) (Or.inl ⟨by rfl,?_⟩) (by go_simp) ?_;rotate_left
    ·intro w hSw;(try dsimp only at hSw)
     go_simp;all_goals with_reducible rfl
    simp only[tkS];refine zrn (i:=29) (v:=?_) rfl (by kernel_rfl) (by kernel_rfl) (by kernel_rfl) (by kernel_rfl) (fun _ _ _ h=>h) (Or.inl ⟨by rfl,?_⟩) (by go_simp) ?_;rotate_left
    ·intro w hSw;(try dsimp only at hSw)
     go_simp;all_goals with_reducible rfl
    simp only[tkS];refine zrn (i:=30) (v:=?_) rfl (by kernel_rfl) (by kernel_rfl) (by kernel_rfl) (by kernel_rfl) (fun _ _ _ h=>h) (Or.inl ⟨by rfl,?_⟩) (by go_simp) ?_;rotate_left
    ·intro w hSw;(try dsimp only at hSw)
     go_simp;all_goals with_reducible rfl
    simp only[tkS];refine zrm (i:=31) (by kernel_rfl) rfl (fun K hK=>?_);go_simp;refine hK.out _ _ (fun _=>by go_simp) ?_;clear hK;try simp only[tkS]
    refine zrn (i:=32) (v:=?_) rfl (by kernel_rfl) (by kernel_rfl) (by kernel_rfl) (by kernel_rfl) (fun _ _ _ h=>h) (Or.inl ⟨by rfl,?_⟩) (by go_simp) ?_;rotate_left
    ·intro w hSw;(try dsimp only at hSw)
     go_simp;all_goals with_reducible rfl
    simp only[tkS];refine zrn (i:=33) (v:=?_) rfl (by kernel_rfl) (by kernel_rfl) (by kernel_rfl) (by kernel_rfl) (fun _ _ _ h=>h) (Or.inl ⟨by rfl,?_⟩) (by go_simp) ?_;rotate_left
    ·intro w hSw;(try dsimp only at hSw)
     go_simp;all_goals with_reducible rfl
    simp only[tkS];refine zrn (i:=34) (v:=?_) rfl (by kernel_rfl) (by kernel_rfl) (by kernel_rfl) (by kernel_rfl) (fun _ _ _ h=>h) (Or.inl ⟨by rfl,?_⟩) (by go_simp) ?_;rotate_left
    ·intro w hSw;(try dsimp only at hSw)
     go_simp;all_goals with_reducible rfl
    simp only[tkS];refine zrm (i:=35) (by kernel_rfl) rfl (fun K hK=>?_);go_simp;refine hK.out _ _ (fun _=>by go_simp) ?_;clear hK;try simp only[tkS]
    refine zrn (i:=36) (v:=?_) rfl (by kernel_rfl) (by kernel_rfl) (by kernel_rfl) (by kernel_rfl) (fun _ _ _ h=>h) (Or.inl ⟨by rfl,?_⟩) (by go_simp) ?_;rotate_left
    ·intro w hSw;(try dsimp only at hSw)
     go_simp;all_goals with_reducible rfl
    simp only[tkS];refine zrn (i:=37) (v:=?_) rfl (by kernel_rfl) (by kernel_rfl) (by kernel_rfl) (by kernel_rfl) (fun _ _ _ h=>h) (Or.inl ⟨by rfl,?_⟩) (by go_simp) ?_;rotate_left
    ·intro w hSw;(try dsimp only at hSw)
     go_simp;all_goals with_reducible rfl
    simp only[tkS];refine zrn (i:=38) (v:=?_) rfl (by kernel_rfl) (by kernel_rfl) (by kernel_rfl) (by kernel_rfl) (fun _ _ _ h=>h) (Or.inl ⟨by rfl,?_⟩) (by go_simp) ?_;rotate_left
    ·intro w hSw;(try dsimp only at hSw)
     go_simp;all_goals with_reducible rfl
    simp only[tkS];refine zrm (i:=39) (by kernel_rfl) rfl (fun K hK=>?_);go_simp;refine hK.out _ _ (fun _=>by go_simp) ?_;clear hK;try simp only[tkS]
    refine⟨by kernel_rfl,?_⟩;clear c0 c1 c2 c3 c9 c10 c11 c12 f9 f10 f11 f12;go_wp2_with fail;go_ret;exact⟨zlF HR.out,HBF.out.b,fun _=>⟨q,HBF.out,rfl⟩⟩
end Go.Proofs.YtbiadennhnokhaaGreatDoor
