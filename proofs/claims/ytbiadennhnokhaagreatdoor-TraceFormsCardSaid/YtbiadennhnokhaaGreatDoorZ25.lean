import Derived.Test.YtbiadennhnokhaaGreatDoorZ00
import Derived.Test.YtbiadennhnokhaaGreatDoorZ22
set_option maxRecDepth 100000
set_option maxHeartbeats 16000000
namespace Go.Proofs.YtbiadennhnokhaaGreatDoor
open Go.RowKit
set_option linter.unusedSimpArgs false
def trC (t:Tr) (p:TP):List Value:=[.int .i64 t.sc,.string (bsB t.dt),.string (bsB t.vn),.string (bsB t.cm),p.vs,p.vv,p.vg,p.vp,.int .i64 t.en]
def fnsL (b:Nat):List Value:=[.func (.func 53) #[.pointer (some ⟨b,0,none⟩)] #[],.func (.func 54) #[.pointer (some ⟨b,0,none⟩)] #[],.func (.func 55) #[.pointer (some ⟨b,0,none⟩)] #[],.func (.func 56) #[.pointer (some ⟨b,0,none⟩)] #[],.func (.func 57) #[.pointer (some ⟨b,0,none⟩)] #[],.func (.func 58) #[.pointer (some ⟨b,0,none⟩)] #[]]
structure BI (w:World) (t:Tr) (p:TP) (u:Tr) (q:TP) (W:World):Prop where
 x:zal W w.heap.size (trC t p++trC u q)
 s:W.ownsRow (w.heap.size+2) 55 3 q.vs u.S.length (scs u.S)
 v:W.ownsRow (w.heap.size+2) 42 7 q.vv u.V.length (vrs u.V)
 g:W.ownsRow (w.heap.size+2) 45 3 q.vg q.M.length (sgs q.M)
 c:∀x∈q.M,x∈p.M∨W.ownsRow (w.heap.size+2) 53 2 x.2 x.1.2.2.length (chs x.1.2.2)
 r:W.ownsRow (w.heap.size+2) 57 2 q.vp u.P.length (gps u.P)
 m:q.M.map Prod.fst=u.G
 b:Below w.heap.size w W
 k:zal W (w.heap.size+1) (fnsL w.heap.size)
 l:∀x∈p.M,SlR w x.2 x.1.2.2.length (chs x.1.2.2)
def zar (w:World) (t:Tr) (p:TP) (code:Int) (u:Tr) (e:Ending) (W:World):Prop:=e=.returned (.int .i64 code)∧Below w.heap.size w W∧(code=0→∃q,BI w t p u q W)
def zas (w:World) (t:Tr) (p:TP) (vp:Value) (code:Int) (u:Tr) (e:Ending) (W:World):Prop:=e=.returned (.int .i64 code)∧Below w.heap.size w W∧(code=0→∃q,BI w t p u q W∧q.vp=vp)
theorem BI.lt {w W:World} {t u:Tr} {p q:TP} (h:BI w t p u q W):w.heap.size<W.heap.size:=zbT (h.x.cell (j:=0) rfl)
theorem BI.lt2 {w W:World} {t u:Tr} {p q:TP} (h:BI w t p u q W):w.heap.size+1<W.heap.size:=zbT (h.k.cell (j:=0) rfl)
theorem BI.next {w W V:World} {t u:Tr} {p q:TP} (h:BI w t p u q W) (hb:Below W.heap.size W V):BI w t p u q V:=
 {x:=h.x.below hb h.lt
  s:=zba h.s hb
  v:=zba h.v hb
  g:=zba h.g hb
  c:=fun x hx=>(h.c x hx).imp id (fun h=>zba h hb)
  r:=zba h.r hb
  m:=h.m
  b:=h.b.trans (hb.mono h.b.size)
  k:=h.k.below hb h.lt2
  l:=h.l}
theorem BI.set {w W:World} {t u:Tr} {p q:TP} (h:BI w t p u q W) {j:Nat} (hj:j<18) (z:Value) {u':Tr} {q':TP} (hx:(trC t p++trC u q).set j z=trC t p++trC u' q')
 (hs:(W.setCell ⟨w.heap.size,j,none⟩ z).ownsRow (w.heap.size+2) 55 3 q'.vs u'.S.length (scs u'.S))
 (hv:(W.setCell ⟨w.heap.size,j,none⟩ z).ownsRow (w.heap.size+2) 42 7 q'.vv u'.V.length (vrs u'.V))
 (hg:(W.setCell ⟨w.heap.size,j,none⟩ z).ownsRow (w.heap.size+2) 45 3 q'.vg q'.M.length (sgs q'.M))
 (hc:∀x∈q'.M,x∈p.M∨(W.setCell ⟨w.heap.size,j,none⟩ z).ownsRow (w.heap.size+2) 53 2 x.2 x.1.2.2.length (chs x.1.2.2))
 (hq:(W.setCell ⟨w.heap.size,j,none⟩ z).ownsRow (w.heap.size+2) 57 2 q'.vp u'.P.length (gps u'.P))
 (hm:q'.M.map Prod.fst=u'.G):BI w t p u' q' (W.setCell ⟨w.heap.size,j,none⟩ z):=
 {x:=by rw[←hx];exact h.x.set (j:=j) (by simpa[trC] using hj) z
  s:=hs,v:=hv,g:=hg,c:=hc,r:=hq,m:=hm
  b:=h.b.setCell (by simp) z
  k:=h.k.other (a:=⟨w.heap.size,j,none⟩) (by show w.heap.size≠w.heap.size+1;omega) z
  l:=h.l}
theorem zjy {w W:World} {e size n:Nat} {v:Value} {xs:List Value} (h:W.ownsRow (w.heap.size+2) e size v n xs) (j:Nat) (z:Value):(W.setCell ⟨w.heap.size,j,none⟩ z).ownsRow (w.heap.size+2) e size v n xs:=
 ownsRow_setCell_below h (by simp) z
theorem Glm.from {w w':World} (h:Glm w) (hb:Below w.heap.size w w'):Glm w':=h.below hb
theorem BI.put {w W:World} {t u:Tr} {p q:TP} (h:BI w t p u q W) {j:Nat} (hj:j<18) (z:Value) {u':Tr} (hx:(trC t p++trC u q).set j z=trC t p++trC u' q) (h1:u'.S=u.S) (h2:u'.V=u.V) (h3:u'.G=u.G) (h4:u'.P=u.P):
 BI w t p u' q (W.setCell ⟨w.heap.size,j,none⟩ z):=
 h.set hj z hx (by rw[h1];exact zjy h.s _ _) (by rw[h2];exact zjy h.v _ _) (zjy h.g _ _) (fun x hx=>(h.c x hx).imp id (fun h=>zjy h _ _)) (by rw[h4];exact zjy h.r _ _) (by rw[h3];exact h.m)
theorem BI.drew {w W:World} {t u:Tr} {p q:TP} (h:BI w t p u q W):BI w t p u q W.drew:=h.next (Below.refl _ _).drew
theorem zoF (w W:World) (t u:Tr) (p q:TP) (h:BI w t p u q W) (hg:Glm w) (hl:t.dt.length≤100000∧t.vn.length≤100000∧t.cm.length≤100000):
 Calls Tryz.prog 53 #[.pointer (some ⟨w.heap.size,0,none⟩)] W fun e W'=>zas w t p q.vp (zoJ t) {u with sc:=t.sc,dt:=t.dt,vn:=t.vn,cm:=t.cm} e W':=by
 obtain⟨t1,t2,t3,t4,t5,t6,t7,t8,t9⟩:=t;have HI:=lhd h;dsimp only at hl;obtain⟨l1,l2,l3⟩:=hl;have c0:=h.x.cell (j:=0) rfl;have c1:=h.x.cell (j:=1) rfl;have c2:=h.x.cell (j:=2) rfl;have c3:=h.x.cell (j:=3) rfl;clear h;dsimp only at c0 c1 c2 c3;have HT:=lhd (zph t1);by_cases hsc:t1< -15∨2<t1
 ·have HE:=lhd (show 2=zoJ ⟨t1,t2,t3,t4,t5,t6,t7,t8,t9⟩by unfold zoJ;rw[if_pos hsc])
  have HF:=lhd (show(decide (-15≤t1)&&decide (t1≤2))=false by
   rcases hsc with h|h
   ·rw[decide_eq_false (by omega)];rfl
   ·rw[decide_eq_false (show ¬t1≤2 by omega),Bool.and_false])
  clear hsc;go_enter Tryz.func53,Tryz.ntmps53;go_wp2_with fail;refine(HT.out _).mono ?_;rintro e w1 ⟨rfl,rfl⟩;rw[HF.out];go_wp2_with fail;go_ret;exact⟨zlj HE.out,HI.out.b,fun h=>by rw[←HE.out]at h;cases h⟩
 ·have HF:=lhd (show(decide (-15≤t1)&&decide (t1≤2))=true by
   rw[decide_eq_true (by omega),decide_eq_true (by omega)];rfl)
  have HE:=lhd (show(if(zqM t2&&zqM t3&&zqM t4)=true then 0 else 3)=zoJ ⟨t1,t2,t3,t4,t5,t6,t7,t8,t9⟩by unfold zoJ;rw[if_neg hsc]);clear hsc;go_enter Tryz.func53,Tryz.ntmps53;go_wp2_with fail;refine(HT.out _).mono ?_;rintro e w1 ⟨rfl,rfl⟩;rw[HF.out];go_wp2_with fail;go_region
  clear c0 c1 c2 c3;obtain⟨L,hL⟩:∃L,L=[t2,t3,t4]:=⟨_,rfl⟩;have hL3:L.length=3:=by rw[hL];rfl
  have HL3:=lhd hL3;have HSZ:=lhd (show ∀x∈L,x.length≤100000 by rw[hL];intro x hx;simp at hx;rcases hx with rfl|rfl|rfl<;>assumption)
  have hE2:(if L.all zqM=true then 0 else 3)=zoJ ⟨t1,t2,t3,t4,t5,t6,t7,t8,t9⟩:=by
   rw[←HE.out,hL];simp[Bool.and_assoc]
  have HE2:=lhd hE2
  have HC:=lhd (show ∀(k:Nat) (x:Bs),L[k]? =some x→(W.alloc (.cells #[.string (bsB t2),.string (bsB t3),.string (bsB t4)] 9)).drew.cell? ⟨W.heap.size,k,none⟩=some (.string (bsB x))from fun k x hx=>by
   rw[hL]at hx;refine(zal.fresh W #[.string (bsB t2),.string (bsB t3),.string (bsB t4)] 9).drew.cell (j:=k) ?_;match k,hx with
   |0,hx=>exact congrArg (fun y=>some (Value.string (bsB y))) (Option.some.inj hx)
   |1,hx=>exact congrArg (fun y=>some (Value.string (bsB y))) (Option.some.inj hx)
   |2,hx=>exact congrArg (fun y=>some (Value.string (bsB y))) (Option.some.inj hx)
   |k+3,hx=>simp at hx)
  have hW2:W.heap.size<(W.alloc (.cells #[.string (bsB t2),.string (bsB t3),.string (bsB t4)] 9)).drew.heap.size:=by
   show W.heap.size<(W.alloc _).heap.size;simp
  have HB0:=lhd (show Below W.heap.size W (W.alloc (.cells #[.string (bsB t2),.string (bsB t3),.string (bsB t4)] 9)).drew from((Below.refl _ _).alloc (Nat.le_refl _) _).drew);generalize (W.alloc (.cells #[.string (bsB t2),.string (bsB t3),.string (bsB t4)] 9)).drew=W2 at*;clear hE2 hL3 hL HE;have HB1:=lhd (Below.refl W2.heap.size W2);go_wp2_with fail;go_loopw [29] (fun i wr=>∃k:Nat,k≤3∧i=.int .i64 k∧(L.take k).all zqM=true∧Below W2.heap.size W2 wr) (fun i _=>3-(intOf i).toNat)
  case atStart=>exact⟨0,Nat.zero_le _,rfl,rfl,HB1.out⟩
  case round=>
   obtain⟨k,hk,rfl,hal,hb⟩:=hrel;have HB:=lhd hb;have HA:=lhd hal;clear hal hb;have HBW:=lhd (HB0.out.trans (HB.out.mono HB0.out.size));by_cases hlt:k<3
   ·have hlt3:k<L.length:=by rw[HL3.out];exact hlt
    have hxx:=List.getElem?_eq_getElem hlt3;have hsz:=HSZ.out _ (List.getElem_mem hlt3)
    have HTS:=lhd (fun(hw:zqM L[k]=true)=>show(L.take (k+1)).all zqM=true by
     rw[List.take_succ_eq_append_getElem hlt3,List.all_append,HA.out];simp[hw])
    have HTN:=lhd (fun(hw:zqM L[k]=false)=>show ¬L.all zqM=true by
     intro h;rw[List.all_eq_true]at h;have:=h _ (List.getElem_mem hlt3);rw[hw]at this;cases this)
    generalize L[k]=x at*;have d0:wr.cell? ⟨W.heap.size,k,none⟩=some (.string (bsB x)):=(HB.out.cell (p:=⟨W.heap.size,k,none⟩) hW2).trans (HC.out k _ hxx);have HVW:=lhd (zky (bsB x) wr (by exact hsz) ((Glm.from hg HI.out.b).below HBW.out));rw[show(bsB x).data.toList=x from rfl]at HVW;clear hxx hlt3;by_cases hw:zqM x=true
    ·rw[hw]at HVW;have HTS:=lhd (HTS.out hw);clear hw;go_wp2_with fail;refine HVW.out.mono ?_;rintro e w1 ⟨rfl,hb1⟩;have HB2:=lhd (HB.out.trans (hb1.mono HB.out.size));clear hb1;go_wp2_with fail;go_roundw;case rel=>exact⟨k+1,hlt,by go_num,HTS.out,HB2.out⟩
     case measure=>simp[intOf];omega
    ·have hwf:zqM x=false:=by simpa using hw
     rw[hwf]at HVW;have HR:=lhd (show(3:Int)=zoJ ⟨t1,t2,t3,t4,t5,t6,t7,t8,t9⟩by rw[←HE2.out,if_neg (HTN.out hwf)]);clear hw hwf;go_wp2_with fail;refine HVW.out.mono ?_;rintro e w1 ⟨rfl,hb1⟩;have HB2:=lhd (HBW.out.trans (hb1.mono HBW.out.size));clear hb1;go_wp2_with fail;go_ret;exact⟨zlj HR.out,(HI.out.next HB2.out).b,fun h=>by rw[←HR.out]at h;cases h⟩
   ·obtain rfl:k=3:=by omega
    have HR:=lhd (show(0:Int)=zoJ ⟨t1,t2,t3,t4,t5,t6,t7,t8,t9⟩by
     rw[←HE2.out,if_pos];have:=HA.out;rwa [List.take_of_length_le (by rw[HL3.out];exact Nat.le_refl _)]at this)
    have HI2:=lhd (HI.out.next HBW.out);have c0:=HI2.out.x.cell (j:=0) rfl;have c1:=HI2.out.x.cell (j:=1) rfl;have c2:=HI2.out.x.cell (j:=2) rfl;have c3:=HI2.out.x.cell (j:=3) rfl;have c9:=HI2.out.x.cell (j:=9) rfl;have c10:=HI2.out.x.cell (j:=10) rfl;have c11:=HI2.out.x.cell (j:=11) rfl;have c12:=HI2.out.x.cell (j:=12) rfl;have f9:=HI2.out.x.free (j:=9) (by simp[trC]);have f10:=HI2.out.x.free (j:=10) (by simp[trC]);have f11:=HI2.out.x.free (j:=11) (by simp[trC]);have f12:=HI2.out.x.free (j:=12) (by simp[trC]);dsimp only at c0 c1 c2 c3 c9 c10 c11 c12;have HBF:=lhd (((HI2.out.drew.put (j:=9) (by decide) (.int .i64 t1) (u':={u with sc:=t1}) rfl rfl rfl rfl rfl).put (j:=10) (by decide) (.string (bsB t2)) (u':={u with sc:=t1,dt:=t2}) rfl rfl rfl rfl rfl).put (j:=11) (by decide) (.string (bsB t3)) (u':={u with sc:=t1,dt:=t2,vn:=t3}) rfl rfl rfl rfl rfl|>.put (j:=12) (by decide) (.string (bsB t4)) (u':={u with sc:=t1,dt:=t2,vn:=t3,cm:=t4}) rfl rfl rfl rfl rfl);clear hlt;go_wp2_with fail;refine zq0 (S:=fun w'=>w'.cell? ⟨w.heap.size,0,none⟩=some (.int .i64 t1)∧w'.cell? ⟨w.heap.size,1,none⟩=some (.string (bsB t2))∧w'.cell? ⟨w.heap.size,2,none⟩=some (.string (bsB t3))∧w'.cell? ⟨w.heap.size,3,none⟩=some (.string (bsB t4))) (X:=fun _=>false) (by kernel_rfl) ?_;have HS:=lhd (show wr.drew.cell? ⟨w.heap.size,0,none⟩=some (.int .i64 t1)∧wr.drew.cell? ⟨w.heap.size,1,none⟩=some (.string (bsB t2))∧wr.drew.cell? ⟨w.heap.size,2,none⟩=some (.string (bsB t3))∧wr.drew.cell? ⟨w.heap.size,3,none⟩=some (.string (bsB t4))from⟨c0,c1,c2,c3⟩);refine zqT (i:=0) (v:=?_) rfl (by kernel_rfl) (by kernel_rfl) (by kernel_rfl) (by kernel_rfl) (fun _ _ _ h=>h) (Or.inl ⟨by rfl,?_⟩) HS.out ?_;rotate_left
    ·intro w hSw;(try dsimp only at hSw)
     go_simp;all_goals with_reducible rfl
    simp only[tkS];refine zqT (i:=1) (v:=?_) rfl (by kernel_rfl) (by kernel_rfl) (by kernel_rfl) (by kernel_rfl) (fun _ _ _ h=>h) (Or.inl ⟨by rfl,?_⟩) HS.out ?_;rotate_left
    ·intro w hSw;(try dsimp only at hSw)
     go_simp;all_goals with_reducible rfl
    simp only[tkS];refine zqT (i:=2) (v:=?_) rfl (by kernel_rfl) (by kernel_rfl) (by kernel_rfl) (by kernel_rfl) (fun _ _ _ h=>h) (Or.inl ⟨by rfl,?_⟩) HS.out ?_;rotate_left
    ·intro w hSw;(try dsimp only at hSw)
     go_simp;all_goals with_reducible rfl
    simp only[tkS];refine zqT (i:=3) (v:=?_) rfl (by kernel_rfl) (by kernel_rfl) (by kernel_rfl) (by kernel_rfl) (fun _ _ _ h=>h) (Or.inl ⟨by rfl,?_⟩) HS.out ?_;rotate_left
    ·intro w hSw;(try dsimp only at hSw)
     go_simp;all_goals with_reducible rfl
    simp only[tkS];refine zqT (i:=4) (v:=?_) rfl (by kernel_rfl) (by kernel_rfl) (by kernel_rfl) (by kernel_rfl) (fun _ _ _ h=>h) (Or.inl ⟨by rfl,?_⟩) HS.out ?_;rotate_left
    ·intro w hSw;(try dsimp only at hSw)
     go_simp;all_goals with_reducible rfl
    simp only[tkS];refine zqT (i:=5) (v:=?_) rfl (by kernel_rfl) (by kernel_rfl) (by kernel_rfl) (by kernel_rfl) (fun _ _ _ h=>h) (Or.inl ⟨by rfl,?_⟩) HS.out ?_;rotate_left
    ·intro w hSw;(try dsimp only at hSw)
     go_simp;all_goals with_reducible rfl
    simp only[tkS];refine zqT (i:=6) (v:=?_) rfl (by kernel_rfl) (by kernel_rfl) (by kernel_rfl) (by kernel_rfl) (fun _ _ _ h=>h) (Or.inl ⟨by rfl,?_⟩) HS.out ?_;rotate_left
    ·intro w hSw;(try dsimp only at hSw)
     go_simp;all_goals with_reducible rfl
    simp only[tkS];refine zqT (i:=7) (v:=?_) rfl (by kernel_rfl) (by kernel_rfl) (by kernel_rfl) (by kernel_rfl) (fun _ _ _ h=>h) (Or.inl ⟨by rfl,?_⟩) HS.out ?_;rotate_left
    ·intro w hSw;(try dsimp only at hSw)
     go_simp;all_goals with_reducible rfl
    simp only[tkS];refine zqT (i:=8) (v:=?_) rfl (by kernel_rfl) (by kernel_rfl) (by kernel_rfl) (by kernel_rfl) (fun _ _ _ h=>h) (Or.inl ⟨by rfl,?_⟩) HS.out ?_;rotate_left
    ·intro w hSw;(try dsimp only at hSw)
     go_simp;all_goals with_reducible rfl
    simp only[tkS];refine zqT (i:=9) (v:=?_) rfl (by kernel_rfl) (by kernel_rfl) (by kernel_rfl) (by kernel_rfl) (fun _ _ _ h=>h) (Or.inl ⟨by rfl,?_⟩) HS.out ?_;rotate_left
    ·intro w hSw;(try dsimp only at hSw)
     go_simp;all_goals with_reducible rfl
    simp only[tkS];refine zqT (i:=10) (v:=?_) rfl (by kernel_rfl) (by kernel_rfl) (by kernel_rfl) (by kernel_rfl) (fun _ _ _ h=>h) (Or.inl ⟨by rfl,?_⟩) HS.out ?_;rotate_left
    ·intro w hSw;(try dsimp only at hSw)
     go_simp;all_goals with_reducible rfl
    simp only[tkS];refine zqT (i:=11) (v:=?_) rfl (by kernel_rfl) (by kernel_rfl) (by kernel_rfl) (by kernel_rfl) (fun _ _ _ h=>h) (Or.inl ⟨by rfl,?_⟩) HS.out ?_;rotate_left
    ·intro w hSw;(try dsimp only at hSw)
     go_simp;all_goals with_reducible rfl
    simp only[tkS];refine zqT (i:=12) (v:=?_) rfl (by kernel_rfl) (by kernel_rfl) (by kernel_rfl) (by kernel_rfl) (fun _ _ _ h=>h) (Or.inl ⟨by rfl,?_⟩) HS.out ?_;rotate_left
    ·intro w hSw;(try dsimp only at hSw)
     go_simp;all_goals with_reducible rfl
    simp only[tkS];refine zqT (i:=13) (v:=?_) rfl (by kernel_rfl) (by kernel_rfl) (by kernel_rfl) (by kernel_rfl) (fun _ _ _ h=>h) (Or.inl ⟨by rfl,?_⟩) HS.out ?_;rotate_left
    ·intro w hSw;(try dsimp only at hSw)
     go_simp;all_goals with_reducible rfl
    simp only[tkS];refine zqT (i:=14) (v:=?_) rfl (by kernel_rfl) (by kernel_rfl) (by kernel_rfl) (by kernel_rfl) (fun _ _ _ h=>h) (Or.inl ⟨by rfl,?_⟩) HS.out ?_;rotate_left
    ·intro w hSw;(try dsimp only at hSw)
     go_simp;all_goals with_reducible rfl
    simp only[tkS];refine zqT (i:=15) (v:=?_) rfl (by kernel_rfl) (by kernel_rfl) (by kernel_rfl) (by kernel_rfl) (fun _ _ _ h=>h) (Or.inl ⟨by rfl,?_⟩) HS.out ?_;rotate_left
    ·intro w hSw;(try dsimp only at hSw)
     go_simp;all_goals with_reducible rfl
    simp only[tkS];refine zqT (i:=16) (v:=?_) rfl (by kernel_rfl) (by kernel_rfl) (by kernel_rfl) (by kernel_rfl) (fun _ _ _ h=>h) (Or.inl ⟨by rfl,?_⟩) HS.out ?_;rotate_left
    ·intro w hSw;(try dsimp only at hSw)
     go_simp;all_goals with_reducible rfl
    simp only[tkS];refine zqT (i:=17) (v:=?_) rfl (by kernel_rfl) (by kernel_rfl) (by kernel_rfl) (by kernel_rfl) (fun _ _ _ h=>h) (Or.inl ⟨by rfl,?_⟩) HS.out ?_;rotate_left
    ·intro w hSw;(try dsimp only at hSw)
     go_simp;all_goals with_reducible rfl
    simp only[tkS];refine zqT (i:=18) (v:=?_) rfl (by kernel_rfl) (by kernel_rfl) (by kernel_rfl) (by kernel_rfl) (fun _ _ _ h=>h) (Or.inl ⟨by rfl,?_⟩) HS.out ?_;rotate_left
    ·intro w hSw;(try dsimp only at hSw)
     go_simp;all_goals with_reducible rfl
    simp only[tkS];refine zqT (i:=19) (v:=?_) rfl (by kernel_rfl) (by kernel_rfl) (by kernel_rfl) (by kernel_rfl) (fun _ _ _ h=>h) (Or.inl ⟨by rfl,?_⟩) HS.out ?_;rotate_left
    ·intro w hSw;(try dsimp only at hSw)
     go_simp;all_goals with_reducible rfl
    simp only[tkS];refine zqT (i:=20) (v:=?_) rfl (by kernel_rfl) (by kernel_rfl) (by kernel_rfl) (by kernel_rfl) (fun _ _ _ h=>h) (Or.inl ⟨by rfl,?_⟩) HS.out ?_;rotate_left
    ·intro w hSw;(try dsimp only at hSw)
     go_simp;all_goals with_reducible rfl
    simp only[tkS];refine zqT (i:=21) (v:=?_) rfl (by kernel_rfl) (by kernel_rfl) (by kernel_rfl) (by kernel_rfl) (fun _ _ _ h=>h) (Or.inl ⟨by rfl,?_⟩) HS.out ?_;rotate_left
    ·intro w hSw;(try dsimp only at hSw)
     go_simp;all_goals with_reducible rfl
    simp only[tkS];refine zqT (i:=22) (v:=?_) rfl (by kernel_rfl) (by kernel_rfl) (by kernel_rfl) (by kernel_rfl) (fun _ _ _ h=>h) (Or.inl ⟨by rfl,?_⟩) HS.out ?_;rotate_left
    ·intro w hSw;(try dsimp only at hSw)
     go_simp;all_goals with_reducible rfl
    simp only[tkS];refine zqT (i:=23) (v:=?_) rfl (by kernel_rfl) (by kernel_rfl) (by kernel_rfl) (by kernel_rfl) (fun _ _ _ h=>h) (Or.inl ⟨by rfl,?_⟩) HS.out ?_;rotate_left
    ·intro w hSw;(try dsimp only at hSw)
     go_simp;all_goals with_reducible rfl
    simp only[tkS];refine zqT (i:=24) (v:=?_) rfl (by kernel_rfl) (by kernel_rfl) (by kernel_rfl) (by kernel_rfl) (fun _ _ _ h=>h) (Or.inl ⟨by rfl,?_⟩) HS.out ?_;rotate_left
    ·intro w hSw;(try dsimp only at hSw)
     go_simp;all_goals with_reducible rfl
    simp only[tkS];refine zqT (i:=25) (v:=?_) rfl (by kernel_rfl) (by kernel_rfl) (by kernel_rfl) (by kernel_rfl) (fun _ _ _ h=>h) (Or.inl ⟨by rfl,?_⟩) HS.out ?_;rotate_left
    ·intro w hSw;(try dsimp only at hSw)
     go_simp;all_goals with_reducible rfl
    simp only[tkS];refine zqT (i:=26) (v:=?_) rfl (by kernel_rfl) (by kernel_rfl) (by kernel_rfl) (by kernel_rfl) (fun _ _ _ h=>h) (Or.inl ⟨by rfl,?_⟩) HS.out ?_;rotate_left
    ·intro w hSw;(try dsimp only at hSw)
     go_simp;all_goals with_reducible rfl
    simp only[tkS];refine zqS (i:=27) (by kernel_rfl) rfl (fun K hK=>?_);go_simp;refine hK.out _ _ (fun _=>by go_simp) ?_;clear hK;try simp only[tkS]
    refine zqT (i:=28) (v:=?_) rfl (by kernel_rfl) (by kernel_rfl) (by kernel_rfl) (by kernel_rfl) (fun _ _ _ h=>h) (Or.inl ⟨by rfl,?_⟩) (by go_simp) ?_;rotate_left
    ·intro w hSw;(try dsimp only at hSw)
     go_simp;all_goals with_reducible rfl
    simp only[tkS];refine zqT (i:=29) (v:=?_) rfl (by kernel_rfl) (by kernel_rfl) (by kernel_rfl) (by kernel_rfl) (fun _ _ _ h=>h) (Or.inl ⟨by rfl,?_⟩) (by go_simp) ?_;rotate_left
    ·intro w hSw;(try dsimp only at hSw)
     go_simp;all_goals with_reducible rfl
    simp only[tkS];refine zqT (i:=30) (v:=?_) rfl (by kernel_rfl) (by kernel_rfl) (by kernel_rfl) (by kernel_rfl) (fun _ _ _ h=>h) (Or.inl ⟨by rfl,?_⟩) (by go_simp) ?_;rotate_left
    ·intro w hSw;(try dsimp only at hSw)
     go_simp;all_goals with_reducible rfl
    simp only[tkS];refine zqS (i:=31) (by kernel_rfl) rfl (fun K hK=>?_);go_simp;refine hK.out _ _ (fun _=>by go_simp) ?_;clear hK;try simp only[tkS]
    refine zqT (i:=32) (v:=?_) rfl (by kernel_rfl) (by kernel_rfl) (by kernel_rfl) (by kernel_rfl) (fun _ _ _ h=>h) (Or.inl ⟨by rfl,?_⟩) (by go_simp) ?_;rotate_left
    ·intro w hSw;(try dsimp only at hSw)
     go_simp;all_goals with_reducible rfl
    simp only[tkS];refine zqT (i:=33) (v:=?_) rfl (by kernel_rfl) (by kernel_rfl) (by kernel_rfl) (by kernel_rfl) (fun _ _ _ h=>h) (Or.inl ⟨by rfl,?_⟩) (by go_simp) ?_;rotate_left
    ·intro w hSw;(try dsimp only at hSw)
     go_simp;all_goals with_reducible rfl
    simp only[tkS];refine zqT (i:=34) (v:=?_) rfl (by kernel_rfl) (by kernel_rfl) (by kernel_rfl) (by kernel_rfl) (fun _ _ _ h=>h) (Or.inl ⟨by rfl,?_⟩) (by go_simp) ?_;rotate_left
    ·intro w hSw;(try dsimp only at hSw)
     go_simp;all_goals with_reducible rfl
    simp only[tkS];refine zqS (i:=35) (by kernel_rfl) rfl (fun K hK=>?_);go_simp;refine hK.out _ _ (fun _=>by go_simp) ?_;clear hK;try simp only[tkS]
    refine zqT (i:=36) (v:=?_) rfl (by kernel_rfl) (by kernel_rfl) (by kernel_rfl) (by kernel_rfl) (fun _ _ _ h=>h) (Or.inl ⟨by rfl,?_⟩) (by go_simp) ?_;rotate_left
    ·intro w hSw;(try dsimp only at hSw)
     go_simp;all_goals with_reducible rfl
    simp only[tkS];refine zqT (i:=37) (v:=?_) rfl (by kernel_rfl) (by kernel_rfl) (by kernel_rfl) (by kernel_rfl) (fun _ _ _ h=>h) (Or.inl ⟨by rfl,?_⟩) (by go_simp) ?_;rotate_left
    ·intro w hSw;(try dsimp only at hSw)
     go_simp;all_goals with_reducible rfl
    simp only[tkS];refine zqT (i:=38) (v:=?_) rfl (by kernel_rfl) (by kernel_rfl) (by kernel_rfl) (by kernel_rfl) (fun _ _ _ h=>h) (Or.inl ⟨by rfl,?_⟩) (by go_simp) ?_;rotate_left
    ·intro w hSw;(try dsimp only at hSw)
     go_simp;all_goals with_reducible rfl
    simp only[tkS];refine zqS (i:=39) (by kernel_rfl) rfl (fun K hK=>?_);go_simp;refine hK.out _ _ (fun _=>by go_simp) ?_;clear hK;try simp only[tkS]
    refine⟨by kernel_rfl,?_⟩;clear c0 c1 c2 c3 c9 c10 c11 c12 f9 f10 f11 f12;go_wp2_with fail;go_ret;exact⟨zlj HR.out,HBF.out.b,fun _=>⟨q,HBF.out,rfl⟩⟩
theorem zn1 (l:List Bs):(strs l).length=l.length:=by simp[strs]
theorem zn2 {l:List Bs}:∀u∈strs l,u.oneCell'=true:=fun u hu=>by
 unfold strs at hu;obtain⟨x,-,rfl⟩:=List.mem_map.1 hu;rfl
theorem zga (l:List Int):(ints l).length=l.length:=by simp[ints]
theorem zgb {l:List Int}:∀u∈ints l,u.oneCell'=true:=fun u hu=>by
 unfold ints at hu;obtain⟨x,-,rfl⟩:=List.mem_map.1 hu;rfl
theorem zmx {w:World} {b o cap:Nat} {S:List Sc} (hs:SlR w (.slice (some ⟨b,o,none⟩) S.length cap) S.length (scs S)) {j:Nat} (hj:j<S.length) (m:Nat) (u:Value) (hu:(scC S[j])[m]? =some u):w.cell? ⟨b,o+j*3+m,none⟩=some u:=by
 obtain⟨b',o',e',hc'⟩:=hs.scs hj;injection e' with e';injection e' with e1 e2 _;subst e1 e2;exact hc' m u hu
theorem zps {S:List Sc} {j f:Nat} (h:j<S.length):upL S (f+1) (j:Int)=j::upL S f S[j].2.2:=by
 rw[upL,if_neg (by omega),Int.toNat_natCast,List.getElem?_eq_getElem h]
theorem zpr {S:List Sc} {f:Nat} {i:Int} (h:i<0):upL S f i=[]:=by
 cases f with
 |zero=>rfl
 |succ f=>rw[upL,if_pos h]
theorem zlw (v:Value) (S:List Sc) (i0:Nat) (w:World) (hs:SlR w v S.length (scs S)) (hF:Fst (parS S) S.length) (hi:i0<S.length) (hl:S.length≤1000):
 Calls Tryz.prog 171 #[v,.int .i64 i0] w fun e w'=>(∃a cap,e=.returned (.slice a (upL S (i0+1) i0).length cap))∧Below w.heap.size w w':=by
 obtain⟨ii,hi0,iz0,iz1,iz2⟩:=info_parts (P:=Tryz.prog) znZ;obtain⟨a,cap,rfl,-,-⟩:=hs.shape;obtain⟨T,hT⟩:∃T,T=(upL S (i0+1) i0).length:=⟨_,rfl⟩;rw[←hT];have HS:=lhd hs;have HF:=lhd hF;have HT:=lhd hT;clear hs hF hT;go_enter Tryz.func171,Tryz.ntmps171;go_wp2_with fail
 go_loopw [1,5] (fun u v wr=>∃(i:Int) (f n:Nat),u=.int .i64 i∧ -1≤i∧i<(S.length:Int)∧i<(f:Int)∧f≤1000∧T=n+(upL S f i).length∧n+f≤1002∧(∃a c,v=.slice a n c)∧(∃L:List Bs,L.length=n∧wr.ownsRow w.heap.size 9 1 v n (strs L))∧Below w.heap.size w wr)
  (fun u _ _=>(intOf u+1).toNat)
 case atStart=>exact⟨i0,i0+1,0,rfl,by omega,by omega,by omega,by omega,by rw[HT.out];omega,by omega,⟨_,_,rfl⟩,⟨[],rfl,World.ownsRow_made w #[] 0 (Nat.le_refl _) (Nat.zero_le _) rfl⟩,(Below.refl _ _).alloc (Nat.le_refl _) _⟩
 case round=>
  obtain⟨i,f,n,rfl,h1,h2,h3,h4,hT,h5,⟨ao,co,rfl⟩,⟨L,hL,ho⟩,hb⟩:=hrel;have HO:=lhd ho;have HB:=lhd hb;have HTT:=lhd hT;have HL:=lhd hL;clear hb ho hT hL;by_cases hi0':0≤i
  ·obtain⟨j,rfl⟩:∃j:Nat,i=(j:Int):=⟨i.toNat,by omega⟩;have hjl:j<S.length:=by omega
   obtain⟨g,rfl⟩:∃g,f=g+1:=⟨f-1,by omega⟩;obtain⟨b,o,rfl,hcell⟩:=(HS.out.below HB.out).scs hjl;have d0:wr.cell? ⟨b,o+j*3,none⟩=some (.string (bsB S[j].1)):=hcell 0 _ rfl;have d2:wr.cell? ⟨b,o+j*3+2,none⟩=some (.int .i64 S[j].2.2):=hcell 2 _ rfl;have hfs:=HF.out j hjl;rw[zjL hjl]at hfs;have hbl:=zbT d0;have HNX:=lhd (show T=n+1+(upL S g S[j].2.2).length by rw[HTT.out,zps hjl,List.length_cons];omega);obtain⟨x,hx⟩:∃x,S[j].2.2=x:=⟨_,rfl⟩;have HX:=lhd hx;rw[hx]at d2 hfs HNX;clear hx;generalize S[j].1=nm at d0;clear hcell HTT;have b1:decide ((j:Int)≤x)=false:=by rw[decide_eq_false_iff_not];omega
   have HBS:=lhd hbl;have hwz:=HB.out.size;clear d2 hbl;go_upto_region 3 with fail;go_wp2_with (at_builtin;refine zqW _ rfl _ _ 171 rfl w.heap.size 9 ii (.string ⟨#[]⟩) 1 16 Tryz.underlying171 hi0 iz0 iz1 iz2 rfl (by decide) _ 1 [.string (bsB nm)] rfl (World.ownsRow_lit wr #[.string (bsB nm)] 1 hwz (by unfold maxLen;omega) rfl) ao n co (strs L) rfl (by have:=SlR.of_own (HO.out.alloc (.cells #[.string (bsB nm)] 9));exact this) (by rw[zn1,HL.out];omega) zn2 (by unfold maxLen;omega) (by omega) (by simp;omega) ?_)
   intro v7 w7 ho7 hg7
   have hb7:Below w.heap.size w w7:=(HB.out.alloc hwz _).grown hg7 (by simp;omega) (fun q hq=>by
    obtain rfl:wr.heap.size=q:=by simpa[Value.ownBlock] using hq
    exact hwz)
   obtain⟨a7,c7,rfl,-,-⟩:=(SlR.of_own ho7).shape;have HO7:=lhd (show ∃L:List Bs,L.length=n+1∧w7.ownsRow w.heap.size 9 1 (.slice a7 (1+n) c7) (n+1) (strs L)from⟨nm::L,by simp[HL.out],by rw[Nat.add_comm n 1];exact ho7⟩);rw[Nat.add_comm 1 n]at HO7⊢;have HB7:=lhd hb7
   have d2:w7.cell? ⟨b,o+j*3+2,none⟩=some (.int .i64 x):=by
    have:=zmx (HS.out.below hb7) hjl 2 (.int .i64 S[j].2.2) rfl;rw[HX.out]at this;exact this
   clear ho7 hg7 hb7 HO HB;go_wp2_with fail;go_roundw;case rel=>exact⟨x,g,n+1,rfl,hfs.1,by omega,by omega,by omega,HNX.out,by omega,⟨_,_,rfl⟩,HO7.out,HB7.out⟩
   case measure=>simp[intOf];omega
  ·obtain rfl:i= -1:=by omega
   have HE:=lhd (show T=n by rw[HTT.out,zpr (by omega)];rfl);go_wp2_with fail;go_ret;exact⟨⟨_,_,by rw[HE.out];rfl⟩,HB.out⟩
def preK (par:Nat→Int) (n f:Nat) (p:Int) (k:Nat):List Int:=((List.range k).flatMap fun i=>if par i=p then i::pre par n f i else []).map (fun i:Nat=>(i:Int))
theorem zj9 (par:Nat→Int) (n f:Nat) (p:Int):preK par n f p n=(pre par n (f+1) p).map (fun i:Nat=>(i:Int)):=rfl
theorem zkc {par:Nat→Int} {n f k:Nat} {p:Int} (h:par k=p):preK par n f p (k+1)=preK par n f p k++ [(k:Int)]++(pre par n f k).map (fun i:Nat=>(i:Int)):=by
 unfold preK;rw[List.range_succ,List.flatMap_append];simp[h]
theorem zkb {par:Nat→Int} {n f k:Nat} {p:Int} (h:par k≠p):preK par n f p (k+1)=preK par n f p k:=by
 unfold preK;rw[List.range_succ,List.flatMap_append];simp[h]
theorem zka {par:Nat→Int} {n:Nat} (hF:Fst par n) (f k:Nat) (p:Int) (hk:k≤n):(preK par n f p k).length≤n:=by
 have h1:(preK par n f p k).length≤(preK par n f p n).length:=by
  unfold preK;rw[List.length_map,List.length_map]
  have e:List.range n=List.range k++(List.range' k (n-k)):=by
   have h:=List.range'_append_1 (s:=0) (m:=k) (n:=n-k);rw[Nat.zero_add,show k+(n-k)=n by omega]at h;rw[List.range_eq_range',List.range_eq_range',h]
  rw[e,List.flatMap_append,List.length_append];omega
 have h2:(preK par n f p n).length≤n:=by
  rw[zj9,List.length_map];have h3:=zkr hF (f+1) p;have h4:(pre par n (f+1) p).length≤(List.range n).length:=h3.length_le_of_subset (fun x hx=>List.mem_range.2 (zkp hF _ _ x hx).1);simpa using h4
 omega
def PreP (S:List Sc) (f:Nat):Prop:=∀(p:Int) (v:Value) (w:World),-1≤p→p≤1000→SlR w v S.length (scs S)→(S.length:Int)≤(f:Int)+p+1→
 Calls Tryz.prog 126 #[v,.int .i64 p] w fun e w'=>(∃v',e=.returned v'∧w'.ownsRow w.heap.size 3 1 v' (preK (parS S) S.length f p S.length).length (ints (preK (parS S) S.length f p S.length)))∧Below w.heap.size w w'
theorem zlP (S:List Sc) (hF:Fst (parS S) S.length) (hl:S.length≤1000) (f:Nat) (ih:∀f',f=f'+1→PreP S f'):PreP S f:=by
 intro p v w h0 h01 hs hf;obtain⟨ii,hi0,iz0,iz1,iz2⟩:=info_parts (P:=Tryz.prog) zf9;obtain⟨a,cap,rfl,-,-⟩:=hs.shape;have HS:=lhd hs;have HF:=lhd hF;have IH:=lhd ih;have HLEN:=lhd (fun k hk=>zka hF f k p hk);clear hs hF ih;go_enter Tryz.func126,Tryz.ntmps126;go_wp2_with fail;go_loopw [5,6] (fun v i wr=>∃k:Nat,k≤S.length∧i=.int .i64 k∧(∃a c,v=.slice a (preK (parS S) S.length f p k).length c)∧wr.ownsRow w.heap.size 3 1 v (preK (parS S) S.length f p k).length (ints (preK (parS S) S.length f p k))∧Below w.heap.size w wr) (fun _ i _=>S.length-(intOf i).toNat)
 case atStart=>exact⟨0,Nat.zero_le _,rfl,⟨_,_,rfl⟩,World.ownsRow_made w #[] 0 (Nat.le_refl _) (Nat.zero_le _) rfl,(Below.refl _ _).alloc (Nat.le_refl _) _⟩
 case round=>
  obtain⟨k,hk,rfl,⟨ao,co,rfl⟩,ho,hb⟩:=hrel;have HO:=lhd ho;have HB:=lhd hb;have hlk:=HLEN.out k hk;clear ho hb;by_cases hlt:k<S.length
  ·obtain⟨b,o,rfl,hcell⟩:=(HS.out.below HB.out).scs hlt;have d2:wr.cell? ⟨b,o+k*3+2,none⟩=some (.int .i64 S[k].2.2):=hcell 2 _ rfl;have hw1:=zhO k (by omega);have hpar:=zjL hlt;have hfs:=HF.out k hlt;rw[hpar]at hfs;clear hcell;by_cases hp:S[k].2.2=p
   ·have HY:=lhd (zkc (n:=S.length) (f:=f) (hpar.trans hp));rw[hp]at d2 hfs;have hlk2:=HLEN.out (k+1) hlt;rw[HY.out]at hlk2;obtain⟨f',hf'⟩:∃f',f=f'+1:=⟨f-1,by omega⟩;have HC:=lhd (fun W (hW:Below w.heap.size w W)=>IH.out f' hf' (k:Int) _ W (by omega) (by omega) (HS.out.below hW) (by omega));have HYE:=lhd (show(pre (parS S) S.length f k).map (fun i:Nat=>(i:Int))=preK (parS S) S.length f' k S.length by rw[zj9,hf']);rw[HYE.out]at HY hlk2;clear hp hpar IH HYE;have HNX:=HY;generalize preK (parS S) S.length f p k=A at*;generalize preK (parS S) S.length f' k S.length=C at*;simp only[List.length_append,List.length_cons,List.length_nil]at hlk2;have hwz:=HB.out.size;go_wp2_with (at_builtin;refine wpList_append_own _ rfl _ _ 38 rfl w.heap.size 3 ii (.int .i64 0) 1 8 Tryz.underlying38 hi0 iz0 iz1 iz2 rfl (by decide) _ _ _ rfl (World.ownsRow.alloc (by exact HO.out) _) ⟨wr.heap.size,0,none⟩ 1 1 [.int .i64 (k:Int)] rfl rfl (World.news_of_block (cs:=#[.int .i64 (k:Int)]) (t:=3) (fr:=(0,0)) (by exact heap_alloc_new wr _)) (by simp[Value.oneCell']) (by unfold maxLen;omega) (by omega) (by simp;omega) ?_)
    intro v7 w7 ho7 hg7 _;have hb7:Below w.heap.size w w7:=(HB.out.alloc hwz _).grown hg7 (by simp;omega) (fun q hq=>(HO.out.lt q hq).1);obtain⟨a7,c7,rfl,-,-⟩:=(SlR.of_own ho7).shape;have HO7:=lhd ho7;have HB7:=lhd hb7;clear ho7 hg7 hb7 d2 HO HB;go_wp2_with fail;refine(HC.out w7 HB7.out).mono ?_;rintro e w8 ⟨⟨v8,rfl,ho8⟩,hb8⟩;obtain⟨a8,c8,rfl,-,-⟩:=(SlR.of_own ho8).shape;have HS8:=lhd (SlR.of_own ho8);have HO8:=lhd (zba HO7.out hb8);have HB8:=lhd (zem HB7.out hb8);have hwz8:=HB8.out.size;clear ho8 hb8 HO7 HB7 HC;go_wp2_with (at_builtin;refine zqW _ rfl _ _ 38 rfl w.heap.size 3 ii (.int .i64 0) 1 8 Tryz.underlying38 hi0 iz0 iz1 iz2 rfl (by decide) _ _ _ rfl HO8.out a8 C.length c8 (ints C) rfl HS8.out (by rw[zga];omega) zgb (by unfold maxLen;omega) (by omega) hwz8 ?_)
    intro v9 w9 ho9 hg9;have hb9:Below w.heap.size w w9:=HB8.out.grown hg9 hwz8 (fun q hq=>(HO8.out.lt q hq).1);obtain⟨a9,c9,rfl,-,-⟩:=(SlR.of_own ho9).shape;have hln:A.length+1+C.length=(A++ [(k:Int)]++C).length:=by simp;omega
    rw[hln]at ho9⊢
    have HO9:=lhd (show w9.ownsRow w.heap.size 3 1 (.slice a9 (A++ [(k:Int)]++C).length c9) (A++ [(k:Int)]++C).length (ints (A++ [(k:Int)]++C))by
     have e:ints (A++ [(k:Int)]++C)=ints A++ .int .i64 (k:Int)::ints C:=by simp[ints]
     rw[e];exact ho9)
    rw[←HNX.out]at HO9⊢;have HB9:=lhd hb9;clear ho9 hg9 hb9 HO8 HB8 HS8;go_wp2_with fail;go_roundw;case rel=>exact⟨k+1,hlt,by go_num,⟨_,_,rfl⟩,HO9.out,HB9.out⟩
    case measure=>simp[intOf];omega
   ·have HY:=lhd (zkb (n:=S.length) (f:=f) (show parS S k≠p by rw[hpar];exact hp));have hb:(S[k].2.2==p)=false:=by rw[beq_eq_false_iff_ne];exact hp
    clear hp hpar IH hfs;rw[←HY.out]at HO⊢;generalize S[k].2.2=x at*;go_wp2_with fail;go_roundw;case rel=>exact⟨k+1,hlt,by go_num,⟨_,_,rfl⟩,HO.out,HB.out⟩
    case measure=>simp[intOf];omega
  ·obtain rfl:k=S.length:=by omega
   go_wp2_with fail;go_ret;exact⟨⟨_,rfl,HO.out⟩,HB.out⟩
theorem zlQ (S:List Sc) (hF:Fst (parS S) S.length) (hl:S.length≤1000):∀f,PreP S f
 |0=>zlP S hF hl 0 (fun f' h=>by omega)
 |f+1=>zlP S hF hl (f+1) (fun f' h=>by
   obtain rfl:f'=f:=by omega
   exact zlQ S hF hl f')
end Go.Proofs.YtbiadennhnokhaaGreatDoor
