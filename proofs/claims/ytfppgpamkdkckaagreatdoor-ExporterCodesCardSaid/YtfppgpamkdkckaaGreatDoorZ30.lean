import Derived.Test.YtfppgpamkdkckaaGreatDoorZ00
import Derived.Test.YtfppgpamkdkckaaGreatDoorZ19
set_option maxRecDepth 100000
set_option maxHeartbeats 16000000
namespace Go.Proofs.YtfppgpamkdkckaaGreatDoor
open Go.RowKit
set_option linter.unusedSimpArgs false
def trC (t:Tr) (p:TP):List Value:=[.int .i64 t.sc,.string (bsB t.dt),.string (bsB t.vn),.string (bsB t.cm),p.vs,p.vv,p.vg,p.vp,.int .i64 t.en]
def fnsL (b:Nat):List Value:=[.func (.func 95) #[.pointer (some ⟨b,0,none⟩)] #[],.func (.func 96) #[.pointer (some ⟨b,0,none⟩)] #[],.func (.func 97) #[.pointer (some ⟨b,0,none⟩)] #[],.func (.func 98) #[.pointer (some ⟨b,0,none⟩)] #[],.func (.func 99) #[.pointer (some ⟨b,0,none⟩)] #[],.func (.func 100) #[.pointer (some ⟨b,0,none⟩)] #[]]
structure BI (w:World) (t:Tr) (p:TP) (u:Tr) (q:TP) (W:World):Prop where
 x:zan W w.heap.size (trC t p++trC u q)
 s:W.ownsRow (w.heap.size+2) 66 3 q.vs u.S.length (scs u.S)
 v:W.ownsRow (w.heap.size+2) 55 7 q.vv u.V.length (vrs u.V)
 g:W.ownsRow (w.heap.size+2) 60 3 q.vg q.M.length (sgs q.M)
 c:∀x∈q.M,x∈p.M∨W.ownsRow (w.heap.size+2) 57 2 x.2 x.1.2.2.length (chs x.1.2.2)
 r:W.ownsRow (w.heap.size+2) 94 2 q.vp u.P.length (gps u.P)
 m:q.M.map Prod.fst=u.G
 b:Below w.heap.size w W
 k:zan W (w.heap.size+1) (fnsL w.heap.size)
 l:∀x∈p.M,SlR w x.2 x.1.2.2.length (chs x.1.2.2)
def zax (w:World) (t:Tr) (p:TP) (code:Int) (u:Tr) (e:Ending) (W:World):Prop:=e=.returned (.int .i64 code)∧Below w.heap.size w W∧(code=0→∃q,BI w t p u q W)
def zay (w:World) (t:Tr) (p:TP) (vp:Value) (code:Int) (u:Tr) (e:Ending) (W:World):Prop:=e=.returned (.int .i64 code)∧Below w.heap.size w W∧(code=0→∃q,BI w t p u q W∧q.vp=vp)
theorem BI.lt {w W:World} {t u:Tr} {p q:TP} (h:BI w t p u q W):w.heap.size<W.heap.size:=zbU (h.x.cell (j:=0) rfl)
theorem BI.lt2 {w W:World} {t u:Tr} {p q:TP} (h:BI w t p u q W):w.heap.size+1<W.heap.size:=zbU (h.k.cell (j:=0) rfl)
theorem BI.next {w W V:World} {t u:Tr} {p q:TP} (h:BI w t p u q W) (hb:Below W.heap.size W V):BI w t p u q V:=
 {x:=h.x.below hb h.lt
  s:=za8 h.s hb
  v:=za8 h.v hb
  g:=za8 h.g hb
  c:=fun x hx=>(h.c x hx).imp id (fun h=>za8 h hb)
  r:=za8 h.r hb
  m:=h.m
  b:=h.b.trans (hb.mono h.b.size)
  k:=h.k.below hb h.lt2
  l:=h.l}
theorem BI.set {w W:World} {t u:Tr} {p q:TP} (h:BI w t p u q W) {j:Nat} (hj:j<18) (z:Value) {u':Tr} {q':TP} (hx:(trC t p++trC u q).set j z=trC t p++trC u' q')
 (hs:(W.setCell ⟨w.heap.size,j,none⟩ z).ownsRow (w.heap.size+2) 66 3 q'.vs u'.S.length (scs u'.S))
 (hv:(W.setCell ⟨w.heap.size,j,none⟩ z).ownsRow (w.heap.size+2) 55 7 q'.vv u'.V.length (vrs u'.V))
 (hg:(W.setCell ⟨w.heap.size,j,none⟩ z).ownsRow (w.heap.size+2) 60 3 q'.vg q'.M.length (sgs q'.M))
 (hc:∀x∈q'.M,x∈p.M∨(W.setCell ⟨w.heap.size,j,none⟩ z).ownsRow (w.heap.size+2) 57 2 x.2 x.1.2.2.length (chs x.1.2.2))
 (hq:(W.setCell ⟨w.heap.size,j,none⟩ z).ownsRow (w.heap.size+2) 94 2 q'.vp u'.P.length (gps u'.P))
 (hm:q'.M.map Prod.fst=u'.G):BI w t p u' q' (W.setCell ⟨w.heap.size,j,none⟩ z):=
 {x:=by rw[←hx];exact h.x.set (j:=j) (by simpa[trC] using hj) z
  s:=hs,v:=hv,g:=hg,c:=hc,r:=hq,m:=hm
  b:=h.b.setCell (by simp) z
  k:=h.k.other (a:=⟨w.heap.size,j,none⟩) (by show w.heap.size≠w.heap.size+1;omega) z
  l:=h.l}
theorem zlt {w W:World} {e size n:Nat} {v:Value} {xs:List Value} (h:W.ownsRow (w.heap.size+2) e size v n xs) (j:Nat) (z:Value):(W.setCell ⟨w.heap.size,j,none⟩ z).ownsRow (w.heap.size+2) e size v n xs:=
 ownsRow_setCell_below h (by simp) z
theorem Glm.from {w w':World} (h:Glm w) (hb:Below w.heap.size w w'):Glm w':=h.below hb
theorem BI.put {w W:World} {t u:Tr} {p q:TP} (h:BI w t p u q W) {j:Nat} (hj:j<18) (z:Value) {u':Tr} (hx:(trC t p++trC u q).set j z=trC t p++trC u' q) (h1:u'.S=u.S) (h2:u'.V=u.V) (h3:u'.G=u.G) (h4:u'.P=u.P):
 BI w t p u' q (W.setCell ⟨w.heap.size,j,none⟩ z):=
 h.set hj z hx (by rw[h1];exact zlt h.s _ _) (by rw[h2];exact zlt h.v _ _) (zlt h.g _ _) (fun x hx=>(h.c x hx).imp id (fun h=>zlt h _ _)) (by rw[h4];exact zlt h.r _ _) (by rw[h3];exact h.m)
theorem BI.drew {w W:World} {t u:Tr} {p q:TP} (h:BI w t p u q W):BI w t p u q W.drew:=h.next (Below.refl _ _).drew
theorem zqu (w W:World) (t u:Tr) (p q:TP) (h:BI w t p u q W) (hg:Glm w) (hl:t.dt.length≤100000∧t.vn.length≤100000∧t.cm.length≤100000):
 Calls Tryz.prog 95 #[.pointer (some ⟨w.heap.size,0,none⟩)] W fun e W'=>zay w t p q.vp (zqw t) {u with sc:=t.sc,dt:=t.dt,vn:=t.vn,cm:=t.cm} e W':=by
 obtain⟨t1,t2,t3,t4,t5,t6,t7,t8,t9⟩:=t;have HI:=lhd h;dsimp only at hl;obtain⟨l1,l2,l3⟩:=hl;have c0:=h.x.cell (j:=0) rfl;have c1:=h.x.cell (j:=1) rfl;have c2:=h.x.cell (j:=2) rfl;have c3:=h.x.cell (j:=3) rfl;clear h;dsimp only at c0 c1 c2 c3;have HT:=lhd (zrc t1);by_cases hsc:t1< -15∨2<t1
 ·have HE:=lhd (show 2=zqw ⟨t1,t2,t3,t4,t5,t6,t7,t8,t9⟩by unfold zqw;rw[if_pos hsc])
  have HF:=lhd (show(decide (-15≤t1)&&decide (t1≤2))=false by
   rcases hsc with h|h
   ·rw[decide_eq_false (by omega)];rfl
   ·rw[decide_eq_false (show ¬t1≤2 by omega),Bool.and_false])
  clear hsc;go_enter Tryz.func95,Tryz.ntmps95;go_wp2_with fail;refine(HT.out _).mono ?_;rintro e w1 ⟨rfl,rfl⟩;rw[HF.out];go_wp2_with fail;go_ret;exact⟨znd HE.out,HI.out.b,fun h=>by rw[←HE.out]at h;cases h⟩
 ·have HF:=lhd (show(decide (-15≤t1)&&decide (t1≤2))=true by
   rw[decide_eq_true (by omega),decide_eq_true (by omega)];rfl)
  have HE:=lhd (show(if(ztA t2&&ztA t3&&ztA t4)=true then 0 else 3)=zqw ⟨t1,t2,t3,t4,t5,t6,t7,t8,t9⟩by unfold zqw;rw[if_neg hsc]);clear hsc;go_enter Tryz.func95,Tryz.ntmps95;go_wp2_with fail;refine(HT.out _).mono ?_;rintro e w1 ⟨rfl,rfl⟩;rw[HF.out];go_wp2_with fail;go_region
  clear c0 c1 c2 c3;obtain⟨L,hL⟩:∃L,L=[t2,t3,t4]:=⟨_,rfl⟩;have hL3:L.length=3:=by rw[hL];rfl
  have HL3:=lhd hL3;have HSZ:=lhd (show ∀x∈L,x.length≤100000 by rw[hL];intro x hx;simp at hx;rcases hx with rfl|rfl|rfl<;>assumption)
  have hE2:(if L.all ztA=true then 0 else 3)=zqw ⟨t1,t2,t3,t4,t5,t6,t7,t8,t9⟩:=by
   rw[←HE.out,hL];simp[Bool.and_assoc]
  have HE2:=lhd hE2
  have HC:=lhd (show ∀(k:Nat) (x:Bs),L[k]? =some x→(W.alloc (.cells #[.string (bsB t2),.string (bsB t3),.string (bsB t4)] 9)).drew.cell? ⟨W.heap.size,k,none⟩=some (.string (bsB x))from fun k x hx=>by
   rw[hL]at hx;refine(zan.fresh W #[.string (bsB t2),.string (bsB t3),.string (bsB t4)] 9).drew.cell (j:=k) ?_;match k,hx with
   |0,hx=>exact congrArg (fun y=>some (Value.string (bsB y))) (Option.some.inj hx)
   |1,hx=>exact congrArg (fun y=>some (Value.string (bsB y))) (Option.some.inj hx)
   |2,hx=>exact congrArg (fun y=>some (Value.string (bsB y))) (Option.some.inj hx)
   |k+3,hx=>simp at hx)
  have hW2:W.heap.size<(W.alloc (.cells #[.string (bsB t2),.string (bsB t3),.string (bsB t4)] 9)).drew.heap.size:=by
   show W.heap.size<(W.alloc _).heap.size;simp
  have HB0:=lhd (show Below W.heap.size W (W.alloc (.cells #[.string (bsB t2),.string (bsB t3),.string (bsB t4)] 9)).drew from((Below.refl _ _).alloc (Nat.le_refl _) _).drew);generalize (W.alloc (.cells #[.string (bsB t2),.string (bsB t3),.string (bsB t4)] 9)).drew=W2 at*;clear hE2 hL3 hL HE;have HB1:=lhd (Below.refl W2.heap.size W2);go_wp2_with fail;go_loopw [29] (fun i wr=>∃k:Nat,k≤3∧i=.int .i64 k∧(L.take k).all ztA=true∧Below W2.heap.size W2 wr) (fun i _=>3-(intOf i).toNat)
  case atStart=>exact⟨0,Nat.zero_le _,rfl,rfl,HB1.out⟩
  case round=>
   obtain⟨k,hk,rfl,hal,hb⟩:=hrel;have HB:=lhd hb;have HA:=lhd hal;clear hal hb;have HBW:=lhd (HB0.out.trans (HB.out.mono HB0.out.size));by_cases hlt:k<3
   ·have hlt3:k<L.length:=by rw[HL3.out];exact hlt
    have hxx:=List.getElem?_eq_getElem hlt3;have hsz:=HSZ.out _ (List.getElem_mem hlt3)
    have HTS:=lhd (fun(hw:ztA L[k]=true)=>show(L.take (k+1)).all ztA=true by
     rw[List.take_succ_eq_append_getElem hlt3,List.all_append,HA.out];simp[hw])
    have HTN:=lhd (fun(hw:ztA L[k]=false)=>show ¬L.all ztA=true by
     intro h;rw[List.all_eq_true]at h;have:=h _ (List.getElem_mem hlt3);rw[hw]at this;cases this)
    generalize L[k]=x at*;have d0:wr.cell? ⟨W.heap.size,k,none⟩=some (.string (bsB x)):=(HB.out.cell (p:=⟨W.heap.size,k,none⟩) hW2).trans (HC.out k _ hxx);have HVW:=lhd (zmE (bsB x) wr (by exact hsz) ((Glm.from hg HI.out.b).below HBW.out));rw[show(bsB x).data.toList=x from rfl]at HVW;clear hxx hlt3;by_cases hw:ztA x=true
    ·rw[hw]at HVW;have HTS:=lhd (HTS.out hw);clear hw;go_wp2_with fail;refine HVW.out.mono ?_;rintro e w1 ⟨rfl,hb1⟩;have HB2:=lhd (HB.out.trans (hb1.mono HB.out.size));clear hb1;go_wp2_with fail;go_roundw;case rel=>exact⟨k+1,hlt,by go_num,HTS.out,HB2.out⟩
     case measure=>simp[intOf];omega
    ·have hwf:ztA x=false:=by simpa using hw
     rw[hwf]at HVW;have HR:=lhd (show(3:Int)=zqw ⟨t1,t2,t3,t4,t5,t6,t7,t8,t9⟩by rw[←HE2.out,if_neg (HTN.out hwf)]);clear hw hwf;go_wp2_with fail;refine HVW.out.mono ?_;rintro e w1 ⟨rfl,hb1⟩;have HB2:=lhd (HBW.out.trans (hb1.mono HBW.out.size));clear hb1;go_wp2_with fail;go_ret;exact⟨znd HR.out,(HI.out.next HB2.out).b,fun h=>by rw[←HR.out]at h;cases h⟩
   ·obtain rfl:k=3:=by omega
    have HR:=lhd (show(0:Int)=zqw ⟨t1,t2,t3,t4,t5,t6,t7,t8,t9⟩by
     rw[←HE2.out,if_pos];have:=HA.out;rwa [List.take_of_length_le (by rw[HL3.out];exact Nat.le_refl _)]at this)
    have HI2:=lhd (HI.out.next HBW.out);have c0:=HI2.out.x.cell (j:=0) rfl;have c1:=HI2.out.x.cell (j:=1) rfl;have c2:=HI2.out.x.cell (j:=2) rfl;have c3:=HI2.out.x.cell (j:=3) rfl;have c9:=HI2.out.x.cell (j:=9) rfl;have c10:=HI2.out.x.cell (j:=10) rfl;have c11:=HI2.out.x.cell (j:=11) rfl;have c12:=HI2.out.x.cell (j:=12) rfl;have f9:=HI2.out.x.free (j:=9) (by simp[trC]);have f10:=HI2.out.x.free (j:=10) (by simp[trC]);have f11:=HI2.out.x.free (j:=11) (by simp[trC]);have f12:=HI2.out.x.free (j:=12) (by simp[trC]);dsimp only at c0 c1 c2 c3 c9 c10 c11 c12;have HBF:=lhd (((HI2.out.drew.put (j:=9) (by decide) (.int .i64 t1) (u':={u with sc:=t1}) rfl rfl rfl rfl rfl).put (j:=10) (by decide) (.string (bsB t2)) (u':={u with sc:=t1,dt:=t2}) rfl rfl rfl rfl rfl).put (j:=11) (by decide) (.string (bsB t3)) (u':={u with sc:=t1,dt:=t2,vn:=t3}) rfl rfl rfl rfl rfl|>.put (j:=12) (by decide) (.string (bsB t4)) (u':={u with sc:=t1,dt:=t2,vn:=t3,cm:=t4}) rfl rfl rfl rfl rfl);clear hlt;go_wp2_with fail;refine ztT (S:=fun w'=>w'.cell? ⟨w.heap.size,0,none⟩=some (.int .i64 t1)∧w'.cell? ⟨w.heap.size,1,none⟩=some (.string (bsB t2))∧w'.cell? ⟨w.heap.size,2,none⟩=some (.string (bsB t3))∧w'.cell? ⟨w.heap.size,3,none⟩=some (.string (bsB t4))) (X:=fun _=>false) (by kernel_rfl) ?_;have HS:=lhd (show wr.drew.cell? ⟨w.heap.size,0,none⟩=some (.int .i64 t1)∧wr.drew.cell? ⟨w.heap.size,1,none⟩=some (.string (bsB t2))∧wr.drew.cell? ⟨w.heap.size,2,none⟩=some (.string (bsB t3))∧wr.drew.cell? ⟨w.heap.size,3,none⟩=some (.string (bsB t4))from⟨c0,c1,c2,c3⟩);refine tkX 0 HS.out (v:=?_) ?_;simp only[tkS];refine tkX 1 HS.out (v:=?_) ?_;simp only[tkS];refine tkX 2 HS.out (v:=?_) ?_;simp only[tkS];refine tkX 3 HS.out (v:=?_) ?_;simp only[tkS];refine tkX 4 HS.out (v:=?_) ?_;simp only[tkS];refine tkX 5 HS.out (v:=?_) ?_;simp only[tkS];refine tkX 6 HS.out (v:=?_) ?_;simp only[tkS];refine tkX 7 HS.out (v:=?_) ?_;simp only[tkS];refine tkX 8 HS.out (v:=?_) ?_;simp only[tkS];refine tkX 9 HS.out (v:=?_) ?_;simp only[tkS];refine tkX 10 HS.out (v:=?_) ?_;simp only[tkS];refine tkX 11 HS.out (v:=?_) ?_;simp only[tkS];refine tkX 12 HS.out (v:=?_) ?_;simp only[tkS];refine tkX 13 HS.out (v:=?_) ?_;simp only[tkS];refine tkX 14 HS.out (v:=?_) ?_;simp only[tkS];refine tkX 15 HS.out (v:=?_) ?_;simp only[tkS];refine tkX 16 HS.out (v:=?_) ?_;simp only[tkS];refine tkX 17 HS.out (v:=?_) ?_;simp only[tkS];refine tkX 18 HS.out (v:=?_) ?_;simp only[tkS];refine tkX 19 HS.out (v:=?_) ?_;simp only[tkS];refine tkX 20 HS.out (v:=?_) ?_;simp only[tkS];refine tkX 21 HS.out (v:=?_) ?_;simp only[tkS];refine tkX 22 HS.out (v:=?_) ?_;simp only[tkS];refine tkX 23 HS.out (v:=?_) ?_;simp only[tkS];refine tkX 24 HS.out (v:=?_) ?_;simp only[tkS];refine tkX 25 HS.out (v:=?_) ?_;simp only[tkS];refine tkX 26 HS.out (v:=?_) ?_;simp only[tkS];refine ztL (i:=27) (by kernel_rfl) rfl (fun K hK=>?_);go_simp;refine hK.out _ _ (fun _=>by go_simp) ?_;clear hK;try simp only[tkS]
    refine tkX 28 (by go_simp) (v:=?_) ?_;simp only[tkS];refine tkX 29 (by go_simp) (v:=?_) ?_;simp only[tkS];refine tkX 30 (by go_simp) (v:=?_) ?_;simp only[tkS];refine ztL (i:=31) (by kernel_rfl) rfl (fun K hK=>?_);go_simp;refine hK.out _ _ (fun _=>by go_simp) ?_;clear hK;try simp only[tkS]
    refine tkX 32 (by go_simp) (v:=?_) ?_;simp only[tkS];refine tkX 33 (by go_simp) (v:=?_) ?_;simp only[tkS];refine tkX 34 (by go_simp) (v:=?_) ?_;simp only[tkS];refine ztL (i:=35) (by kernel_rfl) rfl (fun K hK=>?_);go_simp;refine hK.out _ _ (fun _=>by go_simp) ?_;clear hK;try simp only[tkS]
    refine tkX 36 (by go_simp) (v:=?_) ?_;simp only[tkS];refine tkX 37 (by go_simp) (v:=?_) ?_;simp only[tkS];refine tkX 38 (by go_simp) (v:=?_) ?_;simp only[tkS];refine ztL (i:=39) (by kernel_rfl) rfl (fun K hK=>?_);go_simp;refine hK.out _ _ (fun _=>by go_simp) ?_;clear hK;try simp only[tkS]
    refine⟨by kernel_rfl,?_⟩;clear c0 c1 c2 c3 c9 c10 c11 c12 f9 f10 f11 f12;go_wp2_with fail;go_ret;exact⟨znd HR.out,HBF.out.b,fun _=>⟨q,HBF.out,rfl⟩⟩
theorem za5 {B:Nat} {a w:World} (h:Below B a w) (n:Nat):Below B a (w.drewN n):=h.trans ⟨rfl,rfl,rfl,Nat.le_refl _,fun _ _=>rfl⟩
theorem zlp {w:World} {B e size n:Nat} {v:Value} {xs:List Value} (h:w.ownsRow B e size v n xs) (hn:0<n):
 ∃g c,v=.slice (some ⟨g,0,none⟩) n c∧n≤c∧B≤g∧g<w.heap.size∧∀j u,xs[j]? =some u→w.cell? ⟨g,j,none⟩=some u:=by
 rcases h.2 with⟨-,h0⟩|⟨g,cap,cur,e0,hb,hh,hc,-⟩
 ·omega
 refine⟨g,cap,e0,hc,hb,(Array.getElem?_eq_some_iff.1 hh).1,fun j u hj=>?_⟩;obtain⟨a',c',ev,-,-,-,h4⟩:=SlR.of_own h;obtain⟨b',o',rfl,hat⟩:=h4 hn;rw[e0]at ev;injection ev with ev _ _;injection ev with ev;injection ev with ev1 ev2 _;subst ev1 ev2;have:=hat j u hj;rwa [Nat.zero_add]at this
theorem BI.vr {w W:World} {t u:Tr} {p q:TP} (h:BI w t p u q W) {k:Nat} (hk:k<u.V.length):
 ∃g c,q.vv=.slice (some ⟨g,0,none⟩) u.V.length c∧w.heap.size+2≤g∧g<W.heap.size∧W.cell? ⟨g,k*7,none⟩=some (.string (bsB u.V[k].nm))∧W.cell? ⟨g,k*7+1,none⟩=some (.int .i64 u.V[k].ty)∧
  W.cell? ⟨g,k*7+2,none⟩=some (.int .i64 u.V[k].sc)∧W.cell? ⟨g,k*7+3,none⟩=some (.int .i64 u.V[k].sg)∧W.cell? ⟨g,k*7+4,none⟩=some (.bool u.V[k].rg)∧
  W.cell? ⟨g,k*7+5,none⟩=some (.int .i64 u.V[k].mb)∧W.cell? ⟨g,k*7+6,none⟩=some (.int .i64 u.V[k].lb):=by
 obtain⟨g,c,e,-,h1,h2,-⟩:=zlp h.v (by omega);have hs:=h.v;rw[e,show u.V=u.V.take k++u.V[k]::u.V.drop (k+1)by rw[←List.drop_eq_getElem_cons hk,List.take_append_drop]]at hs;have hl:(u.V.take k++u.V[k]::u.V.drop (k+1)).length=u.V.length:=by rw[←List.drop_eq_getElem_cons hk,List.take_append_drop]
 have hh:=SO.at (X:=u.V.take k) (Z:=u.V.drop (k+1)) (x:=u.V[k]) (by rw[hl]at hs;exact hs);rw[List.length_take,Nat.min_eq_left (Nat.le_of_lt hk)]at hh;exact⟨g,c,e,h1,h2,hh⟩
theorem BI.sg {w W:World} {t u:Tr} {p q:TP} (h:BI w t p u q W) {k:Nat} (hk:k<q.M.length):
 ∃g c,q.vg=.slice (some ⟨g,0,none⟩) q.M.length c∧w.heap.size+2≤g∧g<W.heap.size∧W.cell? ⟨g,k*3,none⟩=some (.int .i64 q.M[k].1.1)∧W.cell? ⟨g,k*3+1,none⟩=some (.int .i64 q.M[k].1.2.1)∧W.cell? ⟨g,k*3+2,none⟩=some q.M[k].2∧
  SlR W q.M[k].2 q.M[k].1.2.2.length (chs q.M[k].1.2.2):=by
 obtain⟨g,c,e,-,h1,h2,hc⟩:=zlp h.g (by omega);obtain⟨h3,h4,h5⟩:=zoH q.M k hk;refine⟨g,c,e,h1,h2,?_,?_,?_,?_⟩
 ·rw[Nat.mul_comm];exact hc _ _ h3
 ·rw[Nat.mul_comm];exact hc _ _ h4
 ·rw[Nat.mul_comm];exact hc _ _ h5
 ·rcases h.c _ (List.getElem_mem hk)with h6|h6
  ·exact(h.l _ h6).below h.b
  ·exact SlR.of_own h6
theorem BI.ml {w W:World} {t u:Tr} {p q:TP} (h:BI w t p u q W):q.M.length=u.G.length:=by rw[←h.m,List.length_map]
theorem zfr {α:Type} {f:α→Int} {l:List α} {k:Nat} (hk:k<l.length):zfq f (l.drop k)=if f l[k]≠0 then f l[k]else zfq f (l.drop (k+1)):=by
 rw[List.drop_eq_getElem_cons hk];rfl
theorem zqv (w W:World) (t u:Tr) (p q:TP) (h:BI w t p u q W) (hf:∀v∈u.V,0≤v.sg∧v.sg<u.G.length) (hl:u.V.length≤1000) (hl2:u.G.length≤1000):
 Calls Tryz.prog 97 #[.pointer (some ⟨w.heap.size,0,none⟩)] W fun e W'=>zay w t p q.vp (zfq (fitE u.G) u.V) u e W':=by
 have HI:=lhd h;have HF:=lhd hf;have c14:=h.x.cell (j:=14) rfl;obtain⟨va,vc,ev,-,-⟩:=(SlR.of_own h.v).shape;rw[ev]at c14;have HB0:=lhd (Below.refl W.heap.size W);clear h hf;go_enter Tryz.func97,Tryz.ntmps97;go_wp2_with fail;go_loopw [12] (fun i wr=>∃k:Nat,k≤u.V.length∧i=.int .i64 k∧zfq (fitE u.G) (u.V.drop k)=zfq (fitE u.G) u.V∧Below W.heap.size W wr) (fun i _=>u.V.length-(intOf i).toNat)
 case atStart=>exact⟨0,Nat.zero_le _,rfl,rfl,HB0.out⟩
 case round=>
  obtain⟨k,hk,rfl,hgo,hb⟩:=hrel;have HB:=lhd hb;have HGO:=lhd hgo;clear hgo hb c14;by_cases hlt:k<u.V.length
  ·have HI2:=lhd (HI.out.next HB.out);obtain⟨g,c,ev2,hg1,hg2,d0,d1,d2,d3,d4,d5,d6⟩:=HI2.out.vr hlt;rw[ev]at ev2;injection ev2 with ev2 _ ev3;subst ev2 ev3;obtain⟨hs1,hs2⟩:=HF.out _ (List.getElem_mem hlt);have HG1:=lhd (zfr (f:=fitE u.G) hlt);rw[HGO.out]at HG1;generalize u.V[k]=x at*;obtain⟨nm,ty,sc,sg,rg,mb,lb⟩:=x;dsimp only at d0 d1 d2 d3 d4 d5 d6 hs1 hs2;obtain⟨m,rfl⟩:∃m:Nat,sg=m:=⟨sg.toNat,by omega⟩;have hm:m<q.M.length:=by rw[HI2.out.ml];omega
   obtain⟨gg,gc,eg,hh1,hh2,s0,s1,s2,s3⟩:=HI2.out.sg hm;obtain⟨xa,xc,ex,-,-⟩:=s3.shape;rw[ex]at s2;clear s3;have c15:=HI2.out.x.cell (j:=15) rfl;rw[eg]at c15;have hML:q.M.length≤1000:=by rw[HI2.out.ml];exact hl2
   have HSG:=lhd (show sgI u.G (m:Int)=q.M[m].1 by
    unfold sgI;rw[←HI2.out.m,Int.toNat_natCast];simp[List.getD,hm])
   have HFT:=lhd (show fitE u.G ⟨nm,ty,sc,(m:Int),rg,mb,lb⟩=if q.M[m].1.1≠zhW ty∨(rg=true∧q.M[m].1.1≠0)then 7 else if rg=true∧q.M[m].1.2.1≠ztw mb lb then 8 else 0 by
    unfold fitE;rw[HSG.out])
   clear ex;generalize q.M[m].1.2.2.length=xn at*;generalize q.M[m].1=y at*;obtain⟨kd,wd,cl⟩:=y;dsimp only at s0 s1 s2 HFT;clear HSG;have hgz:=HI2.out.lt;have X4:=lhd (zan.fresh wr #[.string (bsB nm),.int .i64 ty,.int .i64 sc,.int .i64 (m:Int),.bool rg,.int .i64 mb,.int .i64 lb] 55);have hb4:Below wr.heap.size wr (wr.alloc (.cells #[.string (bsB nm),.int .i64 ty,.int .i64 sc,.int .i64 (m:Int),.bool rg,.int .i64 mb,.int .i64 lb] 55)):=(Below.refl _ _).alloc (Nat.le_refl _) _;have hz4:wr.heap.size<(wr.alloc (.cells #[.string (bsB nm),.int .i64 ty,.int .i64 sc,.int .i64 (m:Int),.bool rg,.int .i64 mb,.int .i64 lb] 55)).heap.size:=by simp
   go_wp2_with fail;generalize wr.alloc (.cells #[.string (bsB nm),.int .i64 ty,.int .i64 sc,.int .i64 (m:Int),.bool rg,.int .i64 mb,.int .i64 lb] 55)=w4 at*;have e3:=X4.out.cell (j:=3) rfl;rw[←hb4.cell (p:=⟨gg,m*3,none⟩) hh2]at s0;rw[←hb4.cell (p:=⟨gg,m*3+1,none⟩) hh2]at s1;rw[←hb4.cell (p:=⟨gg,m*3+2,none⟩) hh2]at s2;rw[←hb4.cell (p:=⟨w.heap.size,15,none⟩) hgz]at c15;have HB4:=lhd hb4;have hz6:w.heap.size<w4.heap.size:=Nat.lt_trans hgz hz4;have hz7:gg<w4.heap.size:=Nat.lt_trans hh2 hz4;clear d0 d1 d2 d3 d4 d5 d6 hb4;go_region
   have X5:=lhd (zan.fresh w4 #[.int .i64 kd,.int .i64 wd,.slice xa xn xc] 60).drew;have hb5:Below w4.heap.size w4 (w4.alloc (.cells #[.int .i64 kd,.int .i64 wd,.slice xa xn xc] 60)).drew:=((Below.refl _ _).alloc (Nat.le_refl _) _).drew;have hz5:w4.heap.size<(w4.alloc (.cells #[.int .i64 kd,.int .i64 wd,.slice xa xn xc] 60)).drew.heap.size:=by show _<(w4.alloc _).heap.size;simp
   generalize (w4.alloc (.cells #[.int .i64 kd,.int .i64 wd,.slice xa xn xc] 60)).drew=w5 at*;have X4:=lhd (X4.out.below hb5 hz4);have HB5:=lhd (HB.out.trans ((HB4.out.trans (hb5.mono HB4.out.size)).mono HB.out.size));clear s0 s1 s2 c15 e3 hb5 HB4;have r1:=X4.out.cell (j:=1) rfl;have r4:=X4.out.cell (j:=4) rfl;have r5:=X4.out.cell (j:=5) rfl;have r6:=X4.out.cell (j:=6) rfl;have v0:=X5.out.cell (j:=0) rfl;have v1:=X5.out.cell (j:=1) rfl;have HKD:=lhd (fun W=>zqV ty W);have HWI:=lhd (fun W=>zjA mb lb W);generalize zhW ty=kf at*;generalize ztw mb lb=wf at*;by_cases hA:kd=kf
   ·subst hA;cases rg with
    |false=>
     have hR:=HG1.out;simp[HFT.out]at hR;have HR:=lhd hR.symm;clear hR;go_wp2_with fail;go_quiet ((go_at_call 109;exact Calls.quiet_of_same ((HKD.out _).mono (by rintro e w ⟨rfl,rfl⟩;exact⟨rfl,rfl⟩))))
     have HB6:=lhd (za5 HB5.out nq);have q4:=(World.cell?_drewN w5 nq _).trans r4;have q5:=(World.cell?_drewN w5 nq _).trans r5;have q6:=(World.cell?_drewN w5 nq _).trans r6;have y1:=(World.cell?_drewN w5 nq _).trans v1;generalize w5.drewN nq=w6 at*;clear r1 r4 r5 r6 v0 v1;go_wp2_with fail;go_quiet (fail);clear q4 q5 q6 y1;have HB7:=lhd (za5 HB6.out nq);go_wp2_with fail;go_roundw;case rel=>exact⟨k+1,hlt,by go_num,HR.out,HB7.out⟩
     case measure=>simp[intOf];omega
    |true=>
     by_cases hk0:kd=0
     ·subst hk0;by_cases hw:wd=wf
      ·subst hw;have hR:=HG1.out;simp[HFT.out]at hR;have HR:=lhd hR.symm;clear hR;go_wp2_with fail;go_quiet ((go_at_call 109;exact Calls.quiet_of_same ((HKD.out _).mono (by rintro e w ⟨rfl,rfl⟩;exact⟨rfl,rfl⟩))))
       have HB6:=lhd (za5 HB5.out nq);have q4:=(World.cell?_drewN w5 nq _).trans r4;have q5:=(World.cell?_drewN w5 nq _).trans r5;have q6:=(World.cell?_drewN w5 nq _).trans r6;have y1:=(World.cell?_drewN w5 nq _).trans v1;generalize w5.drewN nq=w6 at*;clear r1 r4 r5 r6 v0 v1;go_wp2_with fail;go_quiet ((go_at_call 111;exact Calls.quiet_of_same ((HWI.out _).mono (by rintro e w ⟨rfl,rfl⟩;exact⟨rfl,rfl⟩))))
       clear q4 q5 q6 y1;have HB7:=lhd (za5 HB6.out nq);go_wp2_with fail;go_roundw;case rel=>exact⟨k+1,hlt,by go_num,HR.out,HB7.out⟩
       case measure=>simp[intOf];omega
      ·have bw:(wd==wf)=false:=by simpa using hw
       have hR:=HG1.out;simp[HFT.out,hw]at hR;have HR:=lhd hR.symm;clear hR;go_wp2_with fail;go_quiet ((go_at_call 109;exact Calls.quiet_of_same ((HKD.out _).mono (by rintro e w ⟨rfl,rfl⟩;exact⟨rfl,rfl⟩))))
       have HB6:=lhd (za5 HB5.out nq);have q4:=(World.cell?_drewN w5 nq _).trans r4;have q5:=(World.cell?_drewN w5 nq _).trans r5;have q6:=(World.cell?_drewN w5 nq _).trans r6;have y1:=(World.cell?_drewN w5 nq _).trans v1;generalize w5.drewN nq=w6 at*;clear r1 r4 r5 r6 v0 v1;go_wp2_with fail;go_quiet ((go_at_call 111;exact Calls.quiet_of_same ((HWI.out _).mono (by rintro e w ⟨rfl,rfl⟩;exact⟨rfl,rfl⟩))))
       clear q4 q5 q6 y1;have HB7:=lhd (za5 HB6.out nq);have HI7:=lhd (HI.out.next HB7.out);go_wp2_with fail;go_ret;exact⟨znd HR.out,HI7.out.b,fun h=>by rw[←HR.out]at h;cases h⟩
     ·have bk0:(kd==0)=false:=by simpa using hk0
      have hR:=HG1.out;rw[HFT.out,if_pos (Or.inr ⟨rfl,hk0⟩),if_pos (by decide)]at hR;have HR:=lhd hR.symm;clear hR;go_wp2_with fail;go_quiet ((go_at_call 109;exact Calls.quiet_of_same ((HKD.out _).mono (by rintro e w ⟨rfl,rfl⟩;exact⟨rfl,rfl⟩))))
      have HB6:=lhd (za5 HB5.out nq);have HI6:=lhd (HI.out.next HB6.out);clear r1 r4 r5 r6 v0 v1;go_wp2_with fail;go_ret;exact⟨znd HR.out,HI6.out.b,fun h=>by rw[←HR.out]at h;cases h⟩
   ·have bA:(kd==kf)=false:=by simpa using hA
    have hR:=HG1.out;rw[HFT.out,if_pos (Or.inl hA),if_pos (by decide)]at hR;have HR:=lhd hR.symm;clear hR;go_wp2_with fail;go_quiet ((go_at_call 109;exact Calls.quiet_of_same ((HKD.out _).mono (by rintro e w ⟨rfl,rfl⟩;exact⟨rfl,rfl⟩))))
    have HB6:=lhd (za5 HB5.out nq);have HI6:=lhd (HI.out.next HB6.out);clear r1 r4 r5 r6 v0 v1;go_wp2_with fail;go_ret;exact⟨znd HR.out,HI6.out.b,fun h=>by rw[←HR.out]at h;cases h⟩
  ·obtain rfl:k=u.V.length:=by omega
   have HR:=lhd (show(0:Int)=zfq (fitE u.G) u.V by rw[←HGO.out,List.drop_length];rfl);have HI2:=lhd (HI.out.next HB.out);go_wp2_with fail;go_ret;exact⟨znd HR.out,HI2.out.b,fun _=>⟨q,HI2.out,rfl⟩⟩
theorem zoK (A D:List (Sg×Value)) (x y:Sg) (v u:Value):
 ((((sgs (A++(x,v)::D)).set (A.length*3) (.int .i64 y.1)).set (A.length*3+1) (.int .i64 y.2.1)).set (A.length*3+2) u)=sgs (A++(y,u)::D):=by
 have h3:(sgs A).length=A.length*3:=by rw[zoJ];omega
 rw[zoG,zoG,zoI,zoI];rw[List.set_append,if_neg (by omega),h3,Nat.sub_self,List.set_append,if_neg (by omega),h3,show A.length*3+1-A.length*3=1 by omega,List.set_append,if_neg (by omega),h3,show A.length*3+2-A.length*3=2 by omega];rfl
theorem BI.put3 {w W:World} {t u:Tr} {p q:TP} (h:BI w t p u q W) {A D:List (Sg×Value)} {x y:Sg} {v v':Value} (e:q.M=A++(x,v)::D) {g c:Nat} (eg:q.vg=.slice (some ⟨g,0,none⟩) q.M.length c)
 (ho:(y,v')∈p.M∨W.ownsRow (w.heap.size+2) 57 2 v' y.2.2.length (chs y.2.2)):
 BI w t p {u with G:=(A++(y,v')::D).map Prod.fst} {q with M:=A++(y,v')::D} (((W.setCell ⟨g,A.length*3,none⟩ (.int .i64 y.1)).setCell ⟨g,A.length*3+1,none⟩ (.int .i64 y.2.1)).setCell ⟨g,A.length*3+2,none⟩ v'):=by
 obtain⟨hx,hs,hv,hg,hc,hr,hm,hb,hk,hl0⟩:=h;obtain⟨vs,vv,vg,vp,M⟩:=q;dsimp only at*;subst e eg;have hlo:=zly hg (g:=g) rfl;have hne:∀{W:World} {e' size n:Nat} {z:Value} {xs:List Value} {o:Nat} {z':Value},W.ownsRow (w.heap.size+2) e' size z n xs→z.ownBlock≠some g→(W.setCell ⟨g,o,none⟩ z').ownsRow (w.heap.size+2) e' size z n xs:=fun h h'=>ownsRow_setCell_other (a:=⟨g,_,none⟩) h h' _;have h1:=zlE (zlE (zlE hg (A.length*3) (.int .i64 y.1)) (A.length*3+1) (.int .i64 y.2.1)) (A.length*3+2) v';rw[zoK]at h1;have hl:(A++(x,v)::D).length=(A++(y,v')::D).length:=by simp
 have hgb:g≠w.heap.size:=by omega
 have hgb2:g≠w.heap.size+1:=by omega
 refine⟨?_,?_,?_,?_,?_,?_,rfl,?_,?_,hl0⟩
 ·exact((hx.other (a:=⟨g,_,none⟩) hgb _).other (a:=⟨g,_,none⟩) hgb _).other (a:=⟨g,_,none⟩) hgb _
 ·have hn:=zlA hs hg (by decide) (g:=g) rfl;exact hne (hne (hne hs hn) hn) hn
 ·have hn:=zlA hv hg (by decide) (g:=g) rfl;exact hne (hne (hne hv hn) hn) hn
 ·show World.ownsRow _ _ _ _ _ (A++(y,v')::D).length _;rw[←hl];exact h1
 ·intro z hz;rcases List.mem_append.1 hz with hz|hz
  ·refine(hc z (List.mem_append_left _ hz)).imp id fun h0=>?_;have hn:=zlA h0 hg (by decide) (g:=g) rfl;exact hne (hne (hne h0 hn) hn) hn
  ·rcases List.mem_cons.1 hz with rfl|hz
   ·refine ho.imp id fun h0=>?_;have hn:=zlA h0 hg (by decide) (g:=g) rfl;exact hne (hne (hne h0 hn) hn) hn
   ·refine(hc z (List.mem_append_right _ (List.mem_cons_of_mem _ hz))).imp id fun h0=>?_;have hn:=zlA h0 hg (by decide) (g:=g) rfl;exact hne (hne (hne h0 hn) hn) hn
 ·have hn:=zlA hr hg (by decide) (g:=g) rfl;exact hne (hne (hne hr hn) hn) hn
 ·exact((hb.setCell (p:=⟨g,_,none⟩) (by show w.heap.size≤g;omega) _).setCell (p:=⟨g,_,none⟩) (by show w.heap.size≤g;omega) _).setCell (p:=⟨g,_,none⟩) (by show w.heap.size≤g;omega) _
 ·exact((hk.other (a:=⟨g,_,none⟩) hgb2 _).other (a:=⟨g,_,none⟩) hgb2 _).other (a:=⟨g,_,none⟩) hgb2 _
theorem BI.vgk {w W:World} {t u:Tr} {p q:TP} (h:BI w t p u q W):∃a c,q.vg=.slice a q.M.length c:=by
 obtain⟨a,c,e,-,-⟩:=(SlR.of_own h.g).shape;exact⟨a,c,e⟩
theorem zqr (w W:World) (t u:Tr) (p q:TP) (h:BI w t p u q W) (hgl:Glob w) (hf:∀s∈u.G,Fit s.2.2) (hl2:u.G.length≤1000):
 Calls Tryz.prog 98 #[.pointer (some ⟨w.heap.size,0,none⟩)] W fun e W'=>zay w t p q.vp (zjJ u.G) {u with G:=zjO u.G} e W':=by
 have HI:=lhd h;have HF:=lhd hf;have c15:=h.x.cell (j:=15) rfl;obtain⟨ga,gc,eg⟩:=h.vgk;have hML:=h.ml;obtain⟨n,hn⟩:∃n,q.M.length=n:=⟨_,rfl⟩;have hn2:n≤1000:=by rw[←hn,hML];exact hl2
 have HN:=lhd (show u.G.length=n by rw[←hML];exact hn);rw[eg,hn]at c15;rw[hn]at eg;have HEG:=lhd eg;have HMN:=lhd hn;clear h hf hML hn eg hl2;go_enter Tryz.func98,Tryz.ntmps98;go_wp2_with fail;go_loopw [13] (fun i wr=>∃k:Nat,k≤n∧i=.int .i64 k∧zjJ (u.G.drop k)=zjJ u.G∧∃q',BI w t p {u with G:=zjO (u.G.take k)++u.G.drop k} q' wr∧q'.vg=.slice ga n gc∧q'.vp=q.vp) (fun i _=>n-(intOf i).toNat)
 case atStart=>exact⟨0,Nat.zero_le _,rfl,rfl,q,HI.out,HEG.out,rfl⟩
 case round=>
  obtain⟨k,hk,rfl,hgo,q',hi,heg,hvp⟩:=hrel;have HVP:=lhd hvp;clear hvp;have HGO:=lhd hgo;have HI2:=lhd hi;have HEG2:=lhd heg;clear hgo hi heg c15;by_cases hlt:k<n
  ·have hku:k<u.G.length:=by rw[HN.out];exact hlt
   have hml:=HI2.out.ml
   have hul:(zjO (u.G.take k)++u.G.drop k).length=n:=by
    rw[List.length_append,List.length_drop,HN.out];unfold zjO;rw[List.length_map,List.length_take,HN.out];omega
   have hmn:q'.M.length=n:=by rw[hml];exact hul
   have hkm:k<q'.M.length:=by rw[hmn];exact hlt
   have hMk:q'.M[k].1=u.G[k]:=by
    have h1:(q'.M.map Prod.fst)[k]? =some q'.M[k].1:=by rw[List.getElem?_map,List.getElem?_eq_getElem hkm];rfl
    rw[HI2.out.m]at h1;dsimp only at h1;have hnl:(zjO (u.G.take k)).length=k:=by unfold zjO;rw[List.length_map,List.length_take,HN.out];omega
    rw[List.getElem?_append_right (by omega),hnl,Nat.sub_self,List.getElem?_drop,Nat.add_zero,List.getElem?_eq_getElem hku]at h1;exact(Option.some.inj h1).symm
   have hsplit:q'.M=q'.M.take k++(q'.M[k].1,q'.M[k].2)::q'.M.drop (k+1):=by
    rw[←List.drop_eq_getElem_cons hkm,List.take_append_drop]
   obtain⟨g,c,eg2,hg1,hg2,s0,s1,s2,s3⟩:=HI2.out.sg hkm;have eg3:=HEG2.out;rw[eg2]at eg3;injection eg3 with eg3 _ eg4;subst eg3 eg4;have c15:=HI2.out.x.cell (j:=15) rfl;rw[eg2,hmn]at c15;have HEQ:=lhd eg2;have hlow:w.heap.size<wr.heap.size:=HI2.out.lt;have hlow2:=HI2.out.lt2;have hnl:(zjO (u.G.take k)).length=k:=by unfold zjO;rw[List.length_map,List.length_take,HN.out];omega
   have hA:(q'.M.take k).length=k:=by rw[List.length_take];omega
   have hAm:(q'.M.take k).map Prod.fst=zjO (u.G.take k):=by
    rw[List.map_take,HI2.out.m];dsimp only;rw[List.take_append_of_le_length (by omega),List.take_of_length_le (by omega)]
   have hDm:(q'.M.drop (k+1)).map Prod.fst=u.G.drop (k+1):=by
    rw[List.map_drop,HI2.out.m];dsimp only;rw[List.drop_append,hnl,List.drop_of_length_le (by omega),List.nil_append,List.drop_drop,show k+(k+1-k)=k+1 by omega]
   have HNR:=lhd (zfr (f:=fun s:Sg=>(zjT s.1 s.2.1 s.2.2).2) hku)
   have HGK:=lhd (fun(y:Sg) (v:Value) (hy:y=(zjT u.G[k].1 u.G[k].2.1 u.G[k].2.2).1)=>show(q'.M.take k++(y,v)::q'.M.drop (k+1)).map Prod.fst=zjO (u.G.take (k+1))++u.G.drop (k+1)by
    rw[List.map_append,List.map_cons,hAm,hDm,List.take_succ_eq_append_getElem hku];unfold zjO;rw[List.map_append,hy];simp)
   have hfk:=HF.out _ (List.getElem_mem hku);rw[hMk]at s0 s1 s3 hsplit;have HSP:=lhd hsplit;have HAK:=lhd hA;generalize u.G[k]=x at*;obtain⟨kd,wd,cl⟩:=x;dsimp only at s0 s1 s2 s3 hfk;generalize q'.M[k].2=vx at*;obtain⟨xa,xc,rfl,-,-⟩:=s3.shape;have hls:=hfk.1;have HBX:=lhd (show Below wr.heap.size wr (wr.alloc (.cells #[.int .i64 kd,.int .i64 wd,.slice xa cl.length xc] 60))from(Below.refl _ _).alloc (Nat.le_refl _) _);have HSX:=lhd (zoW kd wd (.slice xa cl.length xc) cl (wr.alloc (.cells #[.int .i64 kd,.int .i64 wd,.slice xa cl.length xc] 60)) ((hgl.below HI2.out.b).below HBX.out) (s3.below HBX.out) hfk);clear hmn hkm hku hul hml hMk hsplit eg2 hAm hDm hnl s3;go_wp2_with fail;refine HSX.out.mono ?_;rintro e w5 ⟨v5,rfl,ho5,hb5⟩;obtain⟨⟨⟨ky,wy,ly⟩,cy⟩,hny⟩:∃r,r=zjT kd wd cl:=⟨_,rfl⟩;rw[←hny]at ho5 HNR HGK⊢;have HNRR:=lhd hny;clear hny;dsimp only at ho5⊢;obtain⟨va,vc,rfl,-,-⟩:=(SlR.of_own ho5).shape;have hX5:=HBX.out.trans (hb5.mono HBX.out.size);have HB5:=lhd hX5;have HO5:=lhd (zlI ho5 (show w.heap.size+2≤_ by have:=HBX.out.size;omega));have hg5:g<w5.heap.size:=Nat.lt_of_lt_of_le hg2 hX5.size;have hw5:w.heap.size<w5.heap.size:=Nat.lt_of_lt_of_le hlow hX5.size;rw[←hX5.cell (p:=⟨w.heap.size,15,none⟩) hlow]at c15;rw[←hX5.cell (p:=⟨g,k*3,none⟩) hg2]at s0;rw[←hX5.cell (p:=⟨g,k*3+1,none⟩) hg2]at s1;rw[←hX5.cell (p:=⟨g,k*3+2,none⟩) hg2]at s2;clear ho5 hb5 hX5 HSX HBX hA;have HI5:=lhd (HI2.out.next HB5.out);have HBA:=lhd (show Below w5.heap.size w5 (w5.alloc (.cells #[.int .i64 ky,.int .i64 wy,.slice va ly.length vc] 60))from(Below.refl _ _).alloc (Nat.le_refl _) _);have HI6:=lhd (HI5.out.next HBA.out);by_cases hcy:cy=0
   ·subst hcy
    have HG2:=lhd (show zjJ (u.G.drop (k+1))=zjJ u.G by
     rw[←HGO.out];have:=HNR.out;rw[if_neg (by simp)]at this;exact this.symm)
    have HXF:=lhd (zan.fresh w5 #[.int .i64 ky,.int .i64 wy,.slice va ly.length vc] 60);have hfz:=HI6.out.g;rw[HEQ.out]at hfz;have HFZ:=lhd (zlw hfz);clear hfz;have HOV:=lhd (za8 HO5.out HBA.out);have hg6:g<(w5.alloc (.cells #[.int .i64 ky,.int .i64 wy,.slice va ly.length vc] 60)).heap.size:=Nat.lt_of_lt_of_le hg5 HBA.out.size;rw[←HBA.out.cell (p:=⟨w.heap.size,15,none⟩) hw5]at c15;rw[←HBA.out.cell (p:=⟨g,k*3,none⟩) hg5]at s0;rw[←HBA.out.cell (p:=⟨g,k*3+1,none⟩) hg5]at s1;rw[←HBA.out.cell (p:=⟨g,k*3+2,none⟩) hg5]at s2;have e0:=HXF.out.cell (j:=0) rfl;have e1:=HXF.out.cell (j:=1) rfl;have e2:=HXF.out.cell (j:=2) rfl;have z0:=HFZ.out (k*3);have z1:=HFZ.out (k*3+1);have z2:=HFZ.out (k*3+2);go_wp2_with fail;generalize w5.alloc (.cells #[.int .i64 ky,.int .i64 wy,.slice va ly.length vc] 60)=w6 at*;go_region
    clear c15 s0 s1 s2 e0 e1 e2 z0 z1 z2;have HFIN:=HI6.out.drew.put3 (y:=(ky,wy,ly)) (v':=.slice va ly.length vc) HSP.out HEQ.out (Or.inr HOV.out.drew);rw[HAK.out]at HFIN;have hgk:=HGK.out (ky,wy,ly) (.slice va ly.length vc) rfl;rw[hgk]at HFIN;have HFIN:=lhd HFIN;clear hgk;go_wp2_with fail;go_roundw;case rel=>exact⟨k+1,hlt,by go_num,HG2.out,_,HFIN.out,HEG2.out,HVP.out⟩
    case measure=>simp[intOf];omega
   ·have bcy:(cy==0)=false:=by simpa using hcy
    have HR:=lhd (show cy=zjJ u.G by
     rw[←HGO.out];have:=HNR.out;rw[if_pos hcy]at this;exact this.symm)
    clear c15 s0 s1 s2;go_wp2_with fail;go_ret;exact⟨znd HR.out,HI6.out.b,fun h=>absurd (HR.out.trans h) hcy⟩
  ·obtain rfl:k=n:=by omega
   have HR:=lhd (show(0:Int)=zjJ u.G by rw[←HGO.out,List.drop_of_length_le (by rw[HN.out];exact Nat.le_refl _)];rfl);have hfin:=HI2.out;rw[List.take_of_length_le (by rw[HN.out];exact Nat.le_refl _),List.drop_of_length_le (by rw[HN.out];exact Nat.le_refl _),List.append_nil]at hfin;have HI3:=lhd hfin;clear hfin;go_wp2_with fail;go_ret;exact⟨znd HR.out,HI3.out.b,fun _=>⟨q',HI3.out,HVP.out⟩⟩
end Go.Proofs.YtfppgpamkdkckaaGreatDoor
