import Derived.Test.YtbiadennhnokhaaGreatDoorZ00
import Derived.Lib.Hide
import Derived.Test.YtbiadennhnokhaaGreatDoorProg
import Derived.WalkKit
import Derived.WalkLawsBesides
import Derived.WalkSpells
set_option maxRecDepth 100000
set_option maxHeartbeats 16000000
namespace Go.Proofs.YtbiadennhnokhaaGreatDoor
open Go.RowKit
theorem zeG {a b c:World} (h:Below a.heap.size a b) (k:Below b.heap.size b c):Below a.heap.size a c:=h.trans (k.mono h.size)
theorem zbv {W w1:World} (hb:Below W.heap.size W w1):(∀b o,b<W.heap.size→w1.cell? ⟨b,o,none⟩=W.cell? ⟨b,o,none⟩)∧(∀b o,b<W.heap.size→w1.frozen? ⟨b,o,none⟩=W.frozen? ⟨b,o,none⟩):=
 ⟨fun b o h=>hb.cell (p:=⟨b,o,none⟩) h,fun b o h=>hb.frozen (p:=⟨b,o,none⟩) h⟩
theorem zcn {w:World} {b o:Nat} {v:Value} (h:w.cell? ⟨b,o,none⟩=some v):b<w.heap.size:=World.block_lt_of_cell? (h:=h)
theorem zlF {k:IntKind} {a b:Int} (h:a=b):Ending.returned (.int k a)=.returned (.int k b):=by rw[h]
theorem zlE {a b:Bool} (h:a=b):Ending.returned (.bool a)=.returned (.bool b):=by rw[h]
theorem zlH {a b:ByteArray} (h:a=b):Ending.returned (.string a)=.returned (.string b):=by rw[h]
theorem zaJ (b o j:Nat):(⟨b,o,none⟩:Addr).add j=⟨b,o+j,none⟩:=by unfold Addr.add;split<;>simp_all
theorem zlI {a b:ByteArray} {i j:Int} (h:(a,i)=(b,j)):Ending.returned (.tuple #[.string a,.int .i64 i])=.returned (.tuple #[.string b,.int .i64 j]):=by
 injection h with h1 h2;rw[h1,h2]
def zas (w:World) (b:Nat) (xs:List Value):Prop:=
 ∀j v,xs[j]? =some v→w.cell? ⟨b,j,none⟩=some v∧w.frozen? ⟨b,j,none⟩=false
theorem zas.cell {w:World} {b:Nat} {xs:List Value} (h:zas w b xs) {j:Nat} {v:Value} (hj:xs[j]? =some v):w.cell? ⟨b,j,none⟩=some v:=(h j v hj).1
theorem zas.free {w:World} {b:Nat} {xs:List Value} (h:zas w b xs) {j:Nat} (hj:j<xs.length):w.frozen? ⟨b,j,none⟩=false:=(h j _ (List.getElem?_eq_getElem hj)).2
theorem zas.below {w w':World} {B b:Nat} {xs:List Value} (h:zas w b xs) (hb:Below B w w') (hB:b<B):zas w' b xs:=
 fun j v hj=>⟨(hb.cell (p:=⟨b,j,none⟩) hB).trans (h j v hj).1,(hb.frozen (p:=⟨b,j,none⟩) hB).trans (h j v hj).2⟩
theorem zas.drew {w:World} {b:Nat} {xs:List Value} (h:zas w b xs):zas w.drew b xs:=h
theorem zas.set {w:World} {b:Nat} {xs:List Value} (h:zas w b xs) {j:Nat} (hj:j<xs.length) (u:Value):zas (w.setCell ⟨b,j,none⟩ u) b (xs.set j u):=by
 intro i v hi;have hc:=h.cell (List.getElem?_eq_getElem hj);by_cases e:i=j
 ·subst e;rw[List.getElem?_set_self hj]at hi;obtain rfl:=Option.some.inj hi;exact⟨World.cell?_setCell_same _ _ _ hc,by rw[World.frozen?_setCell];exact h.free hj⟩
 ·rw[List.getElem?_set_ne (fun h=>e h.symm)]at hi;refine⟨?_,by rw[World.frozen?_setCell];exact(h i v hi).2⟩;rw[World.cell?_setCell_other (h:=by intro h;apply e;injection h with _ h2 _;exact h2.symm)];exact(h i v hi).1
def SlR (w:World) (v:Value) (n:Nat) (xs:List Value):Prop:=
 ∃a cap,v=.slice a n cap∧n≤cap∧cap≤maxLen∧(a=none→cap=0)∧(0<n→∃b o,a=some ⟨b,o,none⟩∧∀j u,xs[j]? =some u→w.cell? ⟨b,o+j,none⟩=some u)
theorem SlR.below {w w':World} {v:Value} {n:Nat} {xs:List Value} (h:SlR w v n xs) (hb:Below w.heap.size w w'):SlR w' v n xs:=by
 obtain⟨a,cap,hv,h1,h2,h3,h4⟩:=h;refine⟨a,cap,hv,h1,h2,h3,fun hn=>?_⟩;obtain⟨b,o,ha,hc⟩:=h4 hn;refine⟨b,o,ha,fun j u hj=>?_⟩;have:=hc j u hj;exact(hb.cell (p:=⟨b,o+j,none⟩) (zcn this)).trans this
theorem SlR.nil (w:World):SlR w (.slice none 0 0) 0 []:=⟨none,0,rfl,Nat.le_refl _,by simp[maxLen],fun _=>rfl,fun h=>absurd h (by simp)⟩
theorem SlR.of_own {w:World} {base e size:Nat} {v:Value} {n:Nat} {xs:List Value} (h:w.ownsRow base e size v n xs):SlR w v n xs:=by
 rcases h.2 with⟨rfl,rfl⟩|⟨g,cap,cur,rfl,hb,hg,hn,hm,hs,hx⟩
 ·exact⟨none,0,rfl,Nat.le_refl _,by simp[maxLen],fun _=>rfl,fun h=>absurd h (by simp)⟩
 ·refine⟨some ⟨g,0,none⟩,cap,rfl,hn,hm,fun h=>by simp at h,fun _=>⟨g,0,rfl,fun j u hj=>?_⟩⟩;have:=h.cells (g:=g) rfl j u hj;rwa [zaJ]at this
theorem SlR.at {w:World} {v:Value} {n:Nat} {xs:List Value} (h:SlR w v n xs) (hn:0<n):
 ∃b o cap,v=.slice (some ⟨b,o,none⟩) n cap∧n≤cap∧cap≤maxLen∧∀j u,xs[j]? =some u→w.cell? ⟨b,o+j,none⟩=some u:=by
 obtain⟨a,cap,hv,h1,h2,h3,h4⟩:=h;obtain⟨b,o,rfl,hc⟩:=h4 hn;exact⟨b,o,cap,hv,h1,h2,hc⟩
theorem SlR.zero {w:World} {v:Value} {xs:List Value} (h:SlR w v 0 xs):∃a cap,v=.slice a 0 cap∧cap≤maxLen∧(a=none→cap=0):=by
 obtain⟨a,cap,hv,h1,h2,h3,h4⟩:=h;exact⟨a,cap,hv,h2,h3⟩
theorem SlR.shape {w:World} {v:Value} {n:Nat} {xs:List Value} (h:SlR w v n xs):∃a cap,v=.slice a n cap∧n≤cap∧cap≤maxLen:=by
 obtain⟨a,cap,hv,h1,h2,h3,h4⟩:=h;exact⟨a,cap,hv,h1,h2⟩
theorem SlR.cut {w:World} {a:Option Addr} {n k cap cap':Nat} {xs ys:List Value} (h:SlR w (.slice a n cap) n (xs++ys)) (hk:k≤n) (hc:k≤cap') (hc':cap'≤cap):SlR w (.slice a k cap') k xs:=by
 obtain⟨a',cap1,hv,h1,h2,h3,h4⟩:=h;injection hv with e1 e2 e3;subst e1 e3;refine⟨_,cap',rfl,hc,by omega,fun h=>by have:=h3 h;omega,fun hn=>?_⟩;obtain⟨b,o,ha,hcc⟩:=h4 (by omega);exact⟨b,o,ha,fun j u hj=>hcc j u (by rw[List.getElem?_append_left];exact hj;exact(List.getElem?_eq_some_iff.1 hj).1)⟩
theorem box3 {w W:World} {x y z:Value} {T:TypeId} (hb:Below (w.alloc (.cells #[x,y,z] T)).heap.size (w.alloc (.cells #[x,y,z] T)) W):
 W.cell? ⟨w.heap.size,0,none⟩=some x∧W.cell? ⟨w.heap.size,1,none⟩=some y∧W.cell? ⟨w.heap.size,2,none⟩=some z:=by
 have h:∀i,W.cell? ⟨w.heap.size,i,none⟩=(#[x,y,z]:Array Value)[i]? :=fun i=>by
  rw[hb.cell (p:=⟨w.heap.size,i,none⟩) (by simp),World.cell?_alloc_mark]
 exact⟨h 0,h 1,h 2⟩
theorem zbm (a:ByteArray) (l:List UInt8) (h:a.data.toList=l):a=⟨l.toArray⟩:=by
 obtain⟨d⟩:=a;subst h;rfl
theorem zas.fresh (w:World) (C:Array Value) (T:TypeId):zas (w.alloc (.cells C T)) w.heap.size C.toList:=by
 intro j v hj;refine⟨?_,?_⟩
 ·rw[World.cell?_alloc_mark];simpa using hj
 ·rw[World.frozen?_alloc_mark];simp
theorem zas.alloc {w:World} {b:Nat} {xs:List Value} (h:zas w b xs) (hb:b<w.heap.size) (o:Obj):zas (w.alloc o) b xs:=
 h.below ((Below.refl _ w).alloc (Nat.le_refl _) o) hb
theorem zcm {w:World} {b o:Nat} {v:Value} (h:w.cell? ⟨b,o,none⟩=some v) (x:Obj):(w.alloc x).cell? ⟨b,o,none⟩=some v:=
 (((Below.refl _ w).alloc (Nat.le_refl _) x).cell (p:=⟨b,o,none⟩) (zcn h)).trans h
theorem zbW {w W:World} {x y z:Value} {T:TypeId} (hb:Below (w.alloc (.cells #[x,y,z] T)).heap.size (w.alloc (.cells #[x,y,z] T)) W):
 W.frozen? ⟨w.heap.size,0,none⟩=false∧W.frozen? ⟨w.heap.size,1,none⟩=false∧W.frozen? ⟨w.heap.size,2,none⟩=false:=by
 have h:∀i,W.frozen? ⟨w.heap.size,i,none⟩=false:=fun i=>by
  rw[hb.frozen (p:=⟨w.heap.size,i,none⟩) (by simp),World.frozen?_alloc_mark];simp
 exact⟨h 0,h 1,h 2⟩
theorem zeF {w w1:World} {o:Obj} (hb:Below (w.alloc o).heap.size (w.alloc o) w1):Below w.heap.size w w1:=
 ((Below.refl _ _).alloc (Nat.le_refl _) o).trans (hb.mono (by simp))
theorem set3 {w:World} {b:Nat} {x y z:Value} (h0:w.cell? ⟨b,0,none⟩=some x) (h1:w.cell? ⟨b,1,none⟩=some y) (h2:w.cell? ⟨b,2,none⟩=some z) (p q r:Value):
 (((w.setCell ⟨b,0,none⟩ p).setCell ⟨b,1,none⟩ q).setCell ⟨b,2,none⟩ r).cell? ⟨b,0,none⟩=some p∧(((w.setCell ⟨b,0,none⟩ p).setCell ⟨b,1,none⟩ q).setCell ⟨b,2,none⟩ r).cell? ⟨b,1,none⟩=some q∧(((w.setCell ⟨b,0,none⟩ p).setCell ⟨b,1,none⟩ q).setCell ⟨b,2,none⟩ r).cell? ⟨b,2,none⟩=some r:=by
 have o:∀(W:World) (i j:Nat) (v u:Value),i≠j→W.cell? ⟨b,i,none⟩=some v→(W.setCell ⟨b,j,none⟩ u).cell? ⟨b,i,none⟩=some v:=fun W i j v u hij h=>by
  rw[World.cell?_setCell_other (h:=by intro e;apply hij;injection e with _ e2 _;exact e2.symm)];exact h
 have s:∀(W:World) (i:Nat) (v u:Value),W.cell? ⟨b,i,none⟩=some v→(W.setCell ⟨b,i,none⟩ u).cell? ⟨b,i,none⟩=some u:=fun W i v u h=>World.cell?_setCell_same _ _ _ h;exact⟨o _ _ _ _ _ (by omega) (o _ _ _ _ _ (by omega) (s _ _ _ _ h0)),o _ _ _ _ _ (by omega) (s _ _ _ _ (o _ _ _ _ _ (by omega) h1)),s _ _ _ _ (o _ _ _ _ _ (by omega) (o _ _ _ _ _ (by omega) h2))⟩
theorem boxN {w W:World} {C:Array Value} {T:TypeId} (hb:Below (w.alloc (.cells C T)).heap.size (w.alloc (.cells C T)) W) (i:Nat):
 W.cell? ⟨w.heap.size,i,none⟩=C[i]? ∧W.frozen? ⟨w.heap.size,i,none⟩=false:=by
 refine⟨?_,?_⟩
 ·rw[hb.cell (p:=⟨w.heap.size,i,none⟩) (by simp),World.cell?_alloc_mark]
 ·rw[hb.frozen (p:=⟨w.heap.size,i,none⟩) (by simp),World.frozen?_alloc_mark];simp
theorem zbo {s v:ByteArray} (h:s≠v):(s.toList==v.toList)=false:=by
 rw[beq_eq_false_iff_ne,ByteArray.toList_eq,ByteArray.toList_eq];intro e;apply h;obtain⟨⟨a⟩⟩:=s;obtain⟨⟨b⟩⟩:=v;simp at e;rw[e]
def zc0 (c:UInt8):Int:=if c=48 then 0 else if c=49 then 1 else if c=120 then 2 else if c=122 then 3 else-1
theorem zpG {a b:UInt8} (h:a≠b):((a.toNat:Int)==(b.toNat:Int))=false:=by
 rw[beq_eq_false_iff_ne];intro e;apply h;apply UInt8.toNat_inj.1;omega
theorem zhS (c:UInt8) (w:World):
 Calls Tryz.prog 279 #[.int .u8 c.toNat] w fun e w'=>e=.returned (.int .i64 (zc0 c))∧w=w':=by
 by_cases h0:c=48
 ·subst h0;go_enter Tryz.func279,Tryz.ntmps279;go_wp2
  refine wp_loop_rounds 5 ?_;rw[rounds_succ];go_wp2
  go_ret;exact⟨rfl,rfl⟩
 by_cases h1:c=49
 ·subst h1;go_enter Tryz.func279,Tryz.ntmps279;go_wp2
  refine wp_loop_rounds 5 ?_;iterate 2 (rw[rounds_succ];go_wp2)
  go_ret;exact⟨rfl,rfl⟩
 by_cases h2:c=120
 ·subst h2;go_enter Tryz.func279,Tryz.ntmps279;go_wp2
  refine wp_loop_rounds 5 ?_;iterate 3 (rw[rounds_succ];go_wp2)
  go_ret;exact⟨rfl,rfl⟩
 by_cases h3:c=122
 ·subst h3;go_enter Tryz.func279,Tryz.ntmps279;go_wp2
  refine wp_loop_rounds 5 ?_;iterate 4 (rw[rounds_succ];go_wp2)
  go_ret;exact⟨rfl,rfl⟩
 have g0:=zpG (a:=(⟨#[48,49,120,122]⟩:ByteArray)[0]) (b:=c) (fun e=>h0 e.symm);have g1:=zpG (a:=(⟨#[48,49,120,122]⟩:ByteArray)[1]) (b:=c) (fun e=>h1 e.symm);have g2:=zpG (a:=(⟨#[48,49,120,122]⟩:ByteArray)[2]) (b:=c) (fun e=>h2 e.symm);have g3:=zpG (a:=(⟨#[48,49,120,122]⟩:ByteArray)[3]) (b:=c) (fun e=>h3 e.symm);have e:zc0 c= -1:=by simp[zc0,h0,h1,h2,h3]
 have E:=lhd e;clear e;go_enter Tryz.func279,Tryz.ntmps279;go_wp2
 refine wp_loop_rounds 5 ?_;iterate 5 (rw[rounds_succ];go_wp2)
 go_ret;exact⟨zlF E.out.symm,rfl⟩
def cntC (j:Int) (l:List UInt8):Nat:=(l.filter fun c=>zc0 c==j).length
theorem zcX (j:Int) (l:List UInt8):cntC j l≤l.length:=List.length_filter_le _ _
theorem zcY (j:Int) (l:List UInt8) (c:UInt8):cntC j (l++ [c])=cntC j l+if zc0 c=j then 1 else 0:=by
 unfold cntC;by_cases h:zc0 c=j<;>simp[List.filter_append,h]
theorem zo1 (s:ByteArray) (k:Nat) (h:k<s.size):s.data.toList.take (k+1)=s.data.toList.take k++ [s[k]]:=by
 rw[List.take_succ_eq_append_getElem (by simpa using h)];rfl
theorem zc1 (c:UInt8):zc0 c=0∨zc0 c=1∨zc0 c=2∨zc0 c=3∨zc0 c= -1:=by
 unfold zc0;repeat' split
 all_goals simp
def cnt4 (l:List UInt8):Array Value:=#[.int .i64 (cntC 0 l),.int .i64 (cntC 1 l),.int .i64 (cntC 2 l),.int .i64 (cntC 3 l)]
theorem zcW (s:ByteArray) (k:Nat) (h:k<s.size) {j:Int} (hj:zc0 s[k]=j):
 cntC 0 (s.data.toList.take (k+1))=cntC 0 (s.data.toList.take k)+(if j=0 then 1 else 0)∧
 cntC 1 (s.data.toList.take (k+1))=cntC 1 (s.data.toList.take k)+(if j=1 then 1 else 0)∧
 cntC 2 (s.data.toList.take (k+1))=cntC 2 (s.data.toList.take k)+(if j=2 then 1 else 0)∧
 cntC 3 (s.data.toList.take (k+1))=cntC 3 (s.data.toList.take k)+(if j=3 then 1 else 0):=by
 subst hj;rw[zo1 s k h];exact⟨zcY _ _ _,zcY _ _ _,zcY _ _ _,zcY _ _ _⟩
theorem zhT (s:ByteArray) (w:World) (hs:s.size≤maxLen):
 Calls Tryz.prog 246 #[.string s] w fun e w'=>e=.returned (.agg (cnt4 s.data.toList))∧Below w.heap.size w w':=by
 unfold maxLen at hs;go_enter Tryz.func246,Tryz.ntmps246;go_wp2
 go_loopw [4,5,8] (fun _ _ i wr=>∃k:Nat,k≤s.size∧i=.int .i64 k∧
  wr=(w.alloc (.cells #[.int .i64 0,.int .i64 0,.int .i64 0,.int .i64 0] 253)).alloc (.cells #[.int .i64 (cntC 0 (s.data.toList.take k)),.int .i64 (cntC 1 (s.data.toList.take k)),.int .i64 (cntC 2 (s.data.toList.take k)),.int .i64 (cntC 3 (s.data.toList.take k))] 253))
  (fun _ _ i _=>s.size-(intOf i).toNat)
 case atStart=>exact⟨0,Nat.zero_le _,rfl,rfl⟩
 case round=>
  obtain⟨k,hk,rfl,rfl⟩:=hrel;by_cases hlt:k<s.size
  ·rcases zc1 s[k]with h|h|h|h|h
   all_goals
    have hst:=zcW s k hlt h;have HS:=lhd hst;have H:=lhd h;clear h hst;have l0:=zcX 0 (s.data.toList.take k);have l1:=zcX 1 (s.data.toList.take k);have l2:=zcX 2 (s.data.toList.take k);have l3:=zcX 3 (s.data.toList.take k);have hl:(s.data.toList.take k).length≤k:=List.length_take_le _ _;go_wp2_with fail;refine(zhS _ _).mono ?_;rintro e w' ⟨rfl,rfl⟩;rw[H.out];go_wp2_with fail;go_roundw;case rel=>exact⟨k+1,by omega,by go_num,by rw[HS.out.1,HS.out.2.1,HS.out.2.2.1,HS.out.2.2.2];rfl⟩
    case measure=>simp[intOf];omega
  ·obtain rfl:k=s.size:=by omega
   have e:s.data.toList.take s.size=s.data.toList:=List.take_of_length_le (by simp);rw[e];go_wp2
   exact bodyPost_ret (v:=.agg (cnt4 s.data.toList)) (by simp[results,Tryz.results246,go_sem,cnt4]) rfl ⟨rfl,((Below.refl _ _).alloc (Nat.le_refl _) _).alloc (by simp) _⟩
theorem zcZ (l:List UInt8):(cntC 0 l+cntC 1 l+cntC 2 l+cntC 3 l=l.length)↔l.all (fun c=>zc0 c != -1)=true:=by
 have key:cntC 0 l+cntC 1 l+cntC 2 l+cntC 3 l=(l.filter fun c=>zc0 c != -1).length:=by
  induction l with
  |nil=>rfl
  |cons c l ih=>
   unfold cntC at*;rcases zc1 c with h|h|h|h|h<;>simp[h]<;>omega
 rw[key];constructor
 ·intro h;rw[List.all_eq_true];intro c hc;by_cases hh:(zc0 c != -1)=true
  ·exact hh
  ·exfalso
   have:=List.length_filter_lt_length_iff_exists (p:=fun c=>zc0 c != -1) (l:=l)|>.2 ⟨c,hc,hh⟩
   omega
 ·intro h;rw[List.filter_eq_self.2 (by simpa using h)]
theorem zpf (s:ByteArray) (h:s.size≠0):s.toList.isEmpty=false:=by
 rw[ByteArray.toList_eq];cases hl:s.data.toList with
 |nil=>exact absurd (by have:=congrArg List.length hl;simpa using this) h
 |cons=>rfl
def bvIs (s:ByteArray):Bool:=decide (1≤s.size)&&decide (s.size≤128)&&s.data.toList.all (fun c=>zc0 c != -1)
theorem zbS (s:ByteArray) (w:World) (hs:s.size≤maxLen):
 Calls Tryz.prog 182 #[.string s] w fun e w'=>e=.returned (.bool (bvIs s))∧Below w.heap.size w w':=by
 unfold maxLen at hs;by_cases h0:s.size=0
 ·obtain rfl:s=⟨#[]⟩:=by
   obtain⟨a⟩:=s;have:a=#[]:=Array.eq_empty_of_size_eq_zero h0;rw[this]
  go_enter Tryz.func182,Tryz.ntmps182;go_wp2
  go_ret;exact⟨zlE (by rfl),Below.refl _ _⟩
 have hE:=zpf s h0;by_cases h1:128<s.size
 ·have e:bvIs s=false:=by unfold bvIs;simp;omega
  have E:=lhd e;clear e;go_enter Tryz.func182,Tryz.ntmps182;go_wp2
  go_ret;exact⟨zlE E.out.symm,Below.refl _ _⟩
 have h2:s.size≤128:=by omega
 clear h1
 have hc:decide (cntC 0 s.data.toList+cntC 1 s.data.toList+cntC 2 s.data.toList+cntC 3 s.data.toList=s.size)=bvIs s:=by
  have h3:=zcZ s.data.toList;rw[show s.data.toList.length=s.size by simp]at h3;have h4:1≤s.size:=by omega
  unfold bvIs;rw[decide_eq_true h4,decide_eq_true h2,Bool.true_and,Bool.true_and,Bool.eq_iff_iff,decide_eq_true_iff];exact h3
 have HC:=lhd hc;clear hc;have l0:=zcX 0 s.data.toList;have l1:=zcX 1 s.data.toList;have l2:=zcX 2 s.data.toList;have l3:=zcX 3 s.data.toList;have hl:s.data.toList.length≤s.size:=by simp
 go_enter Tryz.func182,Tryz.ntmps182;go_wp2_with fail;refine(zhT _ _ (by unfold maxLen;omega)).mono ?_;rintro e w1 ⟨rfl,hb⟩;unfold cnt4;go_wp2_with fail;go_ret;refine⟨zlE ?_,?_⟩
 ·rw[←HC.out,Bool.eq_iff_iff,beq_iff_eq,decide_eq_true_iff];omega
 ·exact hb.alloc hb.size _
theorem zhV (c:UInt8) (w:World):
 Calls Tryz.prog 271 #[.int .u8 c.toNat] w fun e w'=>e=.returned (.bool (zc0 c != -1))∧w=w':=by
 go_enter Tryz.func271,Tryz.ntmps271;go_wp2_with fail;refine(zhS _ _).mono ?_;rintro e w' ⟨rfl,rfl⟩;go_wp2
 go_ret;refine⟨zlE ?_,rfl⟩;rcases zc1 c with h|h|h|h|h<;>simp[h]
def kn (c:UInt8):Int:=if zc0 c= -1 then 2 else zc0 c
theorem zhW (c:UInt8) (w:World):
 Calls Tryz.prog 247 #[.int .u8 c.toNat] w fun e w'=>e=.returned (.int .i64 (kn c))∧w=w':=by
 go_enter Tryz.func247,Tryz.ntmps247;go_wp2_with fail;refine(zhS _ _).mono ?_;rintro e w' ⟨rfl,rfl⟩;go_wp2
 all_goals
  go_ret;refine⟨zlF ?_,rfl⟩;unfold kn;rcases zc1 c with h|h|h|h|h<;>simp_all
def invB (c:UInt8):UInt8:=if c=48 then 49 else if c=49 then 48 else if c=122 then 122 else 120
theorem zgG (c:UInt8):(kn c=0∧invB c=49)∨(kn c=1∧invB c=48)∨(kn c=2∧invB c=120)∨(kn c=3∧invB c=122):=by
 unfold kn invB zc0;by_cases h0:c=48
 ·simp[h0]
 by_cases h1:c=49
 ·simp[h1]
 by_cases h2:c=120
 ·simp[h2]
 by_cases h3:c=122
 ·simp[h3]
 simp[h0,h1,h2,h3]
theorem zhU (c:UInt8) (w:World):
 Calls Tryz.prog 184 #[.int .u8 c.toNat] w fun e w'=>e=.returned (.int .u8 (invB c).toNat)∧w=w':=by
 rcases zgG c with⟨h,h'⟩|⟨h,h'⟩|⟨h,h'⟩|⟨h,h'⟩
 all_goals
  have H:=lhd h;have H':=lhd h';clear h h';have i0:∀w,(Instr.index 255 (.agg #[.int .u8 49,.int .u8 48,.int .u8 120,.int .u8 122]) (.int .i64 0)).run Tryz.prog w=.ok (.int .u8 49) w:=fun _=>by kernel_rfl
  have i1:∀w,(Instr.index 255 (.agg #[.int .u8 49,.int .u8 48,.int .u8 120,.int .u8 122]) (.int .i64 1)).run Tryz.prog w=.ok (.int .u8 48) w:=fun _=>by kernel_rfl
  have i2:∀w,(Instr.index 255 (.agg #[.int .u8 49,.int .u8 48,.int .u8 120,.int .u8 122]) (.int .i64 2)).run Tryz.prog w=.ok (.int .u8 120) w:=fun _=>by kernel_rfl
  have i3:∀w,(Instr.index 255 (.agg #[.int .u8 49,.int .u8 48,.int .u8 120,.int .u8 122]) (.int .i64 3)).run Tryz.prog w=.ok (.int .u8 122) w:=fun _=>by kernel_rfl
  go_enter Tryz.func184,Tryz.ntmps184;go_wp2_with fail;refine(zhW _ _).mono ?_;rintro e w' ⟨rfl,rfl⟩;rw[H.out];go_wp2_with fail;go_ret;exact⟨by rw[H'.out];rfl,rfl⟩
theorem zbQ (n:Int) (s:ByteArray) (w:World) (hs:s.size≤maxLen):
 Calls Tryz.prog 151 #[.int .i64 n,.string s] w fun e w'=>e=.returned (.bool (bvIs s&&decide ((s.size:Int)=n)))∧Below w.heap.size w w':=by
 unfold maxLen at hs;go_enter Tryz.func151,Tryz.ntmps151;go_wp2_with fail;refine(zbS _ _ hs).mono ?_;rintro e w1 ⟨rfl,hb⟩;cases h:bvIs s
 all_goals
  go_wp2
  go_ret;refine⟨zlE ?_,hb⟩
 ·simp[h]
 ·rw[Bool.eq_iff_iff];simp[h]
def zcg (c:UInt8):Value:=.int .u8 c.toNat
theorem zci (w:World) (s:ByteArray) (cap:Nat) (e:TypeId) (n:Nat) (hn:s.size≤n):
 zas (w.alloc (.cells (bytesRow s cap) e (n,n+1))) w.heap.size (s.data.toList.map zcg):=by
 intro j v hj
 have hlt:j<s.data.toList.length:=by
  have:=(List.getElem?_eq_some_iff.1 hj).1;simpa using this
 have hlt':j<s.data.size:=by simpa using hlt
 refine⟨?_,?_⟩
 ·rw[World.cell?_alloc_mark,bytesRow_at s cap j hlt',←hj];rw[List.getElem?_map,List.getElem?_eq_getElem hlt];rfl
 ·rw[World.frozen?_alloc_mark];have:s.data.size=s.size:=rfl;simp;omega
theorem zcj (s:ByteArray) (cap:Nat):s.size≤(bytesRow s cap).size:=by
 have:s.data.size=s.size:=rfl;simp[bytesRow]
theorem zec (g:UInt8→UInt8) (l:List UInt8) (k:Nat) (h:k<l.length):
 (((l.take k).map g++l.drop k).map zcg).set k (zcg (g l[k]))=(((l.take (k+1)).map g++l.drop (k+1)).map zcg):=by
 apply List.ext_getElem?;intro i;by_cases e:i=k
 ·subst e;have h1:(List.map g (List.take i l)).length=i:=by simp;omega
  have h2:(List.map g (List.take (i+1) l)).length=i+1:=by simp;omega
  rw[List.getElem?_set_self (by simp;omega)];simp only[List.getElem?_map];rw[List.getElem?_append_left (by omega)];simp[h]
 ·rw[List.getElem?_set_ne (fun h=>e h.symm)];simp only[List.getElem?_map];congr 1
  by_cases hik:i<k
  ·rw[List.getElem?_append_left (by simp;omega),List.getElem?_append_left (by simp;omega)];simp[hik,show i<k+1 by omega]
  ·rw[List.getElem?_append_right (by simp;omega),List.getElem?_append_right (by simp;omega)];simp only[List.getElem?_drop,List.length_map,List.length_take];congr 1
   omega
theorem zeb (g:UInt8→UInt8) (l:List UInt8) (k:Nat) (h:k<l.length):
 (((l.take k).map g++l.drop k).map zcg)[k]? =some (zcg l[k]):=by
 rw[List.getElem?_map,List.getElem?_append_right (by simp;omega)];simp only[List.length_map,List.length_take,List.getElem?_drop];rw[show k+(k-min k l.length)=k by omega,List.getElem?_eq_getElem h];rfl
theorem zbR (s:ByteArray) (g:UInt8→UInt8) (hF:∀c w,Calls Tryz.prog 184 #[.int .u8 (UInt8.toNat c)] w fun e w'=>e=.returned (.int .u8 (g c).toNat)∧w=w') (w:World) (hs:s.size≤maxLen):
 Calls Tryz.prog 183 #[.string s,.func (.func 184) #[] #[]] w fun e w'=>e=.returned (.string ⟨(s.data.toList.map g).toArray⟩)∧Below w.heap.size w w':=by
 unfold maxLen at hs;have HF:=lhd hF;clear hF;have hcv:=run_bytes_of_string (P:=Tryz.prog) w 9 94 5 s Tryz.underlying9 Tryz.underlying94 Tryz.underlying5;have hown:=zci w.drew s (grownCap w s.size 0 5) 5 (bytesRow s (grownCap w s.size 0 5)).size (zcj _ _);have hbel:Below w.heap.size w (w.drew.alloc (.cells (bytesRow s (grownCap w s.size 0 5)) 5 ((bytesRow s (grownCap w s.size 0 5)).size,(bytesRow s (grownCap w s.size 0 5)).size+1))):=(Below.refl _ _).drew.alloc (Nat.le_refl _) _;have hgc:=grownCap_ge w s.size 0 5;generalize grownCap w s.size 0 5=cap at*;generalize w.drew.alloc (.cells (bytesRow s cap) 5 ((bytesRow s cap).size,(bytesRow s cap).size+1))=w1 at*;go_enter Tryz.func183,Tryz.ntmps183;go_wp2_with fail;clear hcv
 go_loopw [6,7,12] (fun _ _ i wr=>∃k:Nat,k≤s.size∧i=.int .i64 k∧zas wr w.heap.size (((s.data.toList.take k).map g++s.data.toList.drop k).map zcg)∧Below w.heap.size w wr)
  (fun _ _ i _=>s.size-(intOf i).toNat)
 case atStart=>exact⟨0,Nat.zero_le _,rfl,by simpa using hown,hbel⟩
 case round=>
  obtain⟨k,hk,rfl,hr,hb⟩:=hrel;clear hown hbel;by_cases hlt:k<s.size
  ·have hkl:k<s.data.toList.length:=by simpa using hlt
   have hlen:(((s.data.toList.take k).map g++s.data.toList.drop k).map zcg).length=s.size:=by simp;omega
   have hcell:wr.cell? ⟨w.heap.size,k,none⟩=some (.int .u8 s[k].toNat):=hr.cell (zeb g _ k hkl);have hfree:wr.frozen? ⟨w.heap.size,k,none⟩=false:=hr.free (by omega);have HR:=lhd hr;have HL:=lhd hlen;clear hr hlen;go_wp2_with fail;refine(HF.out _ _).mono ?_;rintro e w' ⟨rfl,rfl⟩;go_wp2_with fail;go_roundw;case rel=>exact⟨k+1,by omega,by go_num,by rw[←zec g _ k hkl];exact HR.out.set (by rw[HL.out];omega) _,hb.setCell (Nat.le_refl _) _⟩
   case measure=>simp[intOf];omega
  ·obtain rfl:k=s.size:=by omega
   have e1:(((s.data.toList.take s.size).map g++s.data.toList.drop s.size).map zcg)=(s.data.toList.map g).map zcg:=by
    rw[List.take_of_length_le (by simp),List.drop_eq_nil_of_le (by simp)];simp
   rw[e1]at hr
   have hcb:=run_convert_bytes_back (P:=Tryz.prog) wr 94 9 5 ⟨w.heap.size,0,none⟩ cap (s.data.toList.map g) Tryz.underlying94 Tryz.underlying5 Tryz.underlying9 (fun j hj=>by
    have:=hr.cell (j:=j) (v:=zcg (s.data.toList.map g)[j]) (by rw[List.getElem?_map,List.getElem?_eq_getElem hj];rfl);rw[zaJ,Nat.zero_add];exact this)
   rw[show(s.data.toList.map g).length=s.size by simp]at hcb;clear hr e1;go_wp2_with fail;go_ret;exact⟨rfl,hb⟩
def zb9 (s:ByteArray):ByteArray:=if bvIs s then⟨(s.data.toList.map invB).toArray⟩else⟨#[]⟩
theorem zbO (s:ByteArray) (w:World) (hs:s.size≤maxLen):
 Calls Tryz.prog 153 #[.string s] w fun e w'=>e=.returned (.string (zb9 s))∧Below w.heap.size w w':=by
 go_enter Tryz.func153,Tryz.ntmps153;go_wp2_with fail;refine(zbS _ _ hs).mono ?_;rintro e w1 ⟨rfl,hb⟩;cases h:bvIs s
 ·go_wp2_with fail;go_ret;exact⟨zlH (by simp[zb9,h]),hb⟩
 ·go_wp2_with fail;refine(zbR s invB zhU _ hs).mono ?_;rintro e w2 ⟨rfl,hb2⟩;go_wp2_with fail;go_ret;exact⟨zlH (by simp[zb9,h]),zeG hb hb2⟩
def slR (s:ByteArray) (low n:Int):ByteArray×Int:=
 if bvIs s=false then(⟨#[]⟩,1)else if low<0∨n<1∨(s.size:Int)<n∨(s.size:Int)-n<low then(⟨#[]⟩,2)
 else(s.extract (s.size-low.toNat-n.toNat) (s.size-low.toNat),0)
theorem zbP (s:ByteArray) (low n:Int) (w:World) (hs:s.size≤maxLen):
 Calls Tryz.prog 152 #[.string s,.int .i64 low,.int .i64 n] w fun e w'=>e=.returned (.tuple #[.string (slR s low n).1,.int .i64 (slR s low n).2])∧Below w.heap.size w w':=by
 cases h:bvIs s
 ·have e:slR s low n=(⟨#[]⟩,1):=by simp[slR,h]
  have E:=lhd e;clear e;go_enter Tryz.func152,Tryz.ntmps152;go_wp2_with fail;refine(zbS _ _ hs).mono ?_;rintro e w1 ⟨rfl,hb⟩;rw[h];go_wp2_with fail;go_ret2
  exact⟨zlI E.out.symm,hb⟩
 by_cases hc:low<0∨n<1∨(s.size:Int)<n∨(s.size:Int)-n<low
 ·have e:slR s low n=(⟨#[]⟩,2):=by rw[slR,if_neg (by simp[h]),if_pos hc]
  have E:=lhd e;clear e;unfold maxLen at hs;go_enter Tryz.func152,Tryz.ntmps152;go_wp2_with fail;refine(zbS _ _ hs).mono ?_;rintro e w1 ⟨rfl,hb⟩;rw[h];go_wp2_with fail;all_goals first|(exfalso;omega)|(go_ret2;exact⟨zlI E.out.symm,hb⟩)
 ·have e:slR s low n=(s.extract (s.size-low.toNat-n.toNat) (s.size-low.toNat),0):=by rw[slR,if_neg (by simp[h]),if_neg hc]
  have E:=lhd e;clear e;unfold maxLen at hs;obtain⟨g1,g2,g3,g4⟩:0≤low∧1≤n∧n≤(s.size:Int)∧low≤(s.size:Int)-n:=by omega
  clear hc;go_enter Tryz.func152,Tryz.ntmps152;go_wp2_with fail;refine(zbS _ _ hs).mono ?_;rintro e w1 ⟨rfl,hb⟩;rw[h];go_wp2_with fail;go_ret2
  refine⟨zlI (E.out.trans ?_).symm,hb⟩;rw[show((s.size:Int)-low-n).toNat=s.size-low.toNat-n.toNat by omega,show((s.size:Int)-low).toNat=s.size-low.toNat by omega]
end Go.Proofs.YtbiadennhnokhaaGreatDoor
