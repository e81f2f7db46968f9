import Derived.Test.YtfppgpamkdkckaaGreatDoorZ00
import Derived.Lib.Hide
import Derived.Test.YtfppgpamkdkckaaGreatDoorProg
import Derived.WalkKit
import Derived.WalkLawsBesides
import Derived.WalkSpells
set_option maxRecDepth 100000
set_option maxHeartbeats 16000000
namespace Go.Proofs.YtfppgpamkdkckaaGreatDoor
open Go.RowKit
theorem zfj {a b c:World} (h:Below a.heap.size a b) (k:Below b.heap.size b c):Below a.heap.size a c:=h.trans (k.mono h.size)
theorem za3 {W w1:World} (hb:Below W.heap.size W w1):(∀b o,b<W.heap.size→w1.cell? ⟨b,o,none⟩=W.cell? ⟨b,o,none⟩)∧(∀b o,b<W.heap.size→w1.frozen? ⟨b,o,none⟩=W.frozen? ⟨b,o,none⟩):=
 ⟨fun b o h=>hb.cell (p:=⟨b,o,none⟩) h,fun b o h=>hb.frozen (p:=⟨b,o,none⟩) h⟩
theorem zbU {w:World} {b o:Nat} {v:Value} (h:w.cell? ⟨b,o,none⟩=some v):b<w.heap.size:=World.block_lt_of_cell? (h:=h)
theorem znd {k:IntKind} {a b:Int} (h:a=b):Ending.returned (.int k a)=.returned (.int k b):=by rw[h]
theorem znc {a b:Bool} (h:a=b):Ending.returned (.bool a)=.returned (.bool b):=by rw[h]
theorem znf {a b:ByteArray} (h:a=b):Ending.returned (.string a)=.returned (.string b):=by rw[h]
theorem addr_add (b o j:Nat):(⟨b,o,none⟩:Addr).add j=⟨b,o+j,none⟩:=by unfold Addr.add;split<;>simp_all
theorem zng {a b:ByteArray} {i j:Int} (h:(a,i)=(b,j)):Ending.returned (.tuple #[.string a,.int .i64 i])=.returned (.tuple #[.string b,.int .i64 j]):=by
 injection h with h1 h2;rw[h1,h2]
def zan (w:World) (b:Nat) (xs:List Value):Prop:=
 ∀j v,xs[j]? =some v→w.cell? ⟨b,j,none⟩=some v∧w.frozen? ⟨b,j,none⟩=false
theorem zan.cell {w:World} {b:Nat} {xs:List Value} (h:zan w b xs) {j:Nat} {v:Value} (hj:xs[j]? =some v):w.cell? ⟨b,j,none⟩=some v:=(h j v hj).1
theorem zan.free {w:World} {b:Nat} {xs:List Value} (h:zan w b xs) {j:Nat} (hj:j<xs.length):w.frozen? ⟨b,j,none⟩=false:=(h j _ (List.getElem?_eq_getElem hj)).2
theorem zan.below {w w':World} {B b:Nat} {xs:List Value} (h:zan w b xs) (hb:Below B w w') (hB:b<B):zan w' b xs:=
 fun j v hj=>⟨(hb.cell (p:=⟨b,j,none⟩) hB).trans (h j v hj).1,(hb.frozen (p:=⟨b,j,none⟩) hB).trans (h j v hj).2⟩
theorem zan.drew {w:World} {b:Nat} {xs:List Value} (h:zan w b xs):zan w.drew b xs:=h
theorem zan.set {w:World} {b:Nat} {xs:List Value} (h:zan w b xs) {j:Nat} (hj:j<xs.length) (u:Value):zan (w.setCell ⟨b,j,none⟩ u) b (xs.set j u):=by
 intro i v hi;have hc:=h.cell (List.getElem?_eq_getElem hj);by_cases e:i=j
 ·subst e;rw[List.getElem?_set_self hj]at hi;obtain rfl:=Option.some.inj hi;exact⟨World.cell?_setCell_same _ _ _ hc,by rw[World.frozen?_setCell];exact h.free hj⟩
 ·rw[List.getElem?_set_ne (fun h=>e h.symm)]at hi;refine⟨?_,by rw[World.frozen?_setCell];exact(h i v hi).2⟩;rw[World.cell?_setCell_other (h:=by intro h;apply e;injection h with _ h2 _;exact h2.symm)];exact(h i v hi).1
def SlR (w:World) (v:Value) (n:Nat) (xs:List Value):Prop:=
 ∃a cap,v=.slice a n cap∧n≤cap∧cap≤maxLen∧(a=none→cap=0)∧(0<n→∃b o,a=some ⟨b,o,none⟩∧∀j u,xs[j]? =some u→w.cell? ⟨b,o+j,none⟩=some u)
theorem SlR.below {w w':World} {v:Value} {n:Nat} {xs:List Value} (h:SlR w v n xs) (hb:Below w.heap.size w w'):SlR w' v n xs:=by
 obtain⟨a,cap,hv,h1,h2,h3,h4⟩:=h;refine⟨a,cap,hv,h1,h2,h3,fun hn=>?_⟩;obtain⟨b,o,ha,hc⟩:=h4 hn;refine⟨b,o,ha,fun j u hj=>?_⟩;have:=hc j u hj;exact(hb.cell (p:=⟨b,o+j,none⟩) (zbU this)).trans this
theorem SlR.nil (w:World):SlR w (.slice none 0 0) 0 []:=⟨none,0,rfl,Nat.le_refl _,by simp[maxLen],fun _=>rfl,fun h=>absurd h (by simp)⟩
theorem SlR.of_own {w:World} {base e size:Nat} {v:Value} {n:Nat} {xs:List Value} (h:w.ownsRow base e size v n xs):SlR w v n xs:=by
 rcases h.2 with⟨rfl,rfl⟩|⟨g,cap,cur,rfl,hb,hg,hn,hm,hs,hx⟩
 ·exact⟨none,0,rfl,Nat.le_refl _,by simp[maxLen],fun _=>rfl,fun h=>absurd h (by simp)⟩
 ·refine⟨some ⟨g,0,none⟩,cap,rfl,hn,hm,fun h=>by simp at h,fun _=>⟨g,0,rfl,fun j u hj=>?_⟩⟩;have:=h.cells (g:=g) rfl j u hj;rwa [addr_add]at this
theorem SlR.at {w:World} {v:Value} {n:Nat} {xs:List Value} (h:SlR w v n xs) (hn:0<n):
 ∃b o cap,v=.slice (some ⟨b,o,none⟩) n cap∧n≤cap∧cap≤maxLen∧∀j u,xs[j]? =some u→w.cell? ⟨b,o+j,none⟩=some u:=by
 obtain⟨a,cap,hv,h1,h2,h3,h4⟩:=h;obtain⟨b,o,rfl,hc⟩:=h4 hn;exact⟨b,o,cap,hv,h1,h2,hc⟩
theorem SlR.zero {w:World} {v:Value} {xs:List Value} (h:SlR w v 0 xs):∃a cap,v=.slice a 0 cap∧cap≤maxLen∧(a=none→cap=0):=by
 obtain⟨a,cap,hv,h1,h2,h3,h4⟩:=h;exact⟨a,cap,hv,h2,h3⟩
theorem SlR.shape {w:World} {v:Value} {n:Nat} {xs:List Value} (h:SlR w v n xs):∃a cap,v=.slice a n cap∧n≤cap∧cap≤maxLen:=by
 obtain⟨a,cap,hv,h1,h2,h3,h4⟩:=h;exact⟨a,cap,hv,h1,h2⟩
theorem SlR.cut {w:World} {a:Option Addr} {n k cap cap':Nat} {xs ys:List Value} (h:SlR w (.slice a n cap) n (xs++ys)) (hk:k≤n) (hc:k≤cap') (hc':cap'≤cap):SlR w (.slice a k cap') k xs:=by
 obtain⟨a',cap1,hv,h1,h2,h3,h4⟩:=h;injection hv with e1 e2 e3;subst e1 e3;refine⟨_,cap',rfl,hc,by omega,fun h=>by have:=h3 h;omega,fun hn=>?_⟩;obtain⟨b,o,ha,hcc⟩:=h4 (by omega);exact⟨b,o,ha,fun j u hj=>hcc j u (by rw[List.getElem?_append_left];exact hj;exact(List.getElem?_eq_some_iff.1 hj).1)⟩
theorem box3 {w W:World} {x y z:Value} {T:TypeId} (hb:Below (w.alloc (.cells #[x,y,z] T)).heap.size (w.alloc (.cells #[x,y,z] T)) W):
 W.cell? ⟨w.heap.size,0,none⟩=some x∧W.cell? ⟨w.heap.size,1,none⟩=some y∧W.cell? ⟨w.heap.size,2,none⟩=some z:=by
 have h:∀i,W.cell? ⟨w.heap.size,i,none⟩=(#[x,y,z]:Array Value)[i]? :=fun i=>by
  rw[hb.cell (p:=⟨w.heap.size,i,none⟩) (by simp),World.cell?_alloc_mark]
 exact⟨h 0,h 1,h 2⟩
theorem ba_eq (a:ByteArray) (l:List UInt8) (h:a.data.toList=l):a=⟨l.toArray⟩:=by
 obtain⟨d⟩:=a;subst h;rfl
theorem zan.fresh (w:World) (C:Array Value) (T:TypeId):zan (w.alloc (.cells C T)) w.heap.size C.toList:=by
 intro j v hj;refine⟨?_,?_⟩
 ·rw[World.cell?_alloc_mark];simpa using hj
 ·rw[World.frozen?_alloc_mark];simp
theorem zan.alloc {w:World} {b:Nat} {xs:List Value} (h:zan w b xs) (hb:b<w.heap.size) (o:Obj):zan (w.alloc o) b xs:=
 h.below ((Below.refl _ w).alloc (Nat.le_refl _) o) hb
theorem zbT {w:World} {b o:Nat} {v:Value} (h:w.cell? ⟨b,o,none⟩=some v) (x:Obj):(w.alloc x).cell? ⟨b,o,none⟩=some v:=
 (((Below.refl _ w).alloc (Nat.le_refl _) x).cell (p:=⟨b,o,none⟩) (zbU h)).trans h
theorem zbn {w W:World} {x y z:Value} {T:TypeId} (hb:Below (w.alloc (.cells #[x,y,z] T)).heap.size (w.alloc (.cells #[x,y,z] T)) W):
 W.frozen? ⟨w.heap.size,0,none⟩=false∧W.frozen? ⟨w.heap.size,1,none⟩=false∧W.frozen? ⟨w.heap.size,2,none⟩=false:=by
 have h:∀i,W.frozen? ⟨w.heap.size,i,none⟩=false:=fun i=>by
  rw[hb.frozen (p:=⟨w.heap.size,i,none⟩) (by simp),World.frozen?_alloc_mark];simp
 exact⟨h 0,h 1,h 2⟩
theorem zfg {w w1:World} {o:Obj} (hb:Below (w.alloc o).heap.size (w.alloc o) w1):Below w.heap.size w w1:=
 ((Below.refl _ _).alloc (Nat.le_refl _) o).trans (hb.mono (by simp))
theorem set3 {w:World} {b:Nat} {x y z:Value} (h0:w.cell? ⟨b,0,none⟩=some x) (h1:w.cell? ⟨b,1,none⟩=some y) (h2:w.cell? ⟨b,2,none⟩=some z) (p q r:Value):
 (((w.setCell ⟨b,0,none⟩ p).setCell ⟨b,1,none⟩ q).setCell ⟨b,2,none⟩ r).cell? ⟨b,0,none⟩=some p∧(((w.setCell ⟨b,0,none⟩ p).setCell ⟨b,1,none⟩ q).setCell ⟨b,2,none⟩ r).cell? ⟨b,1,none⟩=some q∧(((w.setCell ⟨b,0,none⟩ p).setCell ⟨b,1,none⟩ q).setCell ⟨b,2,none⟩ r).cell? ⟨b,2,none⟩=some r:=by
 have o:∀(W:World) (i j:Nat) (v u:Value),i≠j→W.cell? ⟨b,i,none⟩=some v→(W.setCell ⟨b,j,none⟩ u).cell? ⟨b,i,none⟩=some v:=fun W i j v u hij h=>by
  rw[World.cell?_setCell_other (h:=by intro e;apply hij;injection e with _ e2 _;exact e2.symm)];exact h
 have s:∀(W:World) (i:Nat) (v u:Value),W.cell? ⟨b,i,none⟩=some v→(W.setCell ⟨b,i,none⟩ u).cell? ⟨b,i,none⟩=some u:=fun W i v u h=>World.cell?_setCell_same _ _ _ h;exact⟨o _ _ _ _ _ (by omega) (o _ _ _ _ _ (by omega) (s _ _ _ _ h0)),o _ _ _ _ _ (by omega) (s _ _ _ _ (o _ _ _ _ _ (by omega) h1)),s _ _ _ _ (o _ _ _ _ _ (by omega) (o _ _ _ _ _ (by omega) h2))⟩
theorem boxN {w W:World} {C:Array Value} {T:TypeId} (hb:Below (w.alloc (.cells C T)).heap.size (w.alloc (.cells C T)) W) (i:Nat):
 W.cell? ⟨w.heap.size,i,none⟩=C[i]? ∧W.frozen? ⟨w.heap.size,i,none⟩=false:=by
 refine⟨?_,?_⟩
 ·rw[hb.cell (p:=⟨w.heap.size,i,none⟩) (by simp),World.cell?_alloc_mark]
 ·rw[hb.frozen (p:=⟨w.heap.size,i,none⟩) (by simp),World.frozen?_alloc_mark];simp
theorem za2 {s v:ByteArray} (h:s≠v):(s.toList==v.toList)=false:=by
 rw[beq_eq_false_iff_ne,ByteArray.toList_eq,ByteArray.toList_eq];intro e;apply h;obtain⟨⟨a⟩⟩:=s;obtain⟨⟨b⟩⟩:=v;simp at e;rw[e]
def codeOf (c:UInt8):Int:=if c=48 then 0 else if c=49 then 1 else if c=120 then 2 else if c=122 then 3 else-1
theorem zrn {a b:UInt8} (h:a≠b):((a.toNat:Int)==(b.toNat:Int))=false:=by
 rw[beq_eq_false_iff_ne];intro e;apply h;apply UInt8.toNat_inj.1;omega
theorem ziF (c:UInt8) (w:World):
 Calls Tryz.prog 318 #[.int .u8 c.toNat] w fun e w'=>e=.returned (.int .i64 (codeOf c))∧w=w':=by
 by_cases h0:c=48
 ·subst h0;go_enter Tryz.func318,Tryz.ntmps318;go_wp2
  refine wp_loop_rounds 5 ?_;rw[rounds_succ];go_wp2
  go_ret;exact⟨rfl,rfl⟩
 by_cases h1:c=49
 ·subst h1;go_enter Tryz.func318,Tryz.ntmps318;go_wp2
  refine wp_loop_rounds 5 ?_;iterate 2 (rw[rounds_succ];go_wp2)
  go_ret;exact⟨rfl,rfl⟩
 by_cases h2:c=120
 ·subst h2;go_enter Tryz.func318,Tryz.ntmps318;go_wp2
  refine wp_loop_rounds 5 ?_;iterate 3 (rw[rounds_succ];go_wp2)
  go_ret;exact⟨rfl,rfl⟩
 by_cases h3:c=122
 ·subst h3;go_enter Tryz.func318,Tryz.ntmps318;go_wp2
  refine wp_loop_rounds 5 ?_;iterate 4 (rw[rounds_succ];go_wp2)
  go_ret;exact⟨rfl,rfl⟩
 have g0:=zrn (a:=(⟨#[48,49,120,122]⟩:ByteArray)[0]) (b:=c) (fun e=>h0 e.symm);have g1:=zrn (a:=(⟨#[48,49,120,122]⟩:ByteArray)[1]) (b:=c) (fun e=>h1 e.symm);have g2:=zrn (a:=(⟨#[48,49,120,122]⟩:ByteArray)[2]) (b:=c) (fun e=>h2 e.symm);have g3:=zrn (a:=(⟨#[48,49,120,122]⟩:ByteArray)[3]) (b:=c) (fun e=>h3 e.symm);have e:codeOf c= -1:=by simp[codeOf,h0,h1,h2,h3]
 have E:=lhd e;clear e;go_enter Tryz.func318,Tryz.ntmps318;go_wp2
 refine wp_loop_rounds 5 ?_;iterate 5 (rw[rounds_succ];go_wp2)
 go_ret;exact⟨znd E.out.symm,rfl⟩
def cntC (j:Int) (l:List UInt8):Nat:=(l.filter fun c=>codeOf c==j).length
theorem zcC (j:Int) (l:List UInt8):cntC j l≤l.length:=List.length_filter_le _ _
theorem zcD (j:Int) (l:List UInt8) (c:UInt8):cntC j (l++ [c])=cntC j l+if codeOf c=j then 1 else 0:=by
 unfold cntC;by_cases h:codeOf c=j<;>simp[List.filter_append,h]
theorem zqn (s:ByteArray) (k:Nat) (h:k<s.size):s.data.toList.take (k+1)=s.data.toList.take k++ [s[k]]:=by
 rw[List.take_succ_eq_append_getElem (by simpa using h)];rfl
theorem zcI (c:UInt8):codeOf c=0∨codeOf c=1∨codeOf c=2∨codeOf c=3∨codeOf c= -1:=by
 unfold codeOf;repeat' split
 all_goals simp
def cnt4 (l:List UInt8):Array Value:=#[.int .i64 (cntC 0 l),.int .i64 (cntC 1 l),.int .i64 (cntC 2 l),.int .i64 (cntC 3 l)]
theorem zcB (s:ByteArray) (k:Nat) (h:k<s.size) {j:Int} (hj:codeOf s[k]=j):
 cntC 0 (s.data.toList.take (k+1))=cntC 0 (s.data.toList.take k)+(if j=0 then 1 else 0)∧
 cntC 1 (s.data.toList.take (k+1))=cntC 1 (s.data.toList.take k)+(if j=1 then 1 else 0)∧
 cntC 2 (s.data.toList.take (k+1))=cntC 2 (s.data.toList.take k)+(if j=2 then 1 else 0)∧
 cntC 3 (s.data.toList.take (k+1))=cntC 3 (s.data.toList.take k)+(if j=3 then 1 else 0):=by
 subst hj;rw[zqn s k h];exact⟨zcD _ _ _,zcD _ _ _,zcD _ _ _,zcD _ _ _⟩
theorem ziG (s:ByteArray) (w:World) (hs:s.size≤maxLen):
 Calls Tryz.prog 317 #[.string s] w fun e w'=>e=.returned (.agg (cnt4 s.data.toList))∧Below w.heap.size w w':=by
 unfold maxLen at hs;go_enter Tryz.func317,Tryz.ntmps317;go_wp2
 go_loopw [4,5,8] (fun _ _ i wr=>∃k:Nat,k≤s.size∧i=.int .i64 k∧
  wr=(w.alloc (.cells #[.int .i64 0,.int .i64 0,.int .i64 0,.int .i64 0] 293)).alloc (.cells #[.int .i64 (cntC 0 (s.data.toList.take k)),.int .i64 (cntC 1 (s.data.toList.take k)),.int .i64 (cntC 2 (s.data.toList.take k)),.int .i64 (cntC 3 (s.data.toList.take k))] 293))
  (fun _ _ i _=>s.size-(intOf i).toNat)
 case atStart=>exact⟨0,Nat.zero_le _,rfl,rfl⟩
 case round=>
  obtain⟨k,hk,rfl,rfl⟩:=hrel;by_cases hlt:k<s.size
  ·rcases zcI s[k]with h|h|h|h|h
   all_goals
    have hst:=zcB s k hlt h;have HS:=lhd hst;have H:=lhd h;clear h hst;have l0:=zcC 0 (s.data.toList.take k);have l1:=zcC 1 (s.data.toList.take k);have l2:=zcC 2 (s.data.toList.take k);have l3:=zcC 3 (s.data.toList.take k);have hl:(s.data.toList.take k).length≤k:=List.length_take_le _ _;go_wp2_with fail;refine(ziF _ _).mono ?_;rintro e w' ⟨rfl,rfl⟩;rw[H.out];go_wp2_with fail;go_roundw;case rel=>exact⟨k+1,by omega,by go_num,by rw[HS.out.1,HS.out.2.1,HS.out.2.2.1,HS.out.2.2.2];rfl⟩
    case measure=>simp[intOf];omega
  ·obtain rfl:k=s.size:=by omega
   have e:s.data.toList.take s.size=s.data.toList:=List.take_of_length_le (by simp);rw[e];go_wp2
   exact bodyPost_ret (v:=.agg (cnt4 s.data.toList)) (by simp[results,Tryz.results317,go_sem,cnt4]) rfl ⟨rfl,((Below.refl _ _).alloc (Nat.le_refl _) _).alloc (by simp) _⟩
theorem zcE (l:List UInt8):(cntC 0 l+cntC 1 l+cntC 2 l+cntC 3 l=l.length)↔l.all (fun c=>codeOf c != -1)=true:=by
 have key:cntC 0 l+cntC 1 l+cntC 2 l+cntC 3 l=(l.filter fun c=>codeOf c != -1).length:=by
  induction l with
  |nil=>rfl
  |cons c l ih=>
   unfold cntC at*;rcases zcI c with h|h|h|h|h<;>simp[h]<;>omega
 rw[key];constructor
 ·intro h;rw[List.all_eq_true];intro c hc;by_cases hh:(codeOf c != -1)=true
  ·exact hh
  ·exfalso
   have:=List.length_filter_lt_length_iff_exists (p:=fun c=>codeOf c != -1) (l:=l)|>.2 ⟨c,hc,hh⟩
   omega
 ·intro h;rw[List.filter_eq_self.2 (by simpa using h)]
theorem zqQ (s:ByteArray) (h:s.size≠0):s.toList.isEmpty=false:=by
 rw[ByteArray.toList_eq];cases hl:s.data.toList with
 |nil=>exact absurd (by have:=congrArg List.length hl;simpa using this) h
 |cons=>rfl
def bvIs (s:ByteArray):Bool:=decide (1≤s.size)&&decide (s.size≤128)&&s.data.toList.all (fun c=>codeOf c != -1)
theorem zbi (s:ByteArray) (w:World) (hs:s.size≤maxLen):
 Calls Tryz.prog 285 #[.string s] w fun e w'=>e=.returned (.bool (bvIs s))∧Below w.heap.size w w':=by
 unfold maxLen at hs;by_cases h0:s.size=0
 ·obtain rfl:s=⟨#[]⟩:=by
   obtain⟨a⟩:=s;have:a=#[]:=Array.eq_empty_of_size_eq_zero h0;rw[this]
  go_enter Tryz.func285,Tryz.ntmps285;go_wp2
  go_ret;exact⟨znc (by rfl),Below.refl _ _⟩
 have hE:=zqQ s h0;by_cases h1:128<s.size
 ·have e:bvIs s=false:=by unfold bvIs;simp;omega
  have E:=lhd e;clear e;go_enter Tryz.func285,Tryz.ntmps285;go_wp2
  go_ret;exact⟨znc E.out.symm,Below.refl _ _⟩
 have h2:s.size≤128:=by omega
 clear h1
 have hc:decide (cntC 0 s.data.toList+cntC 1 s.data.toList+cntC 2 s.data.toList+cntC 3 s.data.toList=s.size)=bvIs s:=by
  have h3:=zcE s.data.toList;rw[show s.data.toList.length=s.size by simp]at h3;have h4:1≤s.size:=by omega
  unfold bvIs;rw[decide_eq_true h4,decide_eq_true h2,Bool.true_and,Bool.true_and,Bool.eq_iff_iff,decide_eq_true_iff];exact h3
 have HC:=lhd hc;clear hc;have l0:=zcC 0 s.data.toList;have l1:=zcC 1 s.data.toList;have l2:=zcC 2 s.data.toList;have l3:=zcC 3 s.data.toList;have hl:s.data.toList.length≤s.size:=by simp
 go_enter Tryz.func285,Tryz.ntmps285;go_wp2_with fail;refine(ziG _ _ (by unfold maxLen;omega)).mono ?_;rintro e w1 ⟨rfl,hb⟩;unfold cnt4;go_wp2_with fail;go_ret;refine⟨znc ?_,?_⟩
 ·rw[←HC.out,Bool.eq_iff_iff,beq_iff_eq,decide_eq_true_iff];omega
 ·exact hb.alloc hb.size _
theorem ziH (c:UInt8) (w:World):
 Calls Tryz.prog 286 #[.int .u8 c.toNat] w fun e w'=>e=.returned (.bool (codeOf c != -1))∧w=w':=by
 go_enter Tryz.func286,Tryz.ntmps286;go_wp2_with fail;refine(ziF _ _).mono ?_;rintro e w' ⟨rfl,rfl⟩;go_wp2
 go_ret;refine⟨znc ?_,rfl⟩;rcases zcI c with h|h|h|h|h<;>simp[h]
theorem zbg (n:Int) (s:ByteArray) (w:World) (hs:s.size≤maxLen):
 Calls Tryz.prog 222 #[.int .i64 n,.string s] w fun e w'=>e=.returned (.bool (bvIs s&&decide ((s.size:Int)=n)))∧Below w.heap.size w w':=by
 unfold maxLen at hs;go_enter Tryz.func222,Tryz.ntmps222;go_wp2_with fail;refine(zbi _ _ hs).mono ?_;rintro e w1 ⟨rfl,hb⟩;cases h:bvIs s
 all_goals
  go_wp2
  go_ret;refine⟨znc ?_,hb⟩
 ·simp[h]
 ·rw[Bool.eq_iff_iff];simp[h]
def zbE (c:UInt8):Value:=.int .u8 c.toNat
theorem zbG (w:World) (s:ByteArray) (cap:Nat) (e:TypeId) (n:Nat) (hn:s.size≤n):
 zan (w.alloc (.cells (bytesRow s cap) e (n,n+1))) w.heap.size (s.data.toList.map zbE):=by
 intro j v hj
 have hlt:j<s.data.toList.length:=by
  have:=(List.getElem?_eq_some_iff.1 hj).1;simpa using this
 have hlt':j<s.data.size:=by simpa using hlt
 refine⟨?_,?_⟩
 ·rw[World.cell?_alloc_mark,bytesRow_at s cap j hlt',←hj];rw[List.getElem?_map,List.getElem?_eq_getElem hlt];rfl
 ·rw[World.frozen?_alloc_mark];have:s.data.size=s.size:=rfl;simp;omega
theorem zbH (s:ByteArray) (cap:Nat):s.size≤(bytesRow s cap).size:=by
 have:s.data.size=s.size:=rfl;simp[bytesRow]
end Go.Proofs.YtfppgpamkdkckaaGreatDoor
