import Derived.Test.YtcdekelomkcahaaGreatDoorZ00
import Derived.Test.YtcdekelomkcahaaGreatDoorZ09
import Derived.Test.YtcdekelomkcahaaGreatDoorZ12
set_option maxRecDepth 100000
set_option maxHeartbeats 16000000
namespace Go.Proofs.YtcdekelomkcahaaGreatDoor
open Go.RowKit
def vt (k n:Int):Bool:=(decide (k=0)&&decide (1≤n)&&decide (n≤128))||((decide (k=1)||decide (k=2)||decide (k=3))&&decide (n=0))
def nilB (s:ByteArray):Bool:=decide (s.size=0)
def vv (k n:Int) (s:ByteArray):Bool:=
 vt k n&&(if k=0 then bvIs s&&decide ((s.size:Int)=n)else if k=1 then zcQ s else if k=2 then decide (s.size≤64)else nilB s)
def vi (k n:Int):ByteArray:=if vt k n=true then(if k=0 then allR n 120 else if k=1 then⟨#[48]⟩else⟨#[]⟩)else⟨#[]⟩
def zan (k n:Int) (w:World) (e:Ending) (w':World):Prop:=
 ∃(C:Array Value),e=.returned (.tuple #[.agg C,.bool (vt k n)])∧Below w.heap.size w w'∧
  ((C=#[.int .i64 0,.int .i64 0,.nilFunc,.nilFunc,.nilFunc,.nilFunc,.string ⟨#[]⟩]∧vt k n=false)∨∃B,zai w' B∧((k=0∧C=kd0 B)∨(k=1∧C=kd1 B)∨(k=2∧C=kd2 B)∨(k=3∧C=kd3 B)))
theorem zoL (k n:Int) (w:World) (hk:k<0∨3<k):Calls Tryz.prog 119 #[.int .i64 k,.int .i64 n] w (zan k n w):=by
 have hv:vt k n=false:=by
  unfold vt;rw[Bool.eq_false_iff];simp;omega
 have HV:=lhd hv;clear hv;rcases hk with hk|hk
 all_goals
  go_enter Tryz.func119,Tryz.ntmps119;go_wp2_with fail;refine(zov _).mono ?_;rintro e w1 ⟨B,rfl,hB,hK,hc,hb⟩;have f:=fun i=>(boxN hb i).2;have f0:=f 0;have f1:=f 1;have f2:=f 2;have f3:=f 3;have f4:=f 4;have f5:=f 5;have f6:=f 6;have g0:w1.cell? ⟨w.heap.size,0,none⟩=some (.int .i64 0):=(boxN hb 0).1;have g1:w1.cell? ⟨w.heap.size,1,none⟩=some (.int .i64 0):=(boxN hb 1).1;have g2:w1.cell? ⟨w.heap.size,2,none⟩=some .nilFunc:=(boxN hb 2).1;have g3:w1.cell? ⟨w.heap.size,3,none⟩=some .nilFunc:=(boxN hb 3).1;have g4:w1.cell? ⟨w.heap.size,4,none⟩=some .nilFunc:=(boxN hb 4).1;have g5:w1.cell? ⟨w.heap.size,5,none⟩=some .nilFunc:=(boxN hb 5).1;have g6:w1.cell? ⟨w.heap.size,6,none⟩=some (.string ⟨#[]⟩):=(boxN hb 6).1;have HB:=lhd (zd3 hb);clear hc f hb hK hB;go_wp2_with fail;refine bodyPost_ret (v:=.tuple #[.agg #[.int .i64 0,.int .i64 0,.nilFunc,.nilFunc,.nilFunc,.nilFunc,.string ⟨#[]⟩],.bool false]) (by simp[results,Tryz.results119,go_sem,g0,g1,g2,g3,g4,g5,g6]) rfl ⟨_,by rw[HV.out],?_,.inl ⟨rfl,HV.out⟩⟩;have l:w.heap.size≤w.heap.size:=Nat.le_refl _;exact((((((((HB.out.setCell l _).setCell l _).setCell l _).setCell l _).setCell l _).setCell l _).setCell l _))
theorem zao.any {kd:Nat→Array Value} {ok:Bool} {k n:Int} {w:World} {e:Ending} {w':World} (h:zao kd ok w e w') (hok:ok=vt k n)
 (hk:∀B,(k=0∧kd B=kd0 B)∨(k=1∧kd B=kd1 B)∨(k=2∧kd B=kd2 B)∨(k=3∧kd B=kd3 B)):zan k n w e w':=by
 obtain⟨B,rfl,h1,h2⟩:=h;exact⟨_,by rw[hok],h2,.inr ⟨B,h1,hk B⟩⟩
theorem zoK (k n:Int) (w:World):Calls Tryz.prog 119 #[.int .i64 k,.int .i64 n] w (zan k n w):=by
 by_cases hk:k<0∨3<k
 ·exact zoL k n w hk
 have h4:k=0∨k=1∨k=2∨k=3:=by omega
 rcases h4 with rfl|rfl|rfl|rfl
 ·by_cases h1:n<1
  ·exact(zoz n w h1).mono fun _ _ h=>h.any (by simp[vt];omega) (fun B=> .inl ⟨rfl,rfl⟩)
  by_cases h2:128<n
  ·exact(zoy n w h2).mono fun _ _ h=>h.any (by simp[vt];omega) (fun B=> .inl ⟨rfl,rfl⟩)
  ·exact(zoA n w (by omega) (by omega)).mono fun _ _ h=>h.any (by simp[vt];omega) (fun B=> .inl ⟨rfl,rfl⟩)
 ·by_cases h1:n<0
  ·exact(zoC n w h1).mono fun _ _ h=>h.any (by simp[vt];omega) (fun B=> .inr (.inl ⟨rfl,rfl⟩))
  by_cases h2:0<n
  ·exact(zoB n w h2).mono fun _ _ h=>h.any (by simp[vt];omega) (fun B=> .inr (.inl ⟨rfl,rfl⟩))
  ·obtain rfl:n=0:=by omega
   exact(zoD w).mono fun _ _ h=>h.any (by simp[vt]) (fun B=> .inr (.inl ⟨rfl,rfl⟩))
 ·by_cases h1:n<0
  ·exact(zoF n w h1).mono fun _ _ h=>h.any (by simp[vt];omega) (fun B=> .inr (.inr (.inl ⟨rfl,rfl⟩)))
  by_cases h2:0<n
  ·exact(zoE n w h2).mono fun _ _ h=>h.any (by simp[vt];omega) (fun B=> .inr (.inr (.inl ⟨rfl,rfl⟩)))
  ·obtain rfl:n=0:=by omega
   exact(zoG w).mono fun _ _ h=>h.any (by simp[vt]) (fun B=> .inr (.inr (.inl ⟨rfl,rfl⟩)))
 ·by_cases h1:n<0
  ·exact(zoI n w h1).mono fun _ _ h=>h.any (by simp[vt];omega) (fun B=> .inr (.inr (.inr ⟨rfl,rfl⟩)))
  by_cases h2:0<n
  ·exact(zoH n w h2).mono fun _ _ h=>h.any (by simp[vt];omega) (fun B=> .inr (.inr (.inr ⟨rfl,rfl⟩)))
  ·obtain rfl:n=0:=by omega
   exact(zoJ w).mono fun _ _ h=>h.any (by simp[vt]) (fun B=> .inr (.inr (.inr ⟨rfl,rfl⟩)))
theorem zor (k n:Int) (w:World):
 Calls Tryz.prog 67 #[.int .i64 k,.int .i64 n] w fun e w'=>e=.returned (.bool (vt k n))∧Below w.heap.size w w':=by
 go_enter Tryz.func67,Tryz.ntmps67;go_wp2_with fail;refine(zoK k n _).mono ?_;rintro e w1 ⟨C,rfl,hb,hC⟩;have HB:=lhd hb;rcases hC with⟨rfl,-⟩|⟨B,-,⟨-,rfl⟩|⟨-,rfl⟩|⟨-,rfl⟩|⟨-,rfl⟩⟩
 all_goals
  clear hb;try unfold kd0
  try unfold kd1
  try unfold kd2
  try unfold kd3
  go_wp2_with fail;go_ret;exact⟨rfl,HB.out.alloc HB.out.size _⟩
theorem zgq (n:Int) (s:ByteArray) (w:World):Calls Tryz.prog 196 #[.int .i64 n,.string s] w fun e w'=>e=.returned (.bool (nilB s))∧Below w.heap.size w w':=by
 by_cases h:s.size=0
 ·obtain rfl:s=⟨#[]⟩:=by
   obtain⟨a⟩:=s;have:a=#[]:=Array.eq_empty_of_size_eq_zero h;rw[this]
  go_enter Tryz.func196,Tryz.ntmps196;go_wp2_with fail;go_ret;exact⟨rfl,Below.refl _ _⟩
 ·have hE:=znM s h;have H:=lhd h;clear h;go_enter Tryz.func196,Tryz.ntmps196;go_wp2_with fail;go_ret;exact⟨zle (by unfold nilB;rw[eq_comm,decide_eq_false_iff_not];exact H.out),Below.refl _ _⟩
def okD (c:UInt8):Bool:=zb0 c != -1
def digC (c:UInt8):Bool:=c==48||c==49||c==120||c==122||c==88||c==90
def lowC (c:UInt8):UInt8:=if c=88∨c=90 then c+32 else c
def extL (n:Int) (s:Bs):Bs×Int:=if n<1∨128<n then([],1)else if s=[]∨s.all okD=false then([],3)else if n<s.length then([],8)else(extB n.toNat s,0)
def pbL (n:Int) (t:Bs):Bs×Int:=if t=[]∨t.all digC=false then([],3)else if n<t.length then([],8)else extL n (t.map lowC)
def decP (t:Bs):Bs×Int:=match zl0 (bsB t)with
 |none=>([],3)
 |some n=>zij n
def evP (t:Bs):Bs×Int:=if t.length≠1∨t.all digC=false then([],3)else([],0)
def parV (k n:Int) (t:Bs):Bs×Int:=if vt k n=false then([],7)else if k=0 then pbL n t else if k=1 then decP t else if k=2 then unqR t else evP t
def fmtV (k:Int) (v:Bs):Bs:=if k=0 then shoL v else if k=1 then v else if k=2 then quoL v else [49]
def cv:Vals:=⟨vt,fun k n v=>vv k n (bsB v),fun k n=>(vi k n).data.toList,parV,fun k _ v=>fmtV k v⟩
set_option linter.unusedSimpArgs false
abbrev Ch:=Int×ByteArray
def encC (c:Ch):List Value:=[.int .i64 c.1,.string c.2]
def chs (l:List Ch):List Value:=l.flatMap encC
theorem zbP (c:Ch) (l:List Ch):chs (c::l)=.int .i64 c.1::.string c.2::chs l:=rfl
theorem zbO:∀(l:List Ch) (k:Nat) (h:k<l.length),(chs l)[2*k]? =some (.int .i64 l[k].1)∧(chs l)[2*k+1]? =some (.string l[k].2)
 |c::l,0,_=>⟨rfl,rfl⟩
 |c::l,k+1,h=>by
  have:=zbO l k (by simpa using h);rw[zbP,show 2*(k+1)=2*k+1+1 by omega];simpa using this
theorem SlR.ch {w:World} {a:Option Addr} {cap:Nat} {l:List Ch} (h:SlR w (.slice a l.length cap) l.length (chs l)) {j:Nat} (hj:j<l.length):
 ∃b o,a=some ⟨b,o,none⟩∧w.cell? ⟨b,o+j*2,none⟩=some (.int .i64 l[j].1)∧w.cell? ⟨b,o+j*2+1,none⟩=some (.string l[j].2):=by
 obtain⟨b,o,cap',hv,-,-,hcell⟩:=h.at (by omega);injection hv with e1 _ _;subst e1;have d0:=hcell _ _ (zbO l j hj).1;have d1:=hcell _ _ (zbO l j hj).2;rw[show o+2*j=o+j*2 by omega]at d0;rw[show o+(2*j+1)=o+j*2+1 by omega]at d1;exact⟨b,o,rfl,d0,d1⟩
theorem za1 {B:Nat} {a w:World} (h:Below B a w) (n:Nat):Below B a (w.drewN n):=⟨h.os,h.tape,h.output,h.size,h.block⟩
end Go.Proofs.YtcdekelomkcahaaGreatDoor
