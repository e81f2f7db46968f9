import Derived.Test.YtcdekelomkcahaaGreatDoorZ00
import Derived.Deep.LoopGhost
import Derived.Lib.LazyBuf
import Derived.Test.YtcdekelomkcahaaGreatDoorZ05
import Derived.Test.YtcdekelomkcahaaGreatDoorZ06
import Derived.Test.YtcdekelomkcahaaGreatDoorZ17
set_option maxRecDepth 100000
set_option maxHeartbeats 16000000
namespace Go.Proofs.YtcdekelomkcahaaGreatDoor
open Go.RowKit
def vt (k n:Int):Bool:=(decide (k=0)&&decide (1≤n)&&decide (n≤128))||((decide (k=1)||decide (k=2)||decide (k=3))&&decide (n=0))
def nilB (s:ByteArray):Bool:=decide (s.size=0)
def vv (k n:Int) (s:ByteArray):Bool:=
 vt k n&&(if k=0 then bvIs s&&decide ((s.size:Int)=n)else if k=1 then zcQ s else if k=2 then decide (s.size≤64)else nilB s)
def vi (k n:Int):ByteArray:=if vt k n=true then(if k=0 then allR n 120 else if k=1 then⟨#[48]⟩else⟨#[]⟩)else⟨#[]⟩
def zan (k n:Int) (w:World) (e:Ending) (w':World):Prop:=
 ∃(C:Array Value),e=.returned (.tuple #[.agg C,.bool (vt k n)])∧Below w.heap.size w w'∧
  ((C=#[.int .i64 0,.int .i64 0,.nilFunc,.nilFunc,.nilFunc,.nilFunc,.string ⟨#[]⟩]∧vt k n=false)∨∃B,zai w' B∧((k=0∧C=kd0 B)∨(k=1∧C=kd1 B)∨(k=2∧C=kd2 B)∨(k=3∧C=kd3 B)))
theorem zoL (k n:Int) (w:World) (hk:k<0∨3<k):Calls Tryz.prog 119 #[.int .i64 k,.int .i64 n] w (zan k n w):=by
 have hv:vt k n=false:=by
  unfold vt;rw[Bool.eq_false_iff];simp;omega
 have HV:=lhd hv;clear hv;rcases hk with hk|hk
 all_goals
  go_enter Tryz.func119,Tryz.ntmps119;go_wp2_with fail;refine(zov _).mono ?_;rintro e w1 ⟨B,rfl,hB,hK,hc,hb⟩;have f:=fun i=>(boxN hb i).2;have f0:=f 0;have f1:=f 1;have f2:=f 2;have f3:=f 3;have f4:=f 4;have f5:=f 5;have f6:=f 6;have g0:w1.cell? ⟨w.heap.size,0,none⟩=some (.int .i64 0):=(boxN hb 0).1;have g1:w1.cell? ⟨w.heap.size,1,none⟩=some (.int .i64 0):=(boxN hb 1).1;have g2:w1.cell? ⟨w.heap.size,2,none⟩=some .nilFunc:=(boxN hb 2).1;have g3:w1.cell? ⟨w.heap.size,3,none⟩=some .nilFunc:=(boxN hb 3).1;have g4:w1.cell? ⟨w.heap.size,4,none⟩=some .nilFunc:=(boxN hb 4).1;have g5:w1.cell? ⟨w.heap.size,5,none⟩=some .nilFunc:=(boxN hb 5).1;have g6:w1.cell? ⟨w.heap.size,6,none⟩=some (.string ⟨#[]⟩):=(boxN hb 6).1;have HB:=lhd (zd3 hb);clear hc f hb hK hB;go_wp2_with fail;refine bodyPost_ret (v:=.tuple #[.agg #[.int .i64 0,.int .i64 0,.nilFunc,.nilFunc,.nilFunc,.nilFunc,.string ⟨#[]⟩],.bool false]) (by simp[results,Tryz.results119,go_sem,g0,g1,g2,g3,g4,g5,g6]) rfl ⟨_,by rw[HV.out],?_,.inl ⟨rfl,HV.out⟩⟩;have l:w.heap.size≤w.heap.size:=Nat.le_refl _;exact((((((((HB.out.setCell l _).setCell l _).setCell l _).setCell l _).setCell l _).setCell l _).setCell l _))
theorem zao.any {kd:Nat→Array Value} {ok:Bool} {k n:Int} {w:World} {e:Ending} {w':World} (h:zao kd ok w e w') (hok:ok=vt k n)
 (hk:∀B,(k=0∧kd B=kd0 B)∨(k=1∧kd B=kd1 B)∨(k=2∧kd B=kd2 B)∨(k=3∧kd B=kd3 B)):zan k n w e w':=by
 obtain⟨B,rfl,h1,h2⟩:=h;exact⟨_,by rw[hok],h2,.inr ⟨B,h1,hk B⟩⟩
theorem zoK (k n:Int) (w:World):Calls Tryz.prog 119 #[.int .i64 k,.int .i64 n] w (zan k n w):=by
 by_cases hk:k<0∨3<k
 ·exact zoL k n w hk
 have h4:k=0∨k=1∨k=2∨k=3:=by omega
 rcases h4 with rfl|rfl|rfl|rfl
 ·by_cases h1:n<1
  ·exact(zoz n w h1).mono fun _ _ h=>h.any (by simp[vt];omega) (fun B=> .inl ⟨rfl,rfl⟩)
  by_cases h2:128<n
  ·exact(zoy n w h2).mono fun _ _ h=>h.any (by simp[vt];omega) (fun B=> .inl ⟨rfl,rfl⟩)
  ·exact(zoA n w (by omega) (by omega)).mono fun _ _ h=>h.any (by simp[vt];omega) (fun B=> .inl ⟨rfl,rfl⟩)
 ·by_cases h1:n<0
  ·exact(zoC n w h1).mono fun _ _ h=>h.any (by simp[vt];omega) (fun B=> .inr (.inl ⟨rfl,rfl⟩))
  by_cases h2:0<n
  ·exact(zoB n w h2).mono fun _ _ h=>h.any (by simp[vt];omega) (fun B=> .inr (.inl ⟨rfl,rfl⟩))
  ·obtain rfl:n=0:=by omega
   exact(zoD w).mono fun _ _ h=>h.any (by simp[vt]) (fun B=> .inr (.inl ⟨rfl,rfl⟩))
 ·by_cases h1:n<0
  ·exact(zoF n w h1).mono fun _ _ h=>h.any (by simp[vt];omega) (fun B=> .inr (.inr (.inl ⟨rfl,rfl⟩)))
  by_cases h2:0<n
  ·exact(zoE n w h2).mono fun _ _ h=>h.any (by simp[vt];omega) (fun B=> .inr (.inr (.inl ⟨rfl,rfl⟩)))
  ·obtain rfl:n=0:=by omega
   exact(zoG w).mono fun _ _ h=>h.any (by simp[vt]) (fun B=> .inr (.inr (.inl ⟨rfl,rfl⟩)))
 ·by_cases h1:n<0
  ·exact(zoI n w h1).mono fun _ _ h=>h.any (by simp[vt];omega) (fun B=> .inr (.inr (.inr ⟨rfl,rfl⟩)))
  by_cases h2:0<n
  ·exact(zoH n w h2).mono fun _ _ h=>h.any (by simp[vt];omega) (fun B=> .inr (.inr (.inr ⟨rfl,rfl⟩)))
  ·obtain rfl:n=0:=by omega
   exact(zoJ w).mono fun _ _ h=>h.any (by simp[vt]) (fun B=> .inr (.inr (.inr ⟨rfl,rfl⟩)))
theorem zor (k n:Int) (w:World):
 Calls Tryz.prog 67 #[.int .i64 k,.int .i64 n] w fun e w'=>e=.returned (.bool (vt k n))∧Below w.heap.size w w':=by
 go_enter Tryz.func67,Tryz.ntmps67;go_wp2_with fail;refine(zoK k n _).mono ?_;rintro e w1 ⟨C,rfl,hb,hC⟩;have HB:=lhd hb;rcases hC with⟨rfl,-⟩|⟨B,-,⟨-,rfl⟩|⟨-,rfl⟩|⟨-,rfl⟩|⟨-,rfl⟩⟩
 all_goals
  clear hb;try unfold kd0
  try unfold kd1
  try unfold kd2
  try unfold kd3
  go_wp2_with fail;go_ret;exact⟨rfl,HB.out.alloc HB.out.size _⟩
theorem zgq (n:Int) (s:ByteArray) (w:World):Calls Tryz.prog 196 #[.int .i64 n,.string s] w fun e w'=>e=.returned (.bool (nilB s))∧Below w.heap.size w w':=by
 by_cases h:s.size=0
 ·obtain rfl:s=⟨#[]⟩:=by
   obtain⟨a⟩:=s;have:a=#[]:=Array.eq_empty_of_size_eq_zero h;rw[this]
  go_enter Tryz.func196,Tryz.ntmps196;go_wp2_with fail;go_ret;exact⟨rfl,Below.refl _ _⟩
 ·have hE:=znM s h;have H:=lhd h;clear h;go_enter Tryz.func196,Tryz.ntmps196;go_wp2_with fail;go_ret;exact⟨zle (by unfold nilB;rw[eq_comm,decide_eq_false_iff_not];exact H.out),Below.refl _ _⟩
def okD (c:UInt8):Bool:=zb0 c != -1
def digC (c:UInt8):Bool:=c==48||c==49||c==120||c==122||c==88||c==90
def lowC (c:UInt8):UInt8:=if c=88∨c=90 then c+32 else c
def extL (n:Int) (s:Bs):Bs×Int:=if n<1∨128<n then([],1)else if s=[]∨s.all okD=false then([],3)else if n<s.length then([],8)else(extB n.toNat s,0)
def pbL (n:Int) (t:Bs):Bs×Int:=if t=[]∨t.all digC=false then([],3)else if n<t.length then([],8)else extL n (t.map lowC)
def decP (t:Bs):Bs×Int:=match zl0 (bsB t)with
 |none=>([],3)
 |some n=>zij n
def evP (t:Bs):Bs×Int:=if t.length≠1∨t.all digC=false then([],3)else([],0)
def parV (k n:Int) (t:Bs):Bs×Int:=if vt k n=false then([],7)else if k=0 then pbL n t else if k=1 then decP t else if k=2 then unqR t else evP t
def fmtV (k:Int) (v:Bs):Bs:=if k=0 then shoL v else if k=1 then v else if k=2 then quoL v else [49]
def cv:Vals:=⟨vt,fun k n v=>vv k n (bsB v),fun k n=>(vi k n).data.toList,parV,fun k _ v=>fmtV k v⟩
set_option linter.unusedSimpArgs false
theorem zrL (k n:Int) (w:World):Calls Tryz.prog 82 #[.int .i64 k,.int .i64 n] w fun e w'=>e=.returned (.bool (vt k n))∧w=w':=by
 by_cases hk:k=0
 ·subst hk;by_cases h1:1≤n
  ·by_cases h2:n≤128
   ·have HV:=lhd (show vt 0 n=true by simp[vt,h1,h2]);go_enter Tryz.func82,Tryz.ntmps82;go_wp2_with fail;go_ret;exact⟨zle HV.out.symm,rfl⟩
   ·have HV:=lhd (show vt 0 n=false by simp[vt,h2]);go_enter Tryz.func82,Tryz.ntmps82;go_wp2_with fail;go_ret;exact⟨zle HV.out.symm,rfl⟩
  ·have HV:=lhd (show vt 0 n=false by simp[vt,h1]);have h1':n<1:=by omega
   clear h1;go_enter Tryz.func82,Tryz.ntmps82;go_wp2_with fail;go_ret;exact⟨zle HV.out.symm,rfl⟩
 ·have hkb:(k==0)=false:=by simpa using hk
  by_cases h1:0<k
  ·by_cases h2:k≤3
   ·by_cases h3:n=0
    ·subst h3;have HV:=lhd (show vt k 0=true by unfold vt;simp;omega);clear hk;go_enter Tryz.func82,Tryz.ntmps82;go_wp2_with fail;go_ret;exact⟨zle HV.out.symm,rfl⟩
    ·have HV:=lhd (show vt k n=false by simp[vt,h3,hk]);have h3b:(n==0)=false:=by simpa using h3
     clear hk h3;go_enter Tryz.func82,Tryz.ntmps82;go_wp2_with fail;go_ret;exact⟨zle HV.out.symm,rfl⟩
   ·have HV:=lhd (show vt k n=false by unfold vt;simp;omega);have h2':3<k:=by omega
    clear hk h2;go_enter Tryz.func82,Tryz.ntmps82;go_wp2_with fail;go_ret;exact⟨zle HV.out.symm,rfl⟩
  ·have HV:=lhd (show vt k n=false by unfold vt;simp;omega);have h1':k≤0:=by omega
   clear hk h1;go_enter Tryz.func82,Tryz.ntmps82;go_wp2_with fail;go_ret;exact⟨zle HV.out.symm,rfl⟩
theorem zrJ (c:UInt8) (w:World):Calls Tryz.prog 132 #[.int .u8 (c.toNat:Int)] w fun e w'=>e=.returned (.bool (prn c))∧w'=w:=by
 by_cases h1:33≤c.toNat
 ·have hb1:decide ((33:Int)≤(c.toNat:Int))=true:=by rw[decide_eq_true_iff];omega
  by_cases h2:c.toNat≤126
  ·have hb2:decide ((c.toNat:Int)≤126)=true:=by rw[decide_eq_true_iff];omega
   have HP:=lhd (show prn c=true by unfold prn;rw[decide_eq_true h1,decide_eq_true h2];rfl);clear h1 h2;go_enter Tryz.func132,Tryz.ntmps132;go_wp2_with fail;go_ret;exact⟨zle (show true=prn c from HP.out.symm),rfl⟩
  ·have hb2:decide ((c.toNat:Int)≤126)=false:=by rw[decide_eq_false_iff_not];omega
   have HP:=lhd (show prn c=false by unfold prn;rw[decide_eq_false h2];simp);clear h1 h2;go_enter Tryz.func132,Tryz.ntmps132;go_wp2_with fail;go_ret;exact⟨zle (show false=prn c from HP.out.symm),rfl⟩
 ·have hb1:decide ((33:Int)≤(c.toNat:Int))=false:=by rw[decide_eq_false_iff_not];omega
  have HP:=lhd (show prn c=false by unfold prn;rw[decide_eq_false h1];simp);clear h1;go_enter Tryz.func132,Tryz.ntmps132;go_wp2_with fail;go_ret;exact⟨zle (show false=prn c from HP.out.symm),rfl⟩
theorem zrK (s:ByteArray) (w:World) (hm:s.size≤140737488351232):Calls Tryz.prog 80 #[.string s] w fun e w'=>e=.returned (.bool (zb1 s.data.toList))∧w'=w:=by
 go_enter Tryz.func80,Tryz.ntmps80;go_wp2_with fail;go_loop [3] (fun i=>∃k:Nat,k≤s.size∧i=.int .i64 k∧(s.data.toList.take k).all prn=true) (fun i=>s.size-(intOf i).toNat)
 case atStart=>exact⟨0,Nat.zero_le _,rfl,rfl⟩
 case round=>
  obtain⟨k,hk,rfl,hall⟩:=hrel;have HA:=lhd hall;clear hall;by_cases hlt:k<s.size
  ·have hlt2:(k:Int)<(s.size:Int):=by omega
   have HT:=lhd (zaG (p:=prn) hlt);have HN:=lhd (fun h=>zaF (p:=prn) hlt h);have HPR:=lhd (fun W=>zrJ (s[k]'hlt) W);go_wp2_with fail;refine(HPR.out _).mono ?_;rintro e w1 ⟨rfl,rfl⟩;cases hp:prn (s[k]'hlt)
   ·have HR:=lhd (show zb1 s.data.toList=false by
     unfold zb1;rw[HN.out hp];simp)
    clear hp;go_wp2_with fail;refine bodyPost_ret (v:=.bool false) (by simp[results,Tryz.results80,go_sem]) rfl ?_;rw[HR.out];exact⟨rfl,rfl⟩
   ·have HA2:=lhd (show(s.data.toList.take (k+1)).all prn=true by
     rw[HT.out,HA.out,hp];rfl)
    clear hp;go_wp2_with fail;go_round
    case rel=>exact⟨k+1,by omega,by go_num,HA2.out⟩
    case measure=>simp[intOf];omega
  ·obtain rfl:k=s.size:=by omega
   have hlt2:¬(s.size:Int)<(s.size:Int):=by omega
   have HAL:=lhd (show s.data.toList.all prn=true by
    have:=HA.out;rwa [List.take_of_length_le (by simp)]at this)
   have HSZ:=lhd (show s.data.toList.length=s.size by simp);clear hlt;by_cases h0:s.size=0
   ·obtain rfl:s=⟨#[]⟩:=by
     have:s.data=#[]:=Array.eq_empty_of_size_eq_zero h0;cases s;simp_all
    have HR:=lhd (show zb1 (⟨#[]⟩:ByteArray).data.toList=false from rfl);go_wp2_with fail;refine bodyPost_ret (v:=.bool false) (by simp[results,Tryz.results80,go_sem]) rfl ?_;rw[HR.out];exact⟨rfl,rfl⟩
   ·have hb1:decide ((1:Int)≤(s.size:Int))=true:=by rw[decide_eq_true_iff];omega
    by_cases h8:s.size≤8
    ·have hb2:decide ((s.size:Int)≤8)=true:=by rw[decide_eq_true_iff];omega
     by_cases he:s.data.toList=[36,101,110,100]
     ·have hb3:(s.toList==[36,101,110,100])=true:=by rw[beqB,decide_eq_true he]
      have HR:=lhd (show zb1 s.data.toList=false by rw[he];decide);clear he;go_wp2_with fail;refine bodyPost_ret (v:=.bool false) (by simp[results,Tryz.results80,go_sem]) rfl ?_;rw[HR.out];exact⟨rfl,rfl⟩
     ·have hb3:(s.toList==[36,101,110,100])=false:=by rw[beqB,decide_eq_false he]
      have HR:=lhd (show zb1 s.data.toList=true by
       unfold zb1;rw[HAL.out,decide_eq_false he,decide_eq_true (show s.data.toList.length≤8 by have:=HSZ.out;omega),decide_eq_false (fun e=>by have h2:=HSZ.out;rw[e]at h2;simp at h2;omega)];rfl)
      clear he;go_wp2_with fail;refine bodyPost_ret (v:=.bool true) (by simp[results,Tryz.results80,go_sem]) rfl ?_;rw[HR.out];exact⟨rfl,rfl⟩
    ·have hb2:decide ((s.size:Int)≤8)=false:=by rw[decide_eq_false_iff_not];omega
     have HR:=lhd (show zb1 s.data.toList=false by
      unfold zb1;rw[decide_eq_false (show ¬s.data.toList.length≤8 by have:=HSZ.out;omega)];simp)
     go_wp2_with fail;refine bodyPost_ret (v:=.bool false) (by simp[results,Tryz.results80,go_sem]) rfl ?_;rw[HR.out];exact⟨rfl,rfl⟩
abbrev Ch:=Int×ByteArray
def encC (c:Ch):List Value:=[.int .i64 c.1,.string c.2]
def chs (l:List Ch):List Value:=l.flatMap encC
theorem zbP (c:Ch) (l:List Ch):chs (c::l)=.int .i64 c.1::.string c.2::chs l:=rfl
theorem zbO:∀(l:List Ch) (k:Nat) (h:k<l.length),(chs l)[2*k]? =some (.int .i64 l[k].1)∧(chs l)[2*k+1]? =some (.string l[k].2)
 |c::l,0,_=>⟨rfl,rfl⟩
 |c::l,k+1,h=>by
  have:=zbO l k (by simpa using h);rw[zbP,show 2*(k+1)=2*k+1+1 by omega];simpa using this
theorem SlR.ch {w:World} {a:Option Addr} {cap:Nat} {l:List Ch} (h:SlR w (.slice a l.length cap) l.length (chs l)) {j:Nat} (hj:j<l.length):
 ∃b o,a=some ⟨b,o,none⟩∧w.cell? ⟨b,o+j*2,none⟩=some (.int .i64 l[j].1)∧w.cell? ⟨b,o+j*2+1,none⟩=some (.string l[j].2):=by
 obtain⟨b,o,cap',hv,-,-,hcell⟩:=h.at (by omega);injection hv with e1 _ _;subst e1;have d0:=hcell _ _ (zbO l j hj).1;have d1:=hcell _ _ (zbO l j hj).2;rw[show o+2*j=o+j*2 by omega]at d0;rw[show o+(2*j+1)=o+j*2+1 by omega]at d1;exact⟨b,o,rfl,d0,d1⟩
theorem za1 {B:Nat} {a w:World} (h:Below B a w) (n:Nat):Below B a (w.drewN n):=⟨h.os,h.tape,h.output,h.size,h.block⟩
def lo (l:List Ch) (t:Int):Nat:=(l.takeWhile (fun c=>decide (c.1<t))).length
theorem SlR.news {w:World} {ad:Addr} {n cap:Nat} {xs:List Value} (h:SlR w (.slice (some ad) n cap) n xs) (hx:n=0→xs=[]):∀j u,xs[j]? =some u→w.cell? (ad.add j)=some u:=by
 intro j u hj;rcases Nat.eq_zero_or_pos n with h0|h0
 ·rw[hx h0]at hj;simp at hj
 ·obtain⟨b,o,cap',hv,-,-,hc⟩:=h.at h0;injection hv with e1 _ _;injection e1 with e1;subst e1;rw[zaD];exact hc j u hj
def zaB (r:List Ch) (w:World) (e:Ending) (w':World):Prop:=∃v',e=.returned v'∧SlR w' v' r.length (chs r)∧Below w.heap.size w w'
theorem zaB.nil {w W:World} (h:Below w.heap.size w W):zaB [] w (.returned (.slice none 0 0)) W:=⟨_,rfl,SlR.nil _,h⟩
def zh8 (k:Int) (v:ByteArray):List Ch→List Ch
 | []=> []
 |c::l=>if(∃d∈l.head?,d.1=c.1)∨(k≠3∧c.2=v)then zh8 k v l else c::zh8 k c.2 l
def zic (k n:Int) (l:List Ch):List Ch:=zh8 k (vi k n) l
theorem zh9 (k:Int):∀(l:List Ch) (v:ByteArray),(zh8 k v l).length≤l.length
 | [],_=>Nat.le_refl _
 |c::l,v=>by
  unfold zh8;split
  ·have:=zh9 k l v;simp;omega
  ·have:=zh9 k l c.2;simp;omega
theorem zrz (j:Nat) (h:j≤1000000000):IntKind.i64.wrap ((j:Int)+1)=(j:Int)+1:=IntWalk.i64_in _ (by omega)
abbrev SigR:=(Int×Int×List Ch)×Int
def zha (k n:Int) (l:List Ch):SigR:=if 4096<(zic k n l).length then((0,0,[]),9)else((k,n,zic k n l),0)
theorem zjy {w:World} {base base' e size:Nat} {v:Value} {n:Nat} {xs:List Value} (h:w.ownsRow base e size v n xs) (hb:base'≤base):w.ownsRow base' e size v n xs:=by
 refine⟨h.1,?_⟩;rcases h.2 with h2|⟨g,cap,cur,h1,h2,h3⟩
 ·exact .inl h2
 ·exact .inr ⟨g,cap,cur,h1,by omega,h3⟩
def val (v:ByteArray):List Ch→Int→ByteArray
 | [],_=>v
 |c::l,t=>val (if c.1≤t then c.2 else v) l t
theorem zot (v:ByteArray) (c:Ch) (l:List Ch) (t:Int):val v (c::l) t=val (if c.1≤t then c.2 else v) l t:=rfl
def zal (a:Int):List Ch→Prop
 | []=>True
 |c::l=>a≤c.1∧zal c.1 l
theorem zal.mono {a b:Int} (h:b≤a):∀{l:List Ch},zal a l→zal b l
 | [],_=>trivial
 |_::_,⟨h1,h2⟩=>⟨by omega,h2⟩
theorem zal.sub {m:List Ch}:∀{l:List Ch} {a:Int},List.Sublist m l→zal a l→zal a m:=by
 intro l a hs;induction hs generalizing a with
 |slnil=>intro _;trivial
 |cons x _ ih=>intro h;exact(ih h.2).mono h.1
 |cons_cons x _ ih=>intro h;exact⟨h.1,ih h.2⟩
theorem zal.append {a b:Int}:∀{l m:List Ch},zal a l→(∀c∈l,c.1≤b)→a≤b→zal b m→zal a (l++m)
 | [],_,_,_,hab,hm=>hm.mono hab
 |c::_,_,⟨h1,h2⟩,hl,_,hm=>⟨h1,zal.append h2 (fun d hd=>hl d (List.mem_cons_of_mem _ hd)) (hl c List.mem_cons_self) hm⟩
theorem zow {v:ByteArray} {t:Int}:∀{l:List Ch} {a:Int},zal a l→t<a→val v l t=v
 | [],_,_,_=>rfl
 |c::l,a,⟨h1,h2⟩,h=>by
  rw[zot,if_neg (by omega)];exact zow h2 (by omega)
theorem zib (k:Int):∀(l:List Ch) (v:ByteArray),(zh8 k v l).Sublist l
 | [],_=>List.Sublist.refl _
 |c::l,v=>by
  unfold zh8;split
  ·exact(zib k l v).cons _
  ·exact(zib k l c.2).cons_cons _
theorem zia {k a:Int} {v:ByteArray} {l:List Ch} (h:zal a l):zal a (zh8 k v l):=h.sub (zib k l v)
theorem zox (k:Int) (t:Int):∀(l:List Ch) (v:ByteArray) (a:Int),zal a l→val v (zh8 k v l) t=val v l t
 | [],_,_,_=>rfl
 |c::l,v,a,⟨h1,h2⟩=>by
  unfold zh8;split
  ·rename_i hc
   rw[zox k t l v c.1 h2,zot];rcases hc with⟨d,hd,he⟩|⟨-,he⟩
   ·cases l with
    |nil=>simp at hd
    |cons d' l=>
     simp at hd;subst hd;rw[zot,zot,he];split<;>rfl
   ·rw[he];simp
  ·rw[zot,zot];by_cases ht:c.1≤t
   ·rw[if_pos ht];exact zox k t l c.2 c.1 h2
   ·rw[if_neg ht,zow h2 (by omega),zow (zia h2) (by omega)]
def Nrm (k n:Int) (l:List Ch):Prop:=vt k n=true∧l.length≤4096∧zal 0 l∧∀c∈l,c.1≤1099511627776∧vv k n c.2=true
theorem Nrm.made {k n:Int} {l:List Ch} (h:Nrm k n l):zha k n l=((k,n,zic k n l),0):=by
 unfold zha;have:=zh9 k l (vi k n);have:=h.2.1;rw[if_neg (by unfold zic;omega)]
theorem Nrm.val {k n:Int} {l:List Ch} (h:Nrm k n l) (t:Int):val (vi k n) (zic k n l) t=val (vi k n) l t:=zox k t l _ 0 h.2.2.1
open Go.RowKit Go.WideMaps
theorem zpu (l:List Vr) (h:l.length=0):vrs l=[]:=by rw[List.length_eq_zero_iff.1 h];rfl
theorem zbS (v:Value) (l:List Vr) (w:World) (hs:SlR w v l.length (vrs l)) (hn:l.length≤1000000):
 Calls Tryz.prog 55 #[v] w fun e w'=>∃v',e=.returned v'∧w'.ownsRow w.heap.size 48 7 v' l.length (vrs l)∧Below w.heap.size w w':=by
 obtain⟨a,cap,rfl,hc,hm,hz,hat⟩:=hs;have hs:SlR w (.slice a l.length cap) l.length (vrs l):=⟨a,cap,rfl,hc,hm,hz,hat⟩;cases a with
 |none=>
  have hcap:=hz rfl;subst hcap;have hq:=Lib.run_eql_slice_nil (P:=Tryz.prog) w 40 48 none l.length 0 0 0 Tryz.underlying40;have h0:l.length=0:=by omega
  have HL:=lhd (zpu l h0);have H0:=lhd h0;clear hs hz hat h0;go_enter Tryz.func55,Tryz.ntmps55;go_wp2_with fail;go_ret;exact⟨_,rfl,by rw[HL.out,H0.out];exact World.ownsRow_nil _ _ _ _,Below.refl _ _⟩
 |some ad=>
  have hq:=Lib.run_eql_slice_nil (P:=Tryz.prog) w 40 48 (some ad) l.length cap 0 0 Tryz.underlying40;obtain⟨i0,hi,iz0,iz1,iz2⟩:=info_parts (P:=Tryz.prog) zpl;have hbw:Below w.heap.size w (w.alloc (.cells #[] 48)):=(Below.refl _ _).alloc (Nat.le_refl _) _;have HN:=lhd ((hs.below hbw).news (zpu l));have hown:(w.alloc (.cells #[] 48)).ownsRow w.heap.size 48 7 (.slice (some ⟨w.heap.size,0,none⟩) 0 0) 0 []:=World.ownsRow_lit w #[] 0 (Nat.le_refl _) (by simp[maxLen]) (by simp);have HOWN:=lhd hown;clear hs hz hat hbw hown;go_enter Tryz.func55,Tryz.ntmps55;go_wp2_with (at_builtin;refine wpList_append_own _ rfl _ _ 40 rfl w.heap.size 48 i0 (.agg #[.string ⟨#[]⟩,.int .i64 0,.int .i64 0,.int .i64 0,.bool false,.int .i64 0,.int .i64 0]) 7 64 Tryz.underlying40 hi iz0 iz1 iz2 rfl (by decide) _ _ _ rfl HOWN.out ad l.length cap (vrs l) rfl (by rw[zpt];omega) HN.out (zpv l) (by unfold maxLen;omega) (by omega) (by simp) ?_)
  intro v' w' ho hg _;have HO:=lhd ho;have HG:=lhd hg;clear ho hg;go_wp2_with fail;go_ret;exact⟨_,rfl,by have:=HO.out;simpa using this,((Below.refl _ _).alloc (Nat.le_refl _) _).grown HG.out (by simp) (by intro k hk;simp[Value.ownBlock]at hk;omega)⟩
def ints (l:List Int):List Value:=l.map (Value.int .i64)
theorem zfE:(Tryz.prog.info? 3).map (fun i=>(i.zero,i.size,i.bytes))=some (some (.int .i64 0),1,8):=by kernel_rfl
theorem zqE (w:World):(zeroValue 3).run Tryz.prog w=.ok (.int .i64 0) w:=by kernel_rfl
def numM (fm:List Int) (x:Int):Option Value:=if x∈fm then some (.int .i64 (fm.idxOf x:Int))else none
theorem zih {fm:List Int} {x:Int} (h:x∉fm) (y:Int):(if y=x then some (Value.int .i64 (fm.length:Int))else numM fm y)=numM (fm++ [x]) y:=by
 unfold numM;by_cases hy:y=x
 ·subst hy;rw[if_pos rfl,if_pos (by simp),List.idxOf_append,if_neg h];simp
 ·rw[if_neg hy];by_cases hm:y∈fm
  ·rw[if_pos hm,if_pos (by simp[hm]),List.idxOf_append,if_pos hm]
  ·rw[if_neg hm,if_neg (by simp[hm,hy])]
theorem zpy {D R:List Vr} (v:Vr) (n:Int):(vrs (D++v::R)).set (D.length*7+3) (.int .i64 n)=vrs (D++{v with sg:=n}::R):=by
 have hl:(vrs D).length=D.length*7:=by rw[zpt,Nat.mul_comm]
 rw[zpq,zpq,zps,zps,←hl];simp only[vrC,List.cons_append,List.nil_append];rw[List.set_append_right _ _ (by omega),Nat.add_sub_cancel_left];simp only[List.set_cons_succ,List.set_cons_zero]
structure NmI (base n:Nat) (v:Value) (bm:Nat) (D R:List Vr) (fm:List Int) (vf:Value) (w W:World):Prop where
 o:W.ownsRow base 48 7 v n (vrs (D++R))
 f:W.ownsRow base 3 1 vf fm.length (ints fm)
 m:KMap (zfC (P:=Tryz.prog) (K:=3) Tryz.underlying3) W bm fm.length (numM fm)
 b:Below base w W
 z:base≤bm
theorem zjc {w:World} {B B' e e' size size' n n':Nat} {v v':Value} {xs xs':List Value} (h:w.ownsRow B e size v n xs) (h':w.ownsRow B' e' size' v' n' xs') (hne:e≠e'):v.ownBlock=none∨v.ownBlock≠v'.ownBlock:=by
 rcases h.2 with⟨rfl,-⟩|⟨g,cap,cur,rfl,-,hg,-⟩
 ·exact .inl rfl
 ·refine .inr fun e=>?_;rcases h'.2 with⟨rfl,-⟩|⟨g2,cap2,cur2,rfl,-,hg2,-⟩
  ·cases e
  ·injection e with e;subst e;rw[hg]at hg2;injection hg2 with hg2;injection hg2 with _ h5 _;exact hne h5
theorem NmI.put {base n g cap bm:Nat} {D R:List Vr} {x:Vr} {fm:List Int} {vf:Value} {w W:World} (h:NmI base n (.slice (some ⟨g,0,none⟩) n cap) bm D (x::R) fm vf w W) (q:Int):
 NmI base n (.slice (some ⟨g,0,none⟩) n cap) bm (D++ [{x with sg:=q}]) R fm vf w (W.setCell ⟨g,D.length*7+3,none⟩ (.int .i64 q)):=by
 have h1:=zjq h.o (D.length*7+3) (.int .i64 q);rw[zpy]at h1;refine⟨by rw[List.append_assoc];exact h1,ownsRow_setCell_other (a:=⟨g,D.length*7+3,none⟩) h.f ?_ _,h.m.setCell (fun e=>?_) _,h.b.setCell (p:=⟨g,D.length*7+3,none⟩) (h.o.lt _ rfl).1 _,h.z⟩
 ·intro e;rcases h.f.2 with⟨e0,-⟩|⟨g',cap',cur,e0,-,hgb,-⟩
  ·rw[e0]at e;cases e
  ·rw[e0]at e;injection e with e;subst e;rcases h.o.2 with⟨e1,-⟩|⟨g2,cap2,cur2,e1,-,hgb2,-⟩
   ·cases e1
   ·injection e1 with e1 _ _;injection e1 with e1;injection e1 with e1 _ _;subst e1;rw[hgb]at hgb2;injection hgb2 with hgb2;injection hgb2 with _ h5 _;exact absurd h5 (by decide)
 ·have:=h.m.ne_row h.o;exact this (by rw[e];rfl)
theorem NmI.new {base n bm:Nat} {w:World} (hz:base≤w.heap.size) {v:Value} {D R:List Vr} {x:Int} {fm:List Int} {vf vf':Value} {W W1 W2:World} (h:NmI base n v bm D R fm vf w W) (hx:x∉fm)
 (hm:KMap (zfC (P:=Tryz.prog) (K:=3) Tryz.underlying3) W1 bm (fm.length+1) (fun y=>if y=x then some (.int .i64 (fm.length:Int))else numM fm y)) (hg:W.grownBy W1 (some bm))
 (hf:W2.ownsRow base 3 1 vf' (fm.length+1) (ints fm++ [.int .i64 x])) (hg2:(W1.alloc (.cells #[.int .i64 x] 3)).grownBy W2 vf.ownBlock):NmI base n v bm D R (fm++ [x]) vf' w W2:=by
 have hal:Below W1.heap.size W1 (W1.alloc (.cells #[.int .i64 x] 3)):=(Below.refl _ _).alloc (Nat.le_refl _) _;have ho1:(W1.alloc (.cells #[.int .i64 x] 3)).ownsRow base 48 7 v n (vrs (D++R)):=zjp (h.o.kept hg (.inr fun e=>h.m.ne_row h.o e.symm)) (Same0.of_below hal);have hf1:(W1.alloc (.cells #[.int .i64 x] 3)).ownsRow base 3 1 vf fm.length (ints fm):=zjp (h.f.kept hg (.inr fun e=>h.m.ne_row h.f e.symm)) (Same0.of_below hal);have hb1:Below base w W1:=h.b.grown hg (Nat.le_trans hz h.b.size) (fun k hk=>by injection hk with hk;have:=h.z;omega);have hm1:=hm.below hal hm.lt;refine⟨ho1.kept hg2 (zjc ho1 hf1 (by decide)),by rw[List.length_append,List.length_singleton];simpa[ints] using hf,?_,((hb1.alloc (Nat.le_trans hz hb1.size) _).grown hg2 (by have:=hb1.size;simp;omega) (fun k hk=>(hf1.lt _ hk).1)),h.z⟩;have hm2:=hm1.kept hg2 (hm1.ne_row hf1);rw[List.length_append,List.length_singleton];exact hm2.ext (fun y=>zih hx y)
theorem zeW (base:Nat) (v:Value) (l:List Vr) (w:World) (hb0:base≤w.heap.size) (ho:w.ownsRow base 48 7 v l.length (vrs l)) (hn:l.length≤1000) (hsg:∀x∈l,(Lit.int .i64 x.sg).wf=true):
 Calls Tryz.prog 59 #[v] w fun e w'=>∃vf,e=.returned vf∧w'.ownsRow base 48 7 v l.length (vrs (numF [] l).1)∧w'.ownsRow base 3 1 vf (numF [] l).2.length (ints (numF [] l).2)∧Below base w w':=by
 obtain⟨i0,hi,iz0,iz1,iz2⟩:=info_parts (P:=Tryz.prog) zfE;obtain⟨a,cap,rfl,-,-⟩:=(SlR.of_own ho).shape;have hmm:= @run_makeMap Tryz.prog
 have HI:=lhd (show NmI base l.length (.slice a l.length cap) w.heap.size [] l [] (.slice none 0 0) w (w.alloc (.map #[] 0))from
  ⟨zjp ho (Same0.of_below ((Below.refl _ _).alloc (Nat.le_refl _) _)),World.ownsRow_nil _ _ _ _,KMap.made _ w,(Below.refl _ _).alloc hb0 _,hb0⟩)
 have HSG:=lhd hsg;clear ho hsg;go_enter Tryz.func59,Tryz.ntmps59;go_wp2_with fail;clear hmm;go_loopw [3,6,7,11] (fun vf _ _ i wr=>∃(k:Nat) (D R:List Vr) (fm:List Int),i=.int .i64 k∧D.length=k∧k+R.length=l.length∧fm.length≤k∧(∀x∈R,x∈l)∧numF [] l=(D++(numF fm R).1,(numF fm R).2)∧NmI base l.length (.slice a l.length cap) w.heap.size D R fm vf w wr) (fun _ _ _ i _=>l.length-(intOf i).toNat)
 case atStart=>exact⟨0,[],l,[],rfl,rfl,by simp,Nat.le_refl _,fun _ h=>h,rfl,HI.out⟩
 case round=>
  obtain⟨k,D,R,fm,rfl,hD,hR,hf,hin,hnu,hI⟩:=hrel;have HII:=lhd hI;obtain⟨fa,fc,rfl,-,-⟩:=(SlR.of_own hI.f).shape;have HN:=lhd hn;cases R with
  |nil=>
   have hkl:k=l.length:=by simpa using hR
   have HNU:=lhd hnu;clear hD hR hf hin hI hnu;subst hkl;go_wp2_with fail;go_ret;refine⟨_,rfl,?_,?_,HII.out.b⟩
   ·rw[HNU.out];exact HII.out.o
   ·rw[HNU.out];exact HII.out.f
  |cons x R=>
   have hlt:k<l.length:=by simp at hR;omega
   have HR:=lhd hR;have HD:=lhd hD;have HIN:=lhd hin;have HNU:=lhd hnu;have hwx:=HSG.out x (hin x (by simp));have hog:=hI.o;rcases hog.2 with⟨-,h0⟩|⟨g,cap',cur,e0,-⟩
   ·omega
   injection e0 with e0 _ e1;subst e0 e1;have hso:SO base g l.length cap wr (D++x::R):=hog;have d3:=hso.at.2.2.2.1;have f3:=zjj hog (k*7+3);rw[hD]at d3;have HLK:=lhd (hI.m.look (t:=100) Tryz.underlying100 (zqE wr) x.sg hwx);have hfk:=hf;clear hD hR hin hnu hI hog hso;obtain⟨nm,ty,sc,sg,rg,mb,lb⟩:=x;dsimp only at d3 HLK hwx;by_cases hc:sg∈fm
   ·obtain⟨q,hq⟩:∃q,fm.idxOf sg=q:=⟨_,rfl⟩
    have hlk:(Instr.lookup 100 (.map (some w.heap.size)) (.int .i64 sg) true).run Tryz.prog wr=.ok (.tuple #[.int .i64 (q:Int),.bool true]) wr:=by
     have:=HLK.out;unfold numM at this;rw[if_pos hc,hq]at this;exact this
    have HNX:=lhd (show numF [] l=((D++ [⟨nm,ty,sc,(q:Int),rg,mb,lb⟩])++(numF fm R).1,(numF fm R).2)by
     rw[HNU.out,zif (by simpa using hc),hq];simp)
    have HP:=lhd (HII.out.put (q:Int));rw[HD.out]at HP;clear hc hq HLK hwx;go_wp2_with fail;go_roundw;case rel=>exact⟨k+1,_,R,fm,by go_num,by simp[HD.out],by have:=HR.out;simp at this;omega,by omega,fun y hy=>HIN.out y (List.mem_cons_of_mem _ hy),HNX.out,HP.out⟩
    case measure=>simp[intOf];omega
   ·have hlk:(Instr.lookup 100 (.map (some w.heap.size)) (.int .i64 sg) true).run Tryz.prog wr=.ok (.tuple #[.int .i64 0,.bool false]) wr:=by
     have:=HLK.out;unfold numM at this;rw[if_neg hc]at this;exact this
    have HNX:=lhd (show numF [] l=((D++ [⟨nm,ty,sc,(fm.length:Int),rg,mb,lb⟩])++(numF (fm++ [sg]) R).1,(numF (fm++ [sg]) R).2)by
     rw[HNU.out,zig (by simpa using hc)];simp)
    have HC:=lhd hc;have HWX:=lhd hwx;clear hc HLK hwx
    go_wp2_with (first
     |(at_builtin;refine wpList_append_own_at _ rfl _ _ 41 rfl base 3 i0 (.int .i64 0) 1 8 Tryz.underlying41 hi iz0 iz1 iz2 rfl (by decide) _ _ _ rfl HF3.out ⟨w3.heap.size,0,none⟩ 1 1 [.int .i64 sg] rfl rfl HNW.out (by simp[Value.oneCell']) (by unfold maxLen;omega) (by omega) (by simp;omega) ?_)
     |(refine zqm _ rfl _ _ _ 100 rfl 3 Tryz.underlying100 w.heap.size fm.length _ rfl HII.out.m (by unfold maxLen;omega) sg (.int .i64 (fm.length:Int)) rfl rfl HWX.out ?_;intro w3 hm3 hg3;have ho3:SO base g l.length cap w3 (D++⟨nm,ty,sc,sg,rg,mb,lb⟩::R):=HII.out.o.kept hg3 (.inr fun e=>HII.out.m.ne_row HII.out.o e.symm);have d4:=ho3.at.2.2.2.1;rw[HD.out]at d4;have f4:=zjj ho3 (k*7+3);have HNW:=lhd (World.news_of_block (w:=w3.alloc (.cells #[.int .i64 sg] 3)) (cs:=#[.int .i64 sg]) (t:=3) (fr:=(0,0)) (by exact heap_alloc_new _ _));have hzz:base≤w3.heap.size:=Nat.le_trans hb0 (Nat.le_trans HII.out.b.size hg3.size);have HF3:=lhd (zjp (HII.out.f.kept hg3 (.inr fun e=>HII.out.m.ne_row HII.out.f e.symm)) (Same0.of_below ((Below.refl w3.heap.size w3).alloc (Nat.le_refl _) (.cells #[.int .i64 sg] 3))));have HM3:=lhd hm3;have HG3:=lhd hg3;clear hm3 hg3 ho3))
    intro v8 w8 ho8 hg8 _ _;have HI8:=lhd (HII.out.new hb0 HC.out HM3.out HG3.out ho8 hg8);clear ho8 hg8 d4 f4 d3 f3 hlk;have ho9:SO base g l.length cap w8 (D++⟨nm,ty,sc,sg,rg,mb,lb⟩::R):=HI8.out.o;have f9:=zjj ho9 (k*7+3);have d9:=ho9.at.2.2.2.1;rw[HD.out]at d9;have HP:=lhd (HI8.out.put (fm.length:Int));rw[HD.out]at HP;clear ho9;go_wp2_with fail;go_roundw;case rel=>exact⟨k+1,_,R,fm++ [sg],by go_num,by simp[HD.out],by have:=HR.out;simp at this;omega,by simp;omega,fun y hy=>HIN.out y (List.mem_cons_of_mem _ hy),HNX.out,HP.out⟩
    case measure=>simp[intOf];omega
theorem zbl {s t:Bs} (h:s≠t):bsB s≠bsB t:=fun e=>h (by have:=congrArg (fun b=>b.data.toList) e;simpa[bsB] using this)
theorem zdZ (v u:Value) (l m:List (Sc)) (w:World) (hs:SlR w v l.length (scs l)) (ht:SlR w u m.length (scs m)):
 Calls Tryz.prog 121 #[v,u] w fun e w'=>e=.returned (.bool (decide (l=m)))∧Below w.heap.size w w':=by
 obtain⟨a,cap,rfl,hc,hm⟩:=hs.shape;obtain⟨a2,cap2,rfl,hc2,hm2⟩:=ht.shape;unfold maxLen at hm hm2;have HS:=lhd hs;have HT:=lhd ht;clear hs ht;obtain⟨R,hR⟩:∃R,R=decide (l=m):=⟨_,rfl⟩;rw[←hR];by_cases hne:l.length≠m.length
 ·have E:=lhd (show R=false by rw[hR,decide_eq_false_iff_not];intro h;exact hne (by rw[h]));have hb:((l.length:Int) !=(m.length:Int))=true:=by rw[bne_iff_ne];omega
  clear hne hR;go_enter Tryz.func121,Tryz.ntmps121;go_wp2_with fail;go_ret;exact⟨zle E.out.symm,Below.refl _ _⟩
 have hlen:l.length=m.length:=by omega
 have HLEN:=lhd hlen;have HR:=lhd hR;have hb:((l.length:Int) !=(m.length:Int))=false:=by rw[hlen];simp
 clear hne hlen hR;go_enter Tryz.func121,Tryz.ntmps121;go_wp2_with fail
 go_loopw [13] (fun i wr=>∃(j:Nat),j≤l.length∧i=.int .i64 j∧l.take j=m.take j∧Below w.heap.size w wr)
  (fun i _=>l.length-(intOf i).toNat)
 case atStart=>exact⟨0,Nat.zero_le _,rfl,rfl,Below.refl _ _⟩
 case round=>
  obtain⟨j,hj,rfl,hgo,hbw⟩:=hrel;have HGO:=lhd hgo;have HB:=lhd hbw;clear hgo hbw;by_cases hlt:j<l.length
  ·have hlt2:j<m.length:=by have:=HLEN.out;omega
   obtain⟨b,o,rfl,hcell⟩:=(HS.out.below HB.out).scs hlt;obtain⟨b2,o2,rfl,hcell2⟩:=(HT.out.below HB.out).scs hlt2;have q1:(0:Int)≤(j:Int):=by omega
   have q2:(j:Int)<(l.length:Int):=by omega
   have q3:(j:Int)<(m.length:Int):=by omega
   have hw:IntKind.i64.wrap ((j:Int)+1)=(j:Int)+1:=IntWalk.i64_in _ (by omega);by_cases he:l[j]=m[j]
   ·have HGO2:Hid (l.take (j+1)=m.take (j+1)):=lhd (by rw[List.take_succ_eq_append_getElem hlt,List.take_succ_eq_append_getElem hlt2,HGO.out,he]);rw[←he]at hcell2;generalize l[j]=c at hcell hcell2;obtain⟨c2,hc2⟩:∃c2,c2=c:=⟨_,rfl⟩;rw[←hc2]at hcell2;clear he;obtain⟨nm,ty,sc⟩:=c;obtain⟨nm2,ty2,sc2⟩:=c2;have d0:wr.cell? ⟨b,o+j*3,none⟩=some (.string (bsB nm)):=hcell 0 _ rfl;have d1:wr.cell? ⟨b,o+j*3+1,none⟩=some (.int .i64 ty):=hcell 1 _ rfl;have d2:wr.cell? ⟨b,o+j*3+2,none⟩=some (.int .i64 sc):=hcell 2 _ rfl;have g0:wr.cell? ⟨b2,o2+j*3,none⟩=some (.string (bsB nm2)):=hcell2 0 _ rfl;have g1:wr.cell? ⟨b2,o2+j*3+1,none⟩=some (.int .i64 ty2):=hcell2 1 _ rfl;have g2:wr.cell? ⟨b2,o2+j*3+2,none⟩=some (.int .i64 sc2):=hcell2 2 _ rfl;cases hc2
    clear hcell hcell2;go_wp2_with fail;go_quiet (fail);go_wp2_with fail;go_roundw;case rel=>exact⟨j+1,by omega,by go_num,HGO2.out,za1 HB.out _⟩
    case measure=>simp[intOf];omega
   ·have E2:=lhd (show R=false by rw[HR.out,decide_eq_false_iff_not];intro h;subst h;exact he rfl);generalize l[j]=c at hcell he;generalize m[j]=c2 at hcell2 he;have hne:=he;clear he;obtain⟨nm,ty,sc⟩:=c;obtain⟨nm2,ty2,sc2⟩:=c2;have d0:wr.cell? ⟨b,o+j*3,none⟩=some (.string (bsB nm)):=hcell 0 _ rfl;have d1:wr.cell? ⟨b,o+j*3+1,none⟩=some (.int .i64 ty):=hcell 1 _ rfl;have d2:wr.cell? ⟨b,o+j*3+2,none⟩=some (.int .i64 sc):=hcell 2 _ rfl;have g0:wr.cell? ⟨b2,o2+j*3,none⟩=some (.string (bsB nm2)):=hcell2 0 _ rfl;have g1:wr.cell? ⟨b2,o2+j*3+1,none⟩=some (.int .i64 ty2):=hcell2 1 _ rfl;have g2:wr.cell? ⟨b2,o2+j*3+2,none⟩=some (.int .i64 sc2):=hcell2 2 _ rfl;clear hcell hcell2;by_cases h0:nm=nm2
    rotate_left
    ·have hss:=zaW (zbl h0);clear h0 hne;go_wp2_with fail;go_quiet (fail);go_wp2_with fail;go_ret;exact⟨zle E2.out.symm,za1 HB.out _⟩
    subst h0;by_cases h1:ty=ty2
    rotate_left
    ·skip
     have hnb:(ty==ty2)=false:=by rw[beq_eq_false_iff_ne];assumption
     clear h1 hne;go_wp2_with fail;go_quiet (fail);go_wp2_with fail;go_ret;exact⟨zle E2.out.symm,za1 HB.out _⟩
    subst h1;by_cases h2:sc=sc2
    rotate_left
    ·skip
     have hnb:(sc==sc2)=false:=by rw[beq_eq_false_iff_ne];assumption
     clear h2 hne;go_wp2_with fail;go_quiet (fail);go_wp2_with fail;go_ret;exact⟨zle E2.out.symm,za1 HB.out _⟩
    subst h2;exact absurd rfl hne
  ·have hj':j=l.length:=by omega
   subst hj';have E2:=lhd (show R=true by rw[HR.out,decide_eq_true_iff];have:=HGO.out;rwa [List.take_length,HLEN.out,List.take_length]at this);clear hlt;go_wp2_with fail;go_ret;exact⟨zle E2.out.symm,HB.out⟩
theorem zd0 (v u:Value) (l m:List (Vr)) (w:World) (hs:SlR w v l.length (vrs l)) (ht:SlR w u m.length (vrs m)):
 Calls Tryz.prog 122 #[v,u] w fun e w'=>e=.returned (.bool (decide (l=m)))∧Below w.heap.size w w':=by
 obtain⟨a,cap,rfl,hc,hm⟩:=hs.shape;obtain⟨a2,cap2,rfl,hc2,hm2⟩:=ht.shape;unfold maxLen at hm hm2;have HS:=lhd hs;have HT:=lhd ht;clear hs ht;obtain⟨R,hR⟩:∃R,R=decide (l=m):=⟨_,rfl⟩;rw[←hR];by_cases hne:l.length≠m.length
 ·have E:=lhd (show R=false by rw[hR,decide_eq_false_iff_not];intro h;exact hne (by rw[h]));have hb:((l.length:Int) !=(m.length:Int))=true:=by rw[bne_iff_ne];omega
  clear hne hR;go_enter Tryz.func122,Tryz.ntmps122;go_wp2_with fail;go_ret;exact⟨zle E.out.symm,Below.refl _ _⟩
 have hlen:l.length=m.length:=by omega
 have HLEN:=lhd hlen;have HR:=lhd hR;have hb:((l.length:Int) !=(m.length:Int))=false:=by rw[hlen];simp
 clear hne hlen hR;go_enter Tryz.func122,Tryz.ntmps122;go_wp2_with fail
 go_loopw [13] (fun i wr=>∃(j:Nat),j≤l.length∧i=.int .i64 j∧l.take j=m.take j∧Below w.heap.size w wr)
  (fun i _=>l.length-(intOf i).toNat)
 case atStart=>exact⟨0,Nat.zero_le _,rfl,rfl,Below.refl _ _⟩
 case round=>
  obtain⟨j,hj,rfl,hgo,hbw⟩:=hrel;have HGO:=lhd hgo;have HB:=lhd hbw;clear hgo hbw;by_cases hlt:j<l.length
  ·have hlt2:j<m.length:=by have:=HLEN.out;omega
   obtain⟨b,o,rfl,hcell⟩:=(HS.out.below HB.out).vrs hlt;obtain⟨b2,o2,rfl,hcell2⟩:=(HT.out.below HB.out).vrs hlt2;have q1:(0:Int)≤(j:Int):=by omega
   have q2:(j:Int)<(l.length:Int):=by omega
   have q3:(j:Int)<(m.length:Int):=by omega
   have hw:IntKind.i64.wrap ((j:Int)+1)=(j:Int)+1:=IntWalk.i64_in _ (by omega);by_cases he:l[j]=m[j]
   ·have HGO2:Hid (l.take (j+1)=m.take (j+1)):=lhd (by rw[List.take_succ_eq_append_getElem hlt,List.take_succ_eq_append_getElem hlt2,HGO.out,he]);rw[←he]at hcell2;generalize l[j]=c at hcell hcell2;obtain⟨c2,hc2⟩:∃c2,c2=c:=⟨_,rfl⟩;rw[←hc2]at hcell2;clear he;obtain⟨nm,ty,sc,sg,rg,mb,lb⟩:=c;obtain⟨nm2,ty2,sc2,sg2,rg2,mb2,lb2⟩:=c2;have d0:wr.cell? ⟨b,o+j*7,none⟩=some (.string (bsB nm)):=hcell 0 _ rfl;have d1:wr.cell? ⟨b,o+j*7+1,none⟩=some (.int .i64 ty):=hcell 1 _ rfl;have d2:wr.cell? ⟨b,o+j*7+2,none⟩=some (.int .i64 sc):=hcell 2 _ rfl;have d3:wr.cell? ⟨b,o+j*7+3,none⟩=some (.int .i64 sg):=hcell 3 _ rfl;have d4:wr.cell? ⟨b,o+j*7+4,none⟩=some (.bool rg):=hcell 4 _ rfl;have d5:wr.cell? ⟨b,o+j*7+5,none⟩=some (.int .i64 mb):=hcell 5 _ rfl;have d6:wr.cell? ⟨b,o+j*7+6,none⟩=some (.int .i64 lb):=hcell 6 _ rfl;have g0:wr.cell? ⟨b2,o2+j*7,none⟩=some (.string (bsB nm2)):=hcell2 0 _ rfl;have g1:wr.cell? ⟨b2,o2+j*7+1,none⟩=some (.int .i64 ty2):=hcell2 1 _ rfl;have g2:wr.cell? ⟨b2,o2+j*7+2,none⟩=some (.int .i64 sc2):=hcell2 2 _ rfl;have g3:wr.cell? ⟨b2,o2+j*7+3,none⟩=some (.int .i64 sg2):=hcell2 3 _ rfl;have g4:wr.cell? ⟨b2,o2+j*7+4,none⟩=some (.bool rg2):=hcell2 4 _ rfl;have g5:wr.cell? ⟨b2,o2+j*7+5,none⟩=some (.int .i64 mb2):=hcell2 5 _ rfl;have g6:wr.cell? ⟨b2,o2+j*7+6,none⟩=some (.int .i64 lb2):=hcell2 6 _ rfl;cases hc2
    clear hcell hcell2;go_wp2_with fail;go_quiet (fail);go_wp2_with fail;go_roundw;case rel=>exact⟨j+1,by omega,by go_num,HGO2.out,za1 HB.out _⟩
    case measure=>simp[intOf];omega
   ·have E2:=lhd (show R=false by rw[HR.out,decide_eq_false_iff_not];intro h;subst h;exact he rfl);generalize l[j]=c at hcell he;generalize m[j]=c2 at hcell2 he;have hne:=he;clear he;obtain⟨nm,ty,sc,sg,rg,mb,lb⟩:=c;obtain⟨nm2,ty2,sc2,sg2,rg2,mb2,lb2⟩:=c2;have d0:wr.cell? ⟨b,o+j*7,none⟩=some (.string (bsB nm)):=hcell 0 _ rfl;have d1:wr.cell? ⟨b,o+j*7+1,none⟩=some (.int .i64 ty):=hcell 1 _ rfl;have d2:wr.cell? ⟨b,o+j*7+2,none⟩=some (.int .i64 sc):=hcell 2 _ rfl;have d3:wr.cell? ⟨b,o+j*7+3,none⟩=some (.int .i64 sg):=hcell 3 _ rfl;have d4:wr.cell? ⟨b,o+j*7+4,none⟩=some (.bool rg):=hcell 4 _ rfl;have d5:wr.cell? ⟨b,o+j*7+5,none⟩=some (.int .i64 mb):=hcell 5 _ rfl;have d6:wr.cell? ⟨b,o+j*7+6,none⟩=some (.int .i64 lb):=hcell 6 _ rfl;have g0:wr.cell? ⟨b2,o2+j*7,none⟩=some (.string (bsB nm2)):=hcell2 0 _ rfl;have g1:wr.cell? ⟨b2,o2+j*7+1,none⟩=some (.int .i64 ty2):=hcell2 1 _ rfl;have g2:wr.cell? ⟨b2,o2+j*7+2,none⟩=some (.int .i64 sc2):=hcell2 2 _ rfl;have g3:wr.cell? ⟨b2,o2+j*7+3,none⟩=some (.int .i64 sg2):=hcell2 3 _ rfl;have g4:wr.cell? ⟨b2,o2+j*7+4,none⟩=some (.bool rg2):=hcell2 4 _ rfl;have g5:wr.cell? ⟨b2,o2+j*7+5,none⟩=some (.int .i64 mb2):=hcell2 5 _ rfl;have g6:wr.cell? ⟨b2,o2+j*7+6,none⟩=some (.int .i64 lb2):=hcell2 6 _ rfl;clear hcell hcell2;by_cases h0:nm=nm2
    rotate_left
    ·have hss:=zaW (zbl h0);clear h0 hne;go_wp2_with fail;go_quiet (fail);go_wp2_with fail;go_ret;exact⟨zle E2.out.symm,za1 HB.out _⟩
    subst h0;by_cases h1:ty=ty2
    rotate_left
    ·skip
     have hnb:(ty==ty2)=false:=by rw[beq_eq_false_iff_ne];assumption
     clear h1 hne;go_wp2_with fail;go_quiet (fail);go_wp2_with fail;go_ret;exact⟨zle E2.out.symm,za1 HB.out _⟩
    subst h1;by_cases h2:sc=sc2
    rotate_left
    ·skip
     have hnb:(sc==sc2)=false:=by rw[beq_eq_false_iff_ne];assumption
     clear h2 hne;go_wp2_with fail;go_quiet (fail);go_wp2_with fail;go_ret;exact⟨zle E2.out.symm,za1 HB.out _⟩
    subst h2;by_cases h3:sg=sg2
    rotate_left
    ·skip
     have hnb:(sg==sg2)=false:=by rw[beq_eq_false_iff_ne];assumption
     clear h3 hne;go_wp2_with fail;go_quiet (fail);go_wp2_with fail;go_ret;exact⟨zle E2.out.symm,za1 HB.out _⟩
    subst h3;by_cases h4:rg=rg2
    rotate_left
    ·skip
     have hnb:(rg==rg2)=false:=by rw[beq_eq_false_iff_ne];assumption
     clear h4 hne;go_wp2_with fail;go_quiet (fail);go_wp2_with fail;go_ret;exact⟨zle E2.out.symm,za1 HB.out _⟩
    subst h4;by_cases h5:mb=mb2
    rotate_left
    ·skip
     have hnb:(mb==mb2)=false:=by rw[beq_eq_false_iff_ne];assumption
     clear h5 hne;go_wp2_with fail;go_quiet (fail);go_wp2_with fail;go_ret;exact⟨zle E2.out.symm,za1 HB.out _⟩
    subst h5;by_cases h6:lb=lb2
    rotate_left
    ·skip
     have hnb:(lb==lb2)=false:=by rw[beq_eq_false_iff_ne];assumption
     clear h6 hne;go_wp2_with fail;go_quiet (fail);go_wp2_with fail;go_ret;exact⟨zle E2.out.symm,za1 HB.out _⟩
    subst h6;exact absurd rfl hne
  ·have hj':j=l.length:=by omega
   subst hj';have E2:=lhd (show R=true by rw[HR.out,decide_eq_true_iff];have:=HGO.out;rwa [List.take_length,HLEN.out,List.take_length]at this);clear hlt;go_wp2_with fail;go_ret;exact⟨zle E2.out.symm,HB.out⟩
end Go.Proofs.YtcdekelomkcahaaGreatDoor
