import Derived.Test.YtfppgpamkdkckaaGreatDoorZ00
import Derived.BigQuiet
import Derived.Deep.QuietTactic
import Derived.Lib.AppendIntMem
import Derived.Lib.AppendStr
import Derived.Lib.ItoaLen
import Derived.Lib.Strings
import Derived.Test.YtfppgpamkdkckaaGreatDoorZ01
import Derived.Test.YtfppgpamkdkckaaGreatDoorZ02
set_option maxRecDepth 100000
set_option maxHeartbeats 16000000
namespace Go.Proofs.YtfppgpamkdkckaaGreatDoor
open Go.RowKit
theorem zrm {a b:UInt8} (h:a=b):((a.toNat:Int)==(b.toNat:Int))=true:=by subst h;simp
theorem znY (s:ByteArray) (c:UInt8) (k B S:Nat) (w:World) (hk:s.size≤k)
 (ha:w.cell? ⟨B,0,none⟩=some (.int .i64 k)) (hS:w.cell? ⟨S,0,none⟩=some (.string s)):
 Calls Tryz.prog 323 #[.string ⟨#[c]⟩,.pointer (some ⟨B,0,none⟩),.pointer (some ⟨S,0,none⟩)] w fun e w'=>e=.returned (.bool false)∧∃n,w'=w.drewN n:=by
 have hd:decide (k<s.size)=false:=by simp;omega
 go_enter Tryz.func323,Tryz.ntmps323;go_wp2_with fail;refine wp_loop_rounds 2 ?_;rw[rounds_succ];go_wp2_with fail;go_quiet (fail);go_wp2_with fail;rw[rounds_succ];go_wp2_with fail;go_ret;exact⟨rfl,_,rfl⟩
theorem znZ (s:ByteArray) (c d:UInt8) (k B S:Nat) (w:World) (hk:s.size≤k)
 (ha:w.cell? ⟨B,0,none⟩=some (.int .i64 k)) (hS:w.cell? ⟨S,0,none⟩=some (.string s)):
 Calls Tryz.prog 323 #[.string ⟨#[c,d]⟩,.pointer (some ⟨B,0,none⟩),.pointer (some ⟨S,0,none⟩)] w fun e w'=>e=.returned (.bool false)∧∃n,w'=w.drewN n:=by
 have hd:decide (k<s.size)=false:=by simp;omega
 go_enter Tryz.func323,Tryz.ntmps323;go_wp2_with fail;refine wp_loop_rounds 3 ?_;rw[rounds_succ];go_wp2_with fail;go_quiet (fail);go_wp2_with fail;rw[rounds_succ];go_wp2_with fail;go_quiet (fail);go_wp2_with fail;rw[rounds_succ];go_wp2_with fail;go_ret;exact⟨rfl,_,rfl⟩
theorem zn2 (s:ByteArray) (c:UInt8) (k B S:Nat) (w:World) (hk:k<s.size) (hc:s[k]=c) (hs:s.size≤1000)
 (ha:w.cell? ⟨B,0,none⟩=some (.int .i64 k)) (hS:w.cell? ⟨S,0,none⟩=some (.string s)) (hf:w.frozen? ⟨B,0,none⟩=false):
 Calls Tryz.prog 323 #[.string ⟨#[c]⟩,.pointer (some ⟨B,0,none⟩),.pointer (some ⟨S,0,none⟩)] w fun e w'=>e=.returned (.bool true)∧∃n,w'=(w.setCell ⟨B,0,none⟩ (.int .i64 (k+1))).drewN n:=by
 have hd:decide (k<s.size)=true:=by simp;omega
 have he:=zrm (a:=s[k]) (b:=(⟨#[c]⟩:ByteArray)[0]'(Nat.zero_lt_one)) hc;clear hc;go_enter Tryz.func323,Tryz.ntmps323;go_wp2_with fail;refine wp_loop_rounds 2 ?_;rw[rounds_succ];go_wp2_with fail;go_quiet (fail);go_wp2_with fail;go_ret;exact⟨rfl,_,rfl⟩
theorem zn0 (s:ByteArray) (c:UInt8) (k B S:Nat) (w:World) (hk:k<s.size) (hc:s[k]≠c)
 (ha:w.cell? ⟨B,0,none⟩=some (.int .i64 k)) (hS:w.cell? ⟨S,0,none⟩=some (.string s)):
 Calls Tryz.prog 323 #[.string ⟨#[c]⟩,.pointer (some ⟨B,0,none⟩),.pointer (some ⟨S,0,none⟩)] w fun e w'=>e=.returned (.bool false)∧∃n,w'=w.drewN n:=by
 have hd:decide (k<s.size)=true:=by simp;omega
 have he:=zrn (a:=s[k]) (b:=(⟨#[c]⟩:ByteArray)[0]'(Nat.zero_lt_one)) hc;clear hc;go_enter Tryz.func323,Tryz.ntmps323;go_wp2_with fail;refine wp_loop_rounds 2 ?_;rw[rounds_succ];go_wp2_with fail;go_quiet (fail);go_wp2_with fail;rw[rounds_succ];go_wp2_with fail;go_ret;exact⟨rfl,_,rfl⟩
theorem zn1 (s:ByteArray) (c d:UInt8) (k B S:Nat) (w:World) (hk:k<s.size) (hc:s[k]≠c) (hc':s[k]≠d)
 (ha:w.cell? ⟨B,0,none⟩=some (.int .i64 k)) (hS:w.cell? ⟨S,0,none⟩=some (.string s)):
 Calls Tryz.prog 323 #[.string ⟨#[c,d]⟩,.pointer (some ⟨B,0,none⟩),.pointer (some ⟨S,0,none⟩)] w fun e w'=>e=.returned (.bool false)∧∃n,w'=w.drewN n:=by
 have hd:decide (k<s.size)=true:=by simp;omega
 have he:=zrn (a:=s[k]) (b:=(⟨#[c,d]⟩:ByteArray)[0]'(show 0<2 from by decide)) hc;have he':=zrn (a:=s[k]) (b:=(⟨#[c,d]⟩:ByteArray)[1]'(show 1<2 from by decide)) hc';clear hc hc';go_enter Tryz.func323,Tryz.ntmps323;go_wp2_with fail;refine wp_loop_rounds 3 ?_;rw[rounds_succ];go_wp2_with fail;go_quiet (fail);go_wp2_with fail;rw[rounds_succ];go_wp2_with fail;go_quiet (fail);go_wp2_with fail;rw[rounds_succ];go_wp2_with fail;go_ret;exact⟨rfl,_,rfl⟩
theorem zn3 (s:ByteArray) (c d:UInt8) (k B S:Nat) (w:World) (hk:k<s.size) (hc:s[k]=c) (hs:s.size≤1000)
 (ha:w.cell? ⟨B,0,none⟩=some (.int .i64 k)) (hS:w.cell? ⟨S,0,none⟩=some (.string s)) (hf:w.frozen? ⟨B,0,none⟩=false):
 Calls Tryz.prog 323 #[.string ⟨#[c,d]⟩,.pointer (some ⟨B,0,none⟩),.pointer (some ⟨S,0,none⟩)] w fun e w'=>e=.returned (.bool true)∧∃n,w'=(w.setCell ⟨B,0,none⟩ (.int .i64 (k+1))).drewN n:=by
 have hd:decide (k<s.size)=true:=by simp;omega
 have he:=zrm (a:=s[k]) (b:=(⟨#[c,d]⟩:ByteArray)[0]'(show 0<2 from by decide)) hc;clear hc;go_enter Tryz.func323,Tryz.ntmps323;go_wp2_with fail;refine wp_loop_rounds 3 ?_;rw[rounds_succ];go_wp2_with fail;go_quiet (fail);go_wp2_with fail;go_ret;exact⟨rfl,_,rfl⟩
theorem zn4 (s:ByteArray) (c d:UInt8) (k B S:Nat) (w:World) (hk:k<s.size) (hc:s[k]≠c) (hc':s[k]=d) (hs:s.size≤1000)
 (ha:w.cell? ⟨B,0,none⟩=some (.int .i64 k)) (hS:w.cell? ⟨S,0,none⟩=some (.string s)) (hf:w.frozen? ⟨B,0,none⟩=false):
 Calls Tryz.prog 323 #[.string ⟨#[c,d]⟩,.pointer (some ⟨B,0,none⟩),.pointer (some ⟨S,0,none⟩)] w fun e w'=>e=.returned (.bool true)∧∃n,w'=(w.setCell ⟨B,0,none⟩ (.int .i64 (k+1))).drewN n:=by
 have hd:decide (k<s.size)=true:=by simp;omega
 have he:=zrn (a:=s[k]) (b:=(⟨#[c,d]⟩:ByteArray)[0]'(show 0<2 from by decide)) hc;have he':=zrm (a:=s[k]) (b:=(⟨#[c,d]⟩:ByteArray)[1]'(show 1<2 from by decide)) hc';clear hc hc';go_enter Tryz.func323,Tryz.ntmps323;go_wp2_with fail;refine wp_loop_rounds 3 ?_;rw[rounds_succ];go_wp2_with fail;go_quiet (fail);go_wp2_with fail;rw[rounds_succ];go_wp2_with fail;go_quiet (fail);go_wp2_with fail;go_ret;exact⟨rfl,_,rfl⟩
def zhj (c:UInt8):Bool:=decide (48≤c.toNat)&&decide (c.toNat≤57)
def zd5 (s:ByteArray) (k:Nat):Nat:=((s.data.toList.drop k).takeWhile zhj).length
theorem zqj {α:Type} (p:α→Bool):∀(l:List α) (j:Nat),j<(l.takeWhile p).length→∃x,l[j]? =some x∧p x=true
 | [],j,h=>by simp at h
 |a::l,j,h=>by
  by_cases ha:p a=true
  ·rw[List.takeWhile_cons_of_pos ha]at h;cases j with
   |zero=>exact⟨a,rfl,ha⟩
   |succ j=>exact zqj p l j (by simpa using h)
  ·rw[List.takeWhile_cons_of_neg ha]at h;simp at h
theorem zqk {α:Type} (p:α→Bool):∀(l:List α) (x:α),l[(l.takeWhile p).length]? =some x→p x=false
 | [],x,h=>by simp at h
 |a::l,x,h=>by
  by_cases ha:p a=true
  ·rw[List.takeWhile_cons_of_pos ha]at h;exact zqk p l x (by simpa using h)
  ·rw[List.takeWhile_cons_of_neg ha]at h;simp at h;subst h;simpa using ha
theorem zd8 (s:ByteArray) (k:Nat) (hk:k≤s.size):k+zd5 s k≤s.size:=by
 have:=List.Sublist.length_le (List.takeWhile_sublist (l:=s.data.toList.drop k) zhj);have h2:(s.data.toList.drop k).length=s.size-k:=by simp
 unfold zd5;omega
theorem zd6 (s:ByteArray) (k j:Nat) (hj:j<zd5 s k) (h:k+j<s.size):zhj s[k+j]=true:=by
 obtain⟨x,hx,hp⟩:=zqj zhj _ j hj;rw[List.getElem?_drop]at hx;have:s.data.toList[k+j]? =some s[k+j]:=List.getElem?_eq_getElem (by simpa using h);rw[this]at hx;rw[Option.some.inj hx];exact hp
theorem zd7 (s:ByteArray) (k:Nat) (h:k+zd5 s k<s.size):zhj s[k+zd5 s k]=false:=by
 apply zqk zhj (s.data.toList.drop k);rw[List.getElem?_drop];exact List.getElem?_eq_getElem (show k+zd5 s k<s.data.toList.length by simpa using h)
theorem zgh {w w':World} {B:Nat} (h:w.grownBy w' (some B)) (o:Nat) (v:Value):w.grownBy (w'.setCell ⟨B,o,none⟩ v) (some B):=
 ⟨h.os,h.tape,h.output,by simpa[World.setCell] using h.size,fun i hi hne=>(Below.heap_setCell w' _ v i (by rintro rfl;exact hne rfl)).trans (h.block i hi hne)⟩
theorem znU (s:ByteArray) (k B S:Nat) (w:World) (hk:k≤s.size) (hs:s.size≤1000)
 (ha:w.cell? ⟨B,0,none⟩=some (.int .i64 k)) (hS:w.cell? ⟨S,0,none⟩=some (.string s)) (hf:w.frozen? ⟨B,0,none⟩=false) (hBS:B≠S):
 Calls Tryz.prog 324 #[.pointer (some ⟨B,0,none⟩),.pointer (some ⟨S,0,none⟩)] w fun e w'=>e=.returned (.string (s.extract k (k+zd5 s k)))∧w.grownBy w' (some B)∧w'.cell? ⟨B,0,none⟩=some (.int .i64 ((k+zd5 s k:Nat):Int))∧w'.frozen? ⟨B,0,none⟩=false:=by
 go_enter Tryz.func324,Tryz.ntmps324;go_wp2_with fail
 go_loopw [21] (fun _ wr=>∃j:Nat,j≤zd5 s k∧wr.cell? ⟨B,0,none⟩=some (.int .i64 ((k+j:Nat):Int))∧wr.frozen? ⟨B,0,none⟩=false∧wr.cell? ⟨S,0,none⟩=some (.string s)∧w.grownBy wr (some B))
  (fun _ wr=>match wr.cell? ⟨B,0,none⟩with|some (.int _ n)=>s.size-n.toNat|_=>0)
 case atStart=>exact⟨0,Nat.zero_le _,ha,hf,hS,World.grownBy.refl _ _⟩
 case round=>
  obtain⟨j,hj,ha',hf',hS',hg⟩:=hrel;clear ha hf hS;have hle:=zd8 s k hk;by_cases hlt:k+j<s.size
  ·have hd:decide (k+j<s.size)=true:=by simpa using hlt
   by_cases hjr:j<zd5 s k
   ·have h1:=zd6 s k j hjr hlt;obtain⟨h2,h3⟩:48≤s[k+j].toNat∧s[k+j].toNat≤57:=by simpa[zhj] using h1
    clear h1;go_wp2_with fail;go_roundw;case rel=>exact⟨j+1,by omega,by rw[World.cell?_setCell_same _ _ _ ha'];simp;omega,by rw[World.frozen?_setCell];exact hf',by rw[World.cell?_setCell_other (h:=by intro e;injection e with e;exact hBS e)];exact hS',zgh hg _ _⟩
    case measure=>rw[World.cell?_setCell_same _ _ _ ha',ha'];simp;omega
   ·obtain rfl:j=zd5 s k:=by omega
    have h1:=zd7 s k hlt;rcases(show s[k+zd5 s k].toNat<48∨57<s[k+zd5 s k].toNat by simp[zhj]at h1;omega)with h2|h2
    all_goals
     clear h1;go_wp2_with fail;go_ret;exact⟨znf (by simp),hg,ha',hf'⟩
  ·obtain rfl:j=zd5 s k:=by omega
   have hd:decide (k+zd5 s k<s.size)=false:=by simp;omega
   go_wp2_with fail;go_ret;exact⟨znf (by simp),hg,ha',hf'⟩
def bys (l:List UInt8):List Value:=l.map zbE
theorem zbC (l:List UInt8) (j:Nat) (h:j<l.length):(bys l)[j]? =some (zbE l[j]):=by
 unfold bys;rw[List.getElem?_map,List.getElem?_eq_getElem h];rfl
def lenOf:Value→Nat
 | .slice _ n _=>n
 |_=>0
theorem SlR.tail {w:World} {b o n cap:Nat} {x:Value} {xs:List Value} (hn:n+1≤cap) (hm:cap≤maxLen) (hc:∀j u,(x::xs)[j]? =some u→w.cell? ⟨b,o+j,none⟩=some u) (a:Option Addr) (ha:0<n→a=some ⟨b,o+1,none⟩) (ha':a=none→False):
 SlR w (.slice a n (cap-1)) n xs:=
 ⟨a,cap-1,rfl,by omega,by omega,fun h=>(ha' h).elim,fun h=>⟨b,o+1,ha h,fun j u hj=>by have:=hc (j+1) u (by simpa using hj);rwa [show o+(j+1)=o+1+j by omega]at this⟩⟩
theorem SlR.tail' {w:World} {b o n cap:Nat} {x:Value} {xs:List Value} (h:SlR w (.slice (some ⟨b,o,none⟩) (n+1) cap) (n+1) (x::xs)) (a:Option Addr) (ha:0<n→a=some ⟨b,o+1,none⟩) (ha':a=none→False):
 SlR w (.slice a n (cap-1)) n xs:=by
 obtain⟨b',o',cap',hv,h1,h2,hc⟩:=h.at (by omega);injection hv with e1 _ e3;injection e1 with e1;injection e1 with e1 e2 _;subst e1 e2 e3;exact SlR.tail h1 h2 hc a ha ha'
theorem zq1 (v:Value) (l:List UInt8) (w:World) (c:UInt8) (h:SlR w v l.length (bys l)):
 Calls Tryz.prog 351 #[v,.int .u8 c.toNat] w fun e w'=>w=w'∧∃v',e=.returned v'∧∀W,SlR W v l.length (bys l)→SlR W v' (l.dropWhile (· ==c)).length (bys (l.dropWhile (· ==c))):=by
 go_enter Tryz.func351,Tryz.ntmps351;go_wp2_with fail;go_loop [0] (fun v'=>∃l':List UInt8,SlR w v' l'.length (bys l')∧(∀W,SlR W v l.length (bys l)→SlR W v' l'.length (bys l'))∧l'.dropWhile (· ==c)=l.dropWhile (· ==c)) (fun v'=>lenOf v')
 case atStart=>exact⟨l,h,fun _ h=>h,rfl⟩
 case round=>
  obtain⟨l',h',hW,hd⟩:=hrel;have HW:=lhd hW;clear h hW;have HD:=lhd hd;clear hd;cases l' with
  |nil=>
   obtain⟨a,cap,rfl,hm,hz⟩:=h'.zero;clear h' hz;go_wp2_with fail;go_ret;exact⟨rfl,_,rfl,by rw[←HD.out];exact fun W _=>SlR.nil W⟩
  |cons x l'=>
   obtain⟨b,o,cap,rfl,hlc,hm,hc⟩:=h'.at (by simp);have hc0:w.cell? ⟨b,o,none⟩=some (.int .u8 x.toNat):=hc 0 (zbE x) rfl;have HC:=lhd hc;have HH:=lhd h';clear hc h';simp only[List.length_cons]at hlc;unfold maxLen at hm;by_cases hx:x=c
   ·have hx':=zrm hx;have Hx:=lhd hx;clear hx;by_cases hcap:cap=1
    ·subst hcap;obtain rfl:l'=[]:=List.length_eq_zero_iff.1 (by omega);go_wp2_with fail;go_round
     case rel=>exact⟨[],⟨_,0,rfl,Nat.le_refl _,by simp[maxLen],fun h=>by simp at h,fun h=>by simp at h⟩,fun W h=>(HW.out W h).tail' (some ⟨b,o,none⟩) (fun h=>by simp at h) (by simp),by rw[←HD.out,List.dropWhile_cons_of_pos (by simp[Hx.out])]⟩
     case measure=>simp[lenOf]
    ·go_wp2_with fail;go_round
     case rel=>exact⟨l',SlR.tail hlc hm HC.out _ (fun _=>rfl) (by simp),fun W h=>(HW.out W h).tail' _ (fun _=>rfl) (by simp),by rw[←HD.out,List.dropWhile_cons_of_pos (by simp[Hx.out])]⟩
     case measure=>simp[lenOf]
   ·have hx':=zrn hx;go_wp2_with fail;go_ret;refine⟨rfl,_,rfl,?_⟩;rw[←HD.out,List.dropWhile_cons_of_neg (by simpa using hx)];exact HW.out
def zq2 (c:UInt8) (l:List UInt8):List UInt8:=(l.reverse.dropWhile (· ==c)).reverse
theorem zq7 (c x:UInt8) (l:List UInt8):zq2 c (l++ [x])=if x=c then zq2 c l else l++ [x]:=by
 unfold zq2;rw[List.reverse_append,List.reverse_singleton,List.singleton_append];by_cases h:x=c
 ·rw[List.dropWhile_cons_of_pos (by simp[h]),if_pos h]
 ·rw[List.dropWhile_cons_of_neg (by simpa using h),if_neg h];simp
theorem SlR.front {w:World} {b o n cap:Nat} {xs ys:List Value} (hn:n≤cap) (hm:cap≤maxLen) (hc:∀j u,(xs++ys)[j]? =some u→w.cell? ⟨b,o+j,none⟩=some u):
 SlR w (.slice (some ⟨b,o,none⟩) n cap) n xs:=
 ⟨_,cap,rfl,hn,hm,fun h=>by simp at h,fun _=>⟨b,o,rfl,fun j u hj=>hc j u (by rw[List.getElem?_append_left];exact hj;exact(List.getElem?_eq_some_iff.1 hj).1)⟩⟩
theorem zq8 (v:Value) (l:List UInt8) (w:World) (c:UInt8) (h:SlR w v l.length (bys l)):
 Calls Tryz.prog 355 #[v,.int .u8 c.toNat] w fun e w'=>w=w'∧∃v',e=.returned v'∧∀W,SlR W v l.length (bys l)→SlR W v' (zq2 c l).length (bys (zq2 c l)):=by
 go_enter Tryz.func355,Tryz.ntmps355;go_wp2_with fail;go_loop [0] (fun v'=>∃l':List UInt8,SlR w v' l'.length (bys l')∧(∀W,SlR W v l.length (bys l)→SlR W v' l'.length (bys l'))∧zq2 c l'=zq2 c l) (fun v'=>lenOf v')
 case atStart=>exact⟨l,h,fun _ h=>h,rfl⟩
 case round=>
  obtain⟨l',h',hW,hd⟩:=hrel;have HW:=lhd hW;clear h hW;have HD:=lhd hd;clear hd;rcases List.eq_nil_or_concat l' with rfl|⟨l'',x,rfl⟩
  ·obtain⟨a,cap,rfl,hm,hz⟩:=h'.zero;have HH:=lhd h';clear h' hz;go_wp2_with fail;go_ret;exact⟨rfl,_,rfl,by rw[←HD.out];exact HW.out⟩
  ·rw[List.concat_eq_append]at*;obtain⟨b,o,cap,rfl,hlc,hm,hc⟩:=h'.at (by simp);have hc0:w.cell? ⟨b,o+l''.length,none⟩=some (.int .u8 x.toNat):=hc l''.length (zbE x) (by rw[zbC _ _ (by simp)];simp);have HC:=lhd hc;have HH:=lhd h';clear hc h';simp only[List.length_append,List.length_singleton]at hlc⊢;unfold maxLen at hm;by_cases hx:x=c
   ·have hx':=zrm hx;have Hx:=lhd hx;clear hx;go_wp2_with fail;go_round
    case rel=>exact⟨l'',SlR.front (by omega) hm (by have:=HC.out;unfold bys at this;rwa [List.map_append]at this),fun W h=>by
     have:=HW.out W h;rw[show bys (l''++ [x])=bys l''++bys [x]by simp[bys]]at this;exact this.cut (by simp) (by omega) (Nat.le_refl _),by rw[←HD.out,zq7,if_pos Hx.out]⟩
    case measure=>simp[lenOf]
   ·have hx':=zrn hx;go_wp2_with fail;go_ret;refine⟨rfl,_,rfl,?_⟩;rw[←HD.out,zq7,if_neg hx];simpa using HW.out
theorem zbI (v:Value) (l:List UInt8) (w:World) (h:SlR w v l.length (bys l)) (hl:l.length≤1000):
 Calls Tryz.prog 344 #[v,.string ⟨#[48]⟩] w fun e w'=>w=w'∧∃v',e=.returned v'∧∀W,SlR W v l.length (bys l)→SlR W v' (l.dropWhile (· ==48)).length (bys (l.dropWhile (· ==48))):=by
 cases l with
 |nil=>
  obtain⟨a,cap,rfl,hm,hz⟩:=h.zero;clear h hz hl;go_enter Tryz.func344,Tryz.ntmps344;go_wp2_with fail;go_ret;exact⟨rfl,_,rfl,fun W _=>SlR.nil W⟩
 |cons x l=>
  have HH:=lhd h;obtain⟨b,o,cap,rfl,hlc,hm,hc⟩:=h.at (by simp);clear h hc;simp only[List.length_cons]at hlc hl;have hne:(((l.length+1:Nat):Int)==0)=false:=by rw[beq_eq_false_iff_ne];omega
  go_enter Tryz.func344,Tryz.ntmps344;go_wp2_with fail;refine(zq1 _ (x::l) _ 48 HH.out).mono ?_;rintro e w' ⟨rfl,v',rfl,hv⟩;have HV:=lhd hv;clear hv;go_wp2_with fail;go_ret;exact⟨rfl,_,rfl,HV.out⟩
theorem zbJ (v:Value) (l:List UInt8) (w:World) (h:SlR w v l.length (bys l)) (hl:l.length≤1000):
 Calls Tryz.prog 345 #[v,.string ⟨#[48]⟩] w fun e w'=>w=w'∧∃v',e=.returned v'∧∀W,SlR W v l.length (bys l)→SlR W v' (zq2 48 l).length (bys (zq2 48 l)):=by
 cases l with
 |nil=>
  obtain⟨a,cap,rfl,hm,hz⟩:=h.zero;clear h hz hl;go_enter Tryz.func345,Tryz.ntmps345;go_wp2_with fail;go_ret;exact⟨rfl,_,rfl,fun _ h=>h⟩
 |cons x l=>
  have HH:=lhd h;obtain⟨b,o,cap,rfl,hlc,hm,hc⟩:=h.at (by simp);clear h hc;simp only[List.length_cons]at hlc hl;have hne:(((l.length+1:Nat):Int)==0)=false:=by rw[beq_eq_false_iff_ne];omega
  go_enter Tryz.func345,Tryz.ntmps345;go_wp2_with fail;refine(zq8 _ (x::l) _ 48 HH.out).mono ?_;rintro e w' ⟨rfl,v',rfl,hv⟩;have HV:=lhd hv;clear hv;go_wp2_with fail;go_ret;exact⟨rfl,_,rfl,HV.out⟩
abbrev Num:=Bool×List UInt8×Int
def zj3 (n:Num):Num:=
 let d1:=n.2.1.dropWhile (· ==48)
 let d2:=zq2 48 d1
 if d2=[]then(false,[],0)else(n.1,d2,n.2.2+((d1.length:Int)-d2.length))
theorem zq5 (c:UInt8) (l:List UInt8):(zq2 c l).length≤l.length:=by
 have:=List.Sublist.length_le (List.dropWhile_sublist (l:=l.reverse) (· ==c));unfold zq2;simpa using this
theorem zq6 (c:UInt8) (l:List UInt8):zq2 c l<+:l:=by
 unfold zq2;have:=List.dropWhile_suffix (l:=l.reverse) (· ==c);have:=List.reverse_prefix.2 this;simpa using this
theorem zes (c:UInt8) (l:List UInt8):(l.dropWhile (· ==c)).length≤l.length:=List.Sublist.length_le (List.dropWhile_sublist _)
theorem zdU (neg:Bool) (v:Value) (l:List UInt8) (ex:Int) (w:World) (h:SlR w v l.length (bys l)) (hl:l.length≤1000) (hlo: -1000000000≤ex) (hhi:ex≤1000000000):
 Calls Tryz.prog 325 #[.agg #[.bool neg,v,.int .i64 ex]] w fun e w'=>Below w.heap.size w w'∧∃v',e=.returned (.agg #[.bool (zj3 (neg,l,ex)).1,v',.int .i64 (zj3 (neg,l,ex)).2.2])∧∀W,SlR W v l.length (bys l)→SlR W v' (zj3 (neg,l,ex)).2.1.length (bys (zj3 (neg,l,ex)).2.1):=by
 obtain⟨d1,hd1⟩:∃d1,d1=l.dropWhile (· ==48):=⟨_,rfl⟩;obtain⟨d2,hd2⟩:∃d2,d2=zq2 48 d1:=⟨_,rfl⟩;have hl1:d1.length≤l.length:=hd1▸zes 48 l;have hl2:d2.length≤d1.length:=hd2▸zq5 48 d1;have hpre:d2<+:d1:=hd2▸zq6 48 d1;have HN:=lhd (show zj3 (neg,l,ex)=if d2=[]then(false,[],0)else(neg,d2,ex+((d1.length:Int)-d2.length))by subst hd2 hd1;rfl);have HD1:=lhd hd1;have HD2:=lhd hd2;have HP:=lhd hpre;have HS:=lhd h;clear hd1 hd2 h hpre;go_enter Tryz.func325,Tryz.ntmps325;go_wp2_with fail;refine(zbI v l _ (HS.out.below ?_) hl).mono ?_
 ·exact((Below.refl _ _).alloc (Nat.le_refl _) _).alloc (by simp) _
 rintro e w1 ⟨rfl,v1,rfl,h1⟩;have hs1:=h1 w HS.out;rw[←HD1.out]at hs1;obtain⟨a1,cap1,rfl,hc1,hm1⟩:=hs1.shape;have HS1:=lhd hs1;have H1:=lhd h1;clear h1 hs1;unfold maxLen at hm1;go_wp2_with fail;refine(zbJ _ d1 _ (HS1.out.below ?_) (by omega)).mono ?_
 ·exact((Below.refl _ _).alloc (Nat.le_refl _) _).alloc (by simp) _
 rintro e w1 ⟨rfl,v2,rfl,h2⟩;have hs2:=h2 w HS1.out;rw[←HD2.out]at hs2;obtain⟨a2,cap2,rfl,hc2,hm2⟩:=hs2.shape;clear h2 hs2
 have H2:Hid (∀W,SlR W v l.length (bys l)→SlR W (.slice a1 d2.length d2.length) d2.length (bys d2)):=lhd (fun W h=>by
  have:=H1.out W h;rw[←HD1.out]at this;obtain⟨r,hr⟩:=HP.out;rw[show bys d1=bys d2++bys r by rw[←hr];simp[bys]]at this;exact this.cut hl2 (Nat.le_refl _) (by omega))
 by_cases hz:d2=[]
 ·subst hz;have HN':=lhd (HN.out.trans (if_pos rfl));go_wp2_with fail;refine bodyPost_ret (v:=.agg #[.bool false,.slice none 0 0,.int .i64 0]) (by simp[results,Tryz.results325,go_sem]) rfl ⟨((Below.refl _ _).alloc (Nat.le_refl _) _).alloc (by simp) _,?_⟩;rw[HN'.out];exact⟨_,rfl,fun W _=>SlR.nil W⟩
 ·have hpos:0<d2.length:=List.length_pos_iff.2 hz;have HN':=lhd (HN.out.trans (if_neg hz));have hb:((d2.length:Int)==0)=false:=by rw[beq_eq_false_iff_ne];omega
  clear hz;go_wp2_with fail;refine bodyPost_ret (v:=.agg #[.bool neg,.slice a1 d2.length d2.length,.int .i64 (ex+((d1.length:Int)-d2.length))]) (by simp[results,Tryz.results325,go_sem]) rfl ?_;have hb':Below w.heap.size w ((w.alloc (Obj.cells #[Value.bool neg,Value.slice a1 d2.length d2.length,Value.int IntKind.i64 (ex+((d1.length:Int)-d2.length))] 267)).alloc (Obj.cells #[Value.bool neg,Value.slice a1 d2.length d2.length,Value.int IntKind.i64 (ex+((d1.length:Int)-d2.length))] 267)):=((Below.refl _ _).alloc (Nat.le_refl _) _).alloc (by simp) _;refine⟨hb',?_⟩;rw[HN'.out];exact⟨_,rfl,H2.out⟩
theorem zdL (neg:Bool) (a:Option Addr) (n cap:Nat) (ex:Int) (w:World) (hl:n≤1000) (hlo: -2000000000≤ex) (hhi:ex≤2000000000):
 Calls Tryz.prog 326 #[.agg #[.bool neg,.slice a n cap,.int .i64 ex]] w fun e w'=>e=.returned (.int .i64 (ex+n-1))∧Below w.heap.size w w':=by
 go_enter Tryz.func326,Tryz.ntmps326;go_wp2_with fail;go_ret;exact⟨rfl,(Below.refl _ _).alloc (Nat.le_refl _) _⟩
def zj2 (n:Num):List UInt8×Int:=
 if n.2.1=[]then([48],0)else
 if 17<n.2.1.length∨n.2.2+n.2.1.length-1< -400∨400<n.2.2+n.2.1.length-1 then([],9)else
 ((if n.1 then [45]else [])++(n.2.1.take 1++((if 1<n.2.1.length then [46]++n.2.1.drop 1 else [])++([101]++Lib.itoa (n.2.2+n.2.1.length-1)))),0)
def Glob (w:World):Prop:=Lib.TabIs Tryz.prog w "internal/strconv.uint64pow10" .u64 Lib.pow10Tab
theorem zf9:Tryz.prog.globalNamed "internal/strconv.uint64pow10" =some 0:=by kernel_rfl
theorem Glob.below {w w':World} (h:Glob w) (hb:Below w.heap.size w w'):Glob w':=by
 unfold Glob Lib.TabIs World.var? at*;simp only[zf9,Option.bind_some]at*
 have hlt:0<w.heap.size:=by
  rcases Nat.lt_or_ge 0 w.heap.size with h'|h'
  ·exact h'
  ·rw[Array.getElem?_eq_none h']at h;simp at h
 rw[hb.block _ hlt];exact h
theorem zdS (neg:Bool) (a:Option Addr) (cap:Nat) (ex:Int) (w:World):
 Calls Tryz.prog 293 #[.agg #[.bool neg,.slice a 0 cap,.int .i64 ex]] w fun e w'=>e=.returned (.tuple #[.string ⟨#[48]⟩,.int .i64 0])∧Below w.heap.size w w':=by
 go_enter Tryz.func293,Tryz.ntmps293;go_wp2_with fail;go_ret2
 exact⟨rfl,(Below.refl _ _).alloc (Nat.le_refl _) _⟩
theorem zdR (neg:Bool) (a:Option Addr) (n cap:Nat) (ex:Int) (w:World) (h0:0<n) (hl:n≤1000) (hlo: -2000000000≤ex) (hhi:ex≤2000000000) (hbig:17<n∨ex+n-1< -400∨400<ex+n-1):
 Calls Tryz.prog 293 #[.agg #[.bool neg,.slice a n cap,.int .i64 ex]] w fun e w'=>e=.returned (.tuple #[.string ⟨#[]⟩,.int .i64 9])∧Below w.heap.size w w':=by
 have hb:((n:Int)==0)=false:=by rw[beq_eq_false_iff_ne];omega
 by_cases h1:17<n
 ·clear hbig;go_enter Tryz.func293,Tryz.ntmps293;go_wp2_with fail;go_ret2
  exact⟨rfl,(Below.refl _ _).alloc (Nat.le_refl _) _⟩
 by_cases h2:ex+n-1< -400
 ·clear hbig;go_enter Tryz.func293,Tryz.ntmps293;go_wp2_with fail;refine(zdL _ _ _ _ _ _ hl hlo hhi).mono ?_;rintro e w1 ⟨rfl,hb1⟩;go_wp2_with fail;go_ret2
  exact⟨rfl,((Below.refl _ _).alloc (Nat.le_refl _) _).trans (hb1.mono (by simp))⟩
 ·have h3:400<ex+n-1:=by omega
  clear hbig;go_enter Tryz.func293,Tryz.ntmps293;go_wp2_with fail;refine(zdL _ _ _ _ _ _ hl hlo hhi).mono ?_;rintro e w1 ⟨rfl,hb1⟩;obtain⟨hc1,hf1⟩:=za3 hb1;go_wp2_with fail;refine(zdL _ _ _ _ _ _ hl hlo hhi).mono ?_;rintro e w2 ⟨rfl,hb2⟩;go_wp2_with fail;go_ret2
  exact⟨rfl,((Below.refl _ _).alloc (Nat.le_refl _) _).trans ((zfj hb1 hb2).mono (by simp))⟩
theorem zdn (P:Program) (W:World) (src dst e:TypeId) (b o cap:Nat) (l:List UInt8) (hs:P.underlying src=some (.slice e)) (he:P.underlying e=some (.int .u8)) (hd:P.underlying dst=some .string)
 (hc:∀j u,(bys l)[j]? =some u→W.cell? ⟨b,o+j,none⟩=some u):
 (convert src dst (.slice (some ⟨b,o,none⟩) l.length cap)).run P W=.ok (.string ⟨l.toArray⟩) W:=
 run_convert_bytes_back (P:=P) W src dst e ⟨b,o,none⟩ cap l hs he hd (fun j hj=>by rw[addr_add];exact hc j _ (zbC l j hj))
theorem zdT (neg:Bool) (v:Value) (x:UInt8) (l:List UInt8) (ex:Int) (w:World) (hg:Glob w) (h:SlR w v (x::l).length (bys (x::l))) (hl:l.length≤16) (hlo: -400≤ex+l.length) (hhi:ex+l.length≤400):
 Calls Tryz.prog 293 #[.agg #[.bool neg,v,.int .i64 ex]] w fun e w'=>e=.returned (.tuple #[.string ⟨(zj2 (neg,x::l,ex)).1.toArray⟩,.int .i64 0])∧Below w.heap.size w w':=by
 obtain⟨b,o,cap,rfl,hlc,hm,hc⟩:=h.at (by simp)
 have HC1:Hid (∀W cap',Below w.heap.size w W→(convert 62 9 (.slice (some ⟨b,o,none⟩) 1 cap')).run Tryz.prog W=.ok (.string ⟨#[x]⟩) W):=lhd (fun W cap' hb=>
  zdn Tryz.prog W 62 9 5 b o cap' [x] Tryz.underlying62 Tryz.underlying5 Tryz.underlying9
  (fun j u hj=>by
    have:=hc j u (by
     cases j with
     |zero=>simpa[bys] using hj
     |succ j=>simp[bys]at hj)
    exact(hb.cell (p:=⟨b,o+j,none⟩) (zbU this)).trans this))
 have HC2:Hid (∀W cap',Below w.heap.size w W→(convert 62 9 (.slice (some ⟨b,o+1,none⟩) l.length cap')).run Tryz.prog W=.ok (.string ⟨l.toArray⟩) W):=lhd (fun W cap' hb=>
  zdn Tryz.prog W 62 9 5 b (o+1) cap' l Tryz.underlying62 Tryz.underlying5 Tryz.underlying9
  (fun j u hj=>by
    have:=hc (j+1) u (by simpa[bys] using hj);rw[show o+(j+1)=o+1+j by omega]at this;exact(hb.cell (p:=⟨b,o+1+j,none⟩) (zbU this)).trans this))
 have HG:=lhd hg
 have HN:Hid (zj2 (neg,x::l,ex)=((if neg then [45]else [])++((x::l).take 1++((if 1<(x::l).length then [46]++(x::l).drop 1 else [])++([101]++Lib.itoa (ex+((x::l).length:Int)-1)))),0)):=lhd (by
  unfold zj2;rw[if_neg (by simp),if_neg (by simp;omega)])
 clear h hc hg;simp only[List.length_cons]at hlc⊢;unfold maxLen at hm;have hb:(((l.length+1:Nat):Int)==0)=false:=by rw[beq_eq_false_iff_ne];omega
 have hcase:l.length≤0∨0<l.length:=by omega
 rcases hcase with hpos|hpos
 all_goals
  cases neg
  all_goals
   go_enter Tryz.func293,Tryz.ntmps293;go_wp2_with fail;refine(zdL _ _ _ _ _ _ (by omega) (by omega) (by omega)).mono ?_;rintro e w1 ⟨rfl,hb1⟩;obtain⟨k0,k1,k2⟩:=box3 hb1;go_wp2_with fail;refine(zdL _ _ _ _ _ _ (by omega) (by omega) (by omega)).mono ?_;rintro e w2 ⟨rfl,hb2⟩;have hb12:=zfj hb1 hb2;obtain⟨k0',k1',k2'⟩:=box3 hb12;have hbw:Below w.heap.size w w2:=((Below.refl _ _).alloc (Nat.le_refl _) _).trans (hb12.mono (by simp));have c1:=fun cap'=>HC1.out w2 cap' hbw;have c2:=fun cap'=>HC2.out w2 cap' hbw;clear k0 k1 k2;go_wp2_with fail;refine(zdL _ _ _ _ _ _ (by omega) (by omega) (by omega)).mono ?_;rintro e w3 ⟨rfl,hb3⟩;have hgl:Glob w3:=HG.out.below (zfj hbw hb3);have HB3:Hid (Below w.heap.size w w3):=lhd (zfj hbw hb3);clear c1 c2 k0' k1' k2';go_wp2_with fail;refine(Tryz.strconv_Itoa _ (by omega) (by omega) _ hgl).mono ?_;rintro e w4 ⟨rfl,kk,os,rfl⟩;have hil:=Lib.itoa_length_le (ex+((l.length:Int)+1)-1) (by omega) (by omega);go_wp2_with fail;go_ret2
   refine⟨zng ?_,?_⟩
   ·rw[HN.out];refine congrArg (·,(0:Int)) (ba_eq _ _ ?_);cases l<;>simp[ByteArray.data_append]at hpos⊢
   ·exact HB3.out.trans (Lib.below_grow _ _ HB3.out.size _ _)
theorem zj4 (n:Num):(zj3 n).2.1.length≤n.2.1.length∧((zj3 n).2.2=0∨(n.2.2≤(zj3 n).2.2∧(zj3 n).2.2≤n.2.2+n.2.1.length)):=by
 have h1:=zes 48 n.2.1;have h2:=zq5 48 (n.2.1.dropWhile (· ==48));unfold zj3;simp only;split
 ·simp
 ·simp only;omega
theorem zdQ (neg:Bool) (v:Value) (l:List UInt8) (ex:Int) (w:World) (hg:Glob w) (h:SlR w v l.length (bys l)) (hl:l.length≤1000) (hlo: -2000000000≤ex) (hhi:ex≤2000000000):
 Calls Tryz.prog 293 #[.agg #[.bool neg,v,.int .i64 ex]] w fun e w'=>e=.returned (.tuple #[.string ⟨(zj2 (neg,l,ex)).1.toArray⟩,.int .i64 (zj2 (neg,l,ex)).2])∧Below w.heap.size w w':=by
 cases l with
 |nil=>
  obtain⟨a,cap,rfl,hm,hz⟩:=h.zero;exact zdS _ _ _ _ _
 |cons x l=>
  by_cases hbig:17<(x::l).length∨ex+(x::l).length-1< -400∨400<ex+(x::l).length-1
  ·obtain⟨b,o,cap,rfl,hlc,hm,hc⟩:=h.at (by simp)
   have hn:zj2 (neg,x::l,ex)=([],9):=by
    unfold zj2;rw[if_neg (by simp),if_pos hbig]
   rw[hn];exact zdR _ _ _ _ _ _ (by simp) hl hlo hhi hbig
  ·have hn:(zj2 (neg,x::l,ex)).2=0:=by
    unfold zj2;rw[if_neg (by simp),if_neg hbig]
   rw[hn];simp only[List.length_cons]at hbig;exact zdT _ _ _ _ _ _ hg h (by omega) (by omega) (by omega)
structure ScanSt (w0 w:World) (s:ByteArray) (k:Nat) (neg:Bool) (dv:Value) (ds:List UInt8) (ex:Int):Prop where
 below:Below w0.heap.size w0 w
 size:w0.heap.size+4≤w.heap.size
 str:w.cell? ⟨w0.heap.size,0,none⟩=some (.string s)
 res:zan w (w0.heap.size+1) [.bool false,.slice none 0 0,.int .i64 0]
 num:zan w (w0.heap.size+2) [.bool neg,dv,.int .i64 ex]
 at_:zan w (w0.heap.size+3) [.int .i64 k]
 own:w.ownsRow (w0.heap.size+4) 5 1 dv ds.length (bys ds)
theorem zan.grown {w w':World} {b:Nat} {xs:List Value} {row:Option Nat} (h:zan w b xs) (hg:w.grownBy w' row) (hb:b<w.heap.size) (hne:some b≠row):zan w' b xs:=
 fun j v hj=>⟨(World.cell?_of_block (w:=w) (hg.block b hb hne)).trans (h j v hj).1,(World.frozen?_of_block (w:=w) (hg.block b hb hne)).trans (h j v hj).2⟩
theorem ScanSt.moved {w0 w w':World} {s:ByteArray} {k k':Nat} {neg:Bool} {dv:Value} {ds:List UInt8} {ex:Int} (h:ScanSt w0 w s k neg dv ds ex)
 (hg:w.grownBy w' (some (w0.heap.size+3))) (hc:w'.cell? ⟨w0.heap.size+3,0,none⟩=some (.int .i64 k')) (hf:w'.frozen? ⟨w0.heap.size+3,0,none⟩=false):ScanSt w0 w' s k' neg dv ds ex:=by
 have hsz:=h.size;refine⟨h.below.grown hg (by omega) (fun k hk=>by injection hk with hk;omega),Nat.le_trans h.size hg.size,?_,h.res.grown hg (by omega) (by simp),h.num.grown hg (by omega) (by simp),?_,h.own.kept hg ?_⟩
 ·exact(World.cell?_of_block (w:=w) (hg.block w0.heap.size (by omega) (by simp))).trans h.str
 ·intro j v hj;cases j with
  |zero=>obtain rfl:=Option.some.inj hj;exact⟨hc,hf⟩
  |succ j=>simp at hj
 ·right
  intro e;have:=h.own.lt _ e;omega
theorem ScanSt.drewN {w0 w:World} {s:ByteArray} {k:Nat} {neg:Bool} {dv:Value} {ds:List UInt8} {ex:Int} (h:ScanSt w0 w s k neg dv ds ex) (n:Nat):ScanSt w0 (w.drewN n) s k neg dv ds ex:=
 ⟨⟨h.below.os,h.below.tape,h.below.output,h.below.size,h.below.block⟩,h.size,h.str,h.res,h.num,h.at_,h.own⟩
def zkR (set:List UInt8) (s:ByteArray) (k:Nat):Bool:=match s.data.toList[k]? with|some c=>set.contains c|none=>false
theorem zpK (w0 w:World) (s:ByteArray) (k:Nat) (neg:Bool) (dv:Value) (ds:List UInt8) (ex:Int) (h:ScanSt w0 w s k neg dv ds ex) (hs:s.size≤1000) (c:UInt8):
 Calls Tryz.prog 323 #[.string ⟨#[c]⟩,.pointer (some ⟨w0.heap.size+3,0,none⟩),.pointer (some ⟨w0.heap.size,0,none⟩)] w fun e w'=>e=.returned (.bool (zkR [c] s k))∧ScanSt w0 w' s (if zkR [c] s k=true then k+1 else k) neg dv ds ex:=by
 have ha:=h.at_.cell (j:=0) rfl;have hf:=h.at_.free (j:=0) (by simp);by_cases hk:k<s.size
 ·have hg:s.data.toList[k]? =some s[k]:=List.getElem?_eq_getElem (by simpa using hk);by_cases hc:s[k]=c
  ·have hh:zkR [c] s k=true:=by simp[zkR,hg,hc]
   rw[hh];refine(zn2 s c k _ _ w hk hc hs ha h.str hf).mono ?_;rintro e w' ⟨rfl,n,rfl⟩;refine⟨rfl,ScanSt.drewN (h.moved (zgh (World.grownBy.refl _ _) _ _) ?_ ?_) n⟩
   ·rw[World.cell?_setCell_same _ _ _ ha];rfl
   ·rw[World.frozen?_setCell];exact hf
  ·have hh:zkR [c] s k=false:=by simp[zkR,hg,hc]
   rw[hh];refine(zn0 s c k _ _ w hk hc ha h.str).mono ?_;rintro e w' ⟨rfl,n,rfl⟩;exact⟨rfl,h.drewN n⟩
 ·have hh:zkR [c] s k=false:=by
   unfold zkR;rw[List.getElem?_eq_none (by simp;omega)]
  rw[hh];refine(znY s c k _ _ w (by omega) ha h.str).mono ?_;rintro e w' ⟨rfl,n,rfl⟩;exact⟨rfl,h.drewN n⟩
theorem zpL (w0 w:World) (s:ByteArray) (k:Nat) (neg:Bool) (dv:Value) (ds:List UInt8) (ex:Int) (h:ScanSt w0 w s k neg dv ds ex) (hs:s.size≤1000) (c d:UInt8):
 Calls Tryz.prog 323 #[.string ⟨#[c,d]⟩,.pointer (some ⟨w0.heap.size+3,0,none⟩),.pointer (some ⟨w0.heap.size,0,none⟩)] w fun e w'=>e=.returned (.bool (zkR [c,d] s k))∧ScanSt w0 w' s (if zkR [c,d] s k=true then k+1 else k) neg dv ds ex:=by
 have ha:=h.at_.cell (j:=0) rfl;have hf:=h.at_.free (j:=0) (by simp);by_cases hk:k<s.size
 ·have hg:s.data.toList[k]? =some s[k]:=List.getElem?_eq_getElem (by simpa using hk);by_cases hc:s[k]=c
  ·have hh:zkR [c,d] s k=true:=by simp[zkR,hg,hc]
   rw[hh];refine(zn3 s c d k _ _ w hk hc hs ha h.str hf).mono ?_;rintro e w' ⟨rfl,n,rfl⟩;refine⟨rfl,ScanSt.drewN (h.moved (zgh (World.grownBy.refl _ _) _ _) ?_ ?_) n⟩
   ·rw[World.cell?_setCell_same _ _ _ ha];rfl
   ·rw[World.frozen?_setCell];exact hf
  by_cases hc':s[k]=d
  ·have hh:zkR [c,d] s k=true:=by simp[zkR,hg,hc']
   rw[hh];refine(zn4 s c d k _ _ w hk hc hc' hs ha h.str hf).mono ?_;rintro e w' ⟨rfl,n,rfl⟩;refine⟨rfl,ScanSt.drewN (h.moved (zgh (World.grownBy.refl _ _) _ _) ?_ ?_) n⟩
   ·rw[World.cell?_setCell_same _ _ _ ha];rfl
   ·rw[World.frozen?_setCell];exact hf
  ·have hh:zkR [c,d] s k=false:=by simp[zkR,hg,hc,hc']
   rw[hh];refine(zn1 s c d k _ _ w hk hc hc' ha h.str).mono ?_;rintro e w' ⟨rfl,n,rfl⟩;exact⟨rfl,h.drewN n⟩
 ·have hh:zkR [c,d] s k=false:=by
   unfold zkR;rw[List.getElem?_eq_none (by simp;omega)]
  rw[hh];refine(znZ s c d k _ _ w (by omega) ha h.str).mono ?_;rintro e w' ⟨rfl,n,rfl⟩;exact⟨rfl,h.drewN n⟩
theorem zpJ (w0 w:World) (s:ByteArray) (k:Nat) (neg:Bool) (dv:Value) (ds:List UInt8) (ex:Int) (h:ScanSt w0 w s k neg dv ds ex) (hs:s.size≤1000) (hk:k≤s.size):
 Calls Tryz.prog 324 #[.pointer (some ⟨w0.heap.size+3,0,none⟩),.pointer (some ⟨w0.heap.size,0,none⟩)] w fun e w'=>e=.returned (.string (s.extract k (k+zd5 s k)))∧ScanSt w0 w' s (k+zd5 s k) neg dv ds ex:=by
 refine(znU s k _ _ w hk hs (h.at_.cell (j:=0) rfl) h.str (h.at_.free (j:=0) (by simp)) (by omega)).mono ?_;rintro e w' ⟨rfl,hg,hc,hf⟩;exact⟨rfl,h.moved hg hc hf⟩
theorem ScanSt.setNum {w0 w:World} {s:ByteArray} {k:Nat} {neg neg':Bool} {dv dv':Value} {ds:List UInt8} {ex ex':Int} (h:ScanSt w0 w s k neg dv ds ex) (j:Nat) (u:Value)
 (hu: [Value.bool neg,dv,.int .i64 ex].set j u=[Value.bool neg',dv',.int .i64 ex']) (hj:j<3) (hd:dv=dv'):
 ScanSt w0 (w.setCell ⟨w0.heap.size+2,j,none⟩ u) s k neg' dv' ds ex':=by
 subst hd;have hsz:=h.size;have hg:w.grownBy (w.setCell ⟨w0.heap.size+2,j,none⟩ u) (some (w0.heap.size+2)):=zgh (World.grownBy.refl _ _) _ _;refine⟨h.below.setCell (by simp) _,by simpa[World.setCell] using h.size,?_,h.res.grown hg (by omega) (by simp),?_,h.at_.grown hg (by omega) (by simp),h.own.kept hg ?_⟩
 ·exact(World.cell?_of_block (w:=w) (hg.block w0.heap.size (by omega) (by simp))).trans h.str
 ·have:=h.num.set (j:=j) (by simpa using hj) u;rwa [hu]at this
 ·right
  intro e;have:=h.own.lt _ e;omega
theorem ScanSt.app {w0 w w':World} {s:ByteArray} {k:Nat} {neg:Bool} {dv v':Value} {ds x:List UInt8} {ex:Int} (h:ScanSt w0 w s k neg dv ds ex)
 (hg:w.grownBy w' dv.ownBlock) {n:Nat} {xs:List Value} (ho:w'.ownsRow (w0.heap.size+4) 5 1 v' n xs) (hn:n=(ds++x).length) (hx:xs=bys (ds++x)):
 zan w' (w0.heap.size+2) [.bool neg,dv,.int .i64 ex]∧ScanSt w0 (w'.setCell ⟨w0.heap.size+2,1,none⟩ v') s k neg v' (ds++x) ex:=by
 subst hn hx;have hsz:=h.size;have hlt:=h.own.lt
 have hne:∀b,b<w0.heap.size+4→some b≠dv.ownBlock:=fun b hb e=>by
  have:=hlt b e.symm;omega
 have hnum:=h.num.grown hg (by omega) (hne _ (by omega));have hg2:w'.grownBy (w'.setCell ⟨w0.heap.size+2,1,none⟩ v') (some (w0.heap.size+2)):=zgh (World.grownBy.refl _ _) _ _;have hsz':=hg.size;refine⟨hnum,(h.below.grown hg (by omega) (fun k hk=>by have:=hlt k hk;omega)).setCell (by simp) _,by simp[World.setCell];omega,?_,?_,?_,?_,ho.kept hg2 ?_⟩
 ·exact(World.cell?_of_block (w:=w') (hg2.block w0.heap.size (by omega) (by simp))).trans ((World.cell?_of_block (w:=w) (hg.block w0.heap.size (by omega) (hne _ (by omega)))).trans h.str)
 ·exact(h.res.grown hg (by omega) (hne _ (by omega))).grown hg2 (by omega) (by simp)
 ·exact hnum.set (j:=1) (by simp) v'
 ·exact(h.at_.grown hg (by omega) (hne _ (by omega))).grown hg2 (by omega) (by simp)
 ·right
  intro e;have:=ho.lt _ e;omega
theorem ScanSt.alloc {w0 w:World} {s:ByteArray} {k:Nat} {neg:Bool} {dv:Value} {ds:List UInt8} {ex:Int} (h:ScanSt w0 w s k neg dv ds ex) (o:Obj):ScanSt w0 (w.alloc o) s k neg dv ds ex:=by
 have hsz:=h.size;exact⟨h.below.alloc (by omega) _,by simp;omega,zbT h.str _,h.res.alloc (by omega) _,h.num.alloc (by omega) _,h.at_.alloc (by omega) _,h.own.alloc _⟩
theorem ScanSt.slr {w0 w:World} {s:ByteArray} {k:Nat} {neg:Bool} {dv:Value} {ds:List UInt8} {ex:Int} (h:ScanSt w0 w s k neg dv ds ex):SlR w dv ds.length (bys ds):=SlR.of_own h.own
theorem zro:(Tryz.prog.info? 5).map (fun i=>(i.zero,i.size,i.bytes))=some (some (.int .u8 0),1,1):=by kernel_rfl
theorem ScanSt.below_res {w0 w:World} {s:ByteArray} {k:Nat} {neg:Bool} {dv:Value} {ds:List UInt8} {ex:Int} (h:ScanSt w0 w s k neg dv ds ex) (a b c:Value):
 Below w0.heap.size w0 (((w.setCell ⟨w0.heap.size+1,0,none⟩ a).setCell ⟨w0.heap.size+1,1,none⟩ b).setCell ⟨w0.heap.size+1,2,none⟩ c):=
 ((h.below.setCell (by simp) _).setCell (by simp) _).setCell (by simp) _
theorem ScanSt.slr_res {w0 w:World} {s:ByteArray} {k:Nat} {neg:Bool} {dv:Value} {ds:List UInt8} {ex:Int} (h:ScanSt w0 w s k neg dv ds ex) (a b c:Value):
 SlR (((w.setCell ⟨w0.heap.size+1,0,none⟩ a).setCell ⟨w0.heap.size+1,1,none⟩ b).setCell ⟨w0.heap.size+1,2,none⟩ c) dv ds.length (bys ds):=by
 have hne:dv.ownBlock≠some (w0.heap.size+1):=fun e=>by
  have:=h.own.lt _ e;omega
 exact SlR.of_own (ownsRow_setCell_other (ownsRow_setCell_other (ownsRow_setCell_other h.own hne _) hne _) hne _)
theorem zbD (ds:List UInt8) (s:ByteArray):bys ds++Lib.strCells s=bys (ds++s.data.toList):=by
 unfold bys;rw[List.map_append];rfl
end Go.Proofs.YtfppgpamkdkckaaGreatDoor
