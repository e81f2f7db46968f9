import Derived.Test.YtfppgpamkdkckaaGreatDoorZ00
import Derived.Test.YtfppgpamkdkckaaGreatDoorZ25
import Derived.Test.YtfppgpamkdkckaaGreatDoorZ26
import Derived.Test.YtfppgpamkdkckaaGreatDoorZ27
set_option maxRecDepth 100000
set_option maxHeartbeats 16000000
namespace Go.Proofs.YtfppgpamkdkckaaGreatDoor
open Go.RowKit
set_option linter.unusedSimpArgs false
theorem row_in {w X:World} {C:Array Value} {T:TypeId} {b n:Nat} {xs:List Value} (hb:Below (w.alloc (.cells C T)).heap.size (w.alloc (.cells C T)) X) (e:b=w.heap.size) (hx:xs=C.toList) (hn:n≤maxLen):SlR X (.slice (some ⟨b,0,none⟩) n n) n xs:=by
 subst e hx;have h:=(zan.fresh w C T).below hb (by simp);exact⟨_,n,rfl,Nat.le_refl _,hn,fun h=>by simp at h,fun _=>⟨w.heap.size,0,rfl,fun j u hj=>by rw[Nat.zero_add];exact h.cell hj⟩⟩
def posP (e:Int) (w:Wd):Pb:=(e,w.2.1,w.2.2.1,w.2.2.2)
inductive PCd (ws:List Wd):Nat→List Pb→Prop
 |nil (b:Nat):PCd ws b []
 |snoc {b k:Nat} {l:List Pb} {w:Wd} {e:Int}:PCd ws b l→b≤k→ws[k]? =some w→e≠0→PCd ws k (l++ [posP e w])
 |up {b c:Nat} {l:List Pb}:PCd ws b l→b≤c→PCd ws c l
def PF' (ws:List Wd) (n:Nat):Nat→List Pb→Prop
 |_,[]=>True
 |a,p::l=>∃(i:Nat) (w:Wd),a≤i∧i≤n∧ws[i]? =some w∧p.1≠0∧p=posP p.1 w∧PF' ws n i l
theorem zlZ {ws:List Wd} {n k:Nat} {w:Wd} {e:Int} (hk:k≤n) (hw:ws[k]? =some w) (he:e≠0):∀(l:List Pb) (a b:Nat),PF' ws b a l→b≤k→a≤b→PF' ws n a (l++ [posP e w])
 | [],a,b,_,hb,hab=>⟨k,w,by omega,hk,hw,he,rfl,trivial⟩
 |p::l,a,b,⟨i,x,h1,h2,h3,h4,h5,h6⟩,hb,hab=>⟨i,x,h1,by omega,h3,h4,h5,zlZ hk hw he l i b h6 hb h2⟩
theorem zl0 {ws:List Wd} {b n:Nat} (h:b≤n):∀{l:List Pb} {a:Nat},PF' ws b a l→PF' ws n a l
 | [],_,_=>trivial
 |p::l,a,⟨i,x,h1,h2,h3,h4,h5,h6⟩=>⟨i,x,h1,by omega,h3,h4,h5,zl0 h h6⟩
theorem PCd.front {ws:List Wd} {n:Nat} {l:List Pb} (h:PCd ws n l):PF' ws n 0 l:=by
 induction h with
 |nil=>trivial
 |snoc hp hb hw he ih=>exact zlZ (Nat.le_refl _) hw he _ 0 _ ih hb (Nat.zero_le _)
 |up hp hb ih=>exact zl0 hb ih
section
variable {s : DS} {w a0 a1 : Wd}
end
open Go.RowKit
set_option linter.unusedSimpArgs false
def zjo (d:Bs) (neg:Bool):Prop:=d.length<1∨9<d.length∨(d.head? =some 48∧(1<d.length∨neg=true))
instance (d:Bs) (neg:Bool):Decidable (zjo d neg):=by unfold zjo;infer_instance
section
variable {ws : List Bs} {n r : Bs}
end
open Go.RowKit
set_option linter.unusedSimpArgs false
theorem drop_byte {s:ByteArray} {k:Nat} (h:k<s.size):s.data.toList.drop k=s[k]'h::s.data.toList.drop (k+1):=by
 rw[List.drop_eq_getElem_cons (by simpa using h)];rfl
def zap (k:Nat) (c:Int):Prop:=(k=0∧c=1)∨(k=1∧c=94)∨(k=2∧c=8836)∨(k=3∧c=830584)
theorem zl4 {k:Nat} {c:Int} (h:zap k c):k≤3∧1≤c∧c≤830584:=by
 rcases h with⟨rfl,rfl⟩|⟨rfl,rfl⟩|⟨rfl,rfl⟩|⟨rfl,rfl⟩<;>omega
theorem zl6 {k:Nat} {c:Int} (h:zap k c) (hk:k<3):zap (k+1) (c*94):=by
 unfold zap;rcases h with⟨rfl,rfl⟩|⟨rfl,rfl⟩|⟨rfl,rfl⟩|⟨rfl,rfl⟩<;>omega
theorem zj7 {c:UInt8} {t:Bs} {n m:Int} {b:Bool} (h:digE c=none):numE (c::t) n m b=none:=by rw[numE,h]
theorem zj9 {c:UInt8} {t:Bs} {n m k:Int} {b:Bool} (h:digE c=some k):numE (c::t) n m b=numE t (n+(if b=true then 0 else m)+k*m) (m*94) false:=by rw[numE,h]
theorem zkk {s:Bs} (h0:¬(s.length<1∨3<s.length)) (h:numE s 0 1 true=none):zkg s=(0,false):=by
 unfold zkg;rw[if_neg h0,h]
theorem zkm {s:Bs} {n:Int} (h0:¬(s.length<1∨3<s.length)) (h:numE s 0 1 true=some n):zkg s=(n,true):=by
 unfold zkg;rw[if_neg h0,h]
theorem ze1 (s:ByteArray) (w:World) (hs:s.size≤140737488351232):Calls Tryz.prog 9 #[.string s] w fun e w'=>e=.returned (.tuple #[.int .i64 (zkg s.data.toList).1,.bool (zkg s.data.toList).2])∧w=w':=by
 have hlen:s.data.toList.length=s.size:=by simp
 by_cases hz:s.size=0
 ·have HE:=lhd (show zkg s.data.toList=(0,false)from if_pos (.inl (by omega)))
  obtain rfl:s=⟨#[]⟩:=by
   apply ByteArray.ext;exact Array.eq_empty_of_size_eq_zero hz
  clear hlen hz;go_enter Tryz.func9,Tryz.ntmps9;go_wp2_with fail;refine bodyPost_ret (v:=.tuple #[.int .i64 0,.bool false]) (by simp[results,Tryz.results9,go_sem]) rfl ?_;rw[HE.out];exact⟨rfl,rfl⟩
 have hne:s.toList.isEmpty=false:=zqQ s (by omega);by_cases h3:3<s.size
 ·have HE:=lhd (show zkg s.data.toList=(0,false)from if_pos (.inr (by omega)));have hd:decide ((3:Int)<(s.size:Int))=true:=by rw[decide_eq_true_iff];omega
  clear h3 hz hlen;go_enter Tryz.func9,Tryz.ntmps9;go_wp2_with fail;refine bodyPost_ret (v:=.tuple #[.int .i64 0,.bool false]) (by simp[results,Tryz.results9,go_sem]) rfl ?_;rw[HE.out];exact⟨rfl,rfl⟩
 have hd:decide ((3:Int)<(s.size:Int))=false:=by rw[decide_eq_false_iff_not];omega
 have HBAD:=lhd (fun h=>zkk (s:=s.data.toList) (by omega) h);have HGOOD:=lhd (fun n h=>zkm (n:=n) (s:=s.data.toList) (by omega) h);have h4:s.size≤3:=by omega
 clear h3 hz hlen;go_enter Tryz.func9,Tryz.ntmps9;go_wp2_with fail;go_loopw [4,5,17] (fun vn vc vk wr=>∃(k:Nat) (n c:Int),k≤s.size∧vn=.int .i64 n∧vc=.int .i64 c∧vk=.int .i64 k∧zap k c∧0≤n∧n≤100*c∧numE (s.data.toList.drop k) n c (decide (k=0))=numE s.data.toList 0 1 true∧w=wr) (fun _ _ vk _=>s.size-(intOf vk).toNat)
 case atStart=>exact⟨0,0,1,Nat.zero_le _,rfl,rfl,rfl,.inl ⟨rfl,rfl⟩,by omega,by omega,rfl,rfl⟩
 case round=>
  obtain⟨k,n,c,hk,rfl,rfl,rfl,hp,hn0,hn1,hq,rfl⟩:=hrel;have hpb:=zl4 hp;have HP:=lhd hp;have HQ:=lhd hq;clear hp hq;by_cases hlt:k<s.size
  ·have hki:decide ((k:Int)<(s.size:Int))=true:=by rw[decide_eq_true_iff];omega
   have HD:=lhd (drop_byte hlt);obtain⟨b,hb⟩:∃b,b=s[k]'hlt:=⟨_,rfl⟩;have hbl:(s[k]'hlt).toNat<256:=(s[k]'hlt).toNat_lt;have hlt2:(k:Int)<(s.size:Int):=by omega
   have hw1:IntKind.i64.wrap (((s[k]'hlt).toNat:Int)-33)=((s[k]'hlt).toNat:Int)-33:=IntWalk.i64_in _ (by omega);by_cases hlo:(s[k]'hlt).toNat<33
   ·have HE:=lhd (HBAD.out (by rw[←HQ.out,HD.out];exact zj7 (if_neg (by omega))));have hd1:decide (((s[k]'hlt).toNat:Int)-33<0)=true:=by rw[decide_eq_true_iff];omega
    clear hlo;go_wp2_with fail;refine bodyPost_ret (v:=.tuple #[.int .i64 0,.bool false]) (by simp[results,Tryz.results9,go_sem]) rfl ?_;rw[HE.out];exact⟨rfl,rfl⟩
   have hd1:decide (((s[k]'hlt).toNat:Int)-33<0)=false:=by rw[decide_eq_false_iff_not];omega
   by_cases hhi:126<(s[k]'hlt).toNat
   ·have HE:=lhd (HBAD.out (by rw[←HQ.out,HD.out];exact zj7 (if_neg (by omega))));have hd2:decide ((94:Int)≤((s[k]'hlt).toNat:Int)-33)=true:=by rw[decide_eq_true_iff];omega
    clear hlo hhi;go_wp2_with fail;refine bodyPost_ret (v:=.tuple #[.int .i64 0,.bool false]) (by simp[results,Tryz.results9,go_sem]) rfl ?_;rw[HE.out];exact⟨rfl,rfl⟩
   have hd2:decide ((94:Int)≤((s[k]'hlt).toNat:Int)-33)=false:=by rw[decide_eq_false_iff_not];omega
   have HN:=lhd (show numE s.data.toList 0 1 true=numE (s.data.toList.drop (k+1)) (n+(if decide (k=0)=true then 0 else c)+(((s[k]'hlt).toNat:Int)-33)*c) (c*94) false from HQ.out.symm.trans (by rw[HD.out];exact zj9 (if_pos ⟨by omega,by omega⟩)));have hx0:0≤(((s[k]'hlt).toNat:Int)-33):=by omega
   have hx1:(((s[k]'hlt).toNat:Int)-33)≤93:=by omega
   have HNP:=lhd (zl6 HP.out (by omega));have hwc:IntKind.i64.wrap (c*94)=c*94:=IntWalk.i64_in _ (by omega);have hwk:=zjk k (by omega);have hxc:0≤(((s[k]'hlt).toNat:Int)-33)*c∧(((s[k]'hlt).toNat:Int)-33)*c≤93*c:=⟨Int.mul_nonneg hx0 (by omega),Int.mul_le_mul_of_nonneg_right hx1 (by omega)⟩;have hwx:IntKind.i64.wrap ((((s[k]'hlt).toNat:Int)-33)*c)=(((s[k]'hlt).toNat:Int)-33)*c:=IntWalk.i64_in _ (by have h8:=hxc;have h9:=hpb;generalize (((s[k]'hlt).toNat:Int)-33)*c=y at h8⊢;omega);clear hlo hhi hb HD HQ;by_cases hk0:k=0
   ·have hd3:decide ((0:Int)<(k:Int))=false:=by rw[decide_eq_false_iff_not];omega
    have hd4:¬0<k:=by omega
    have HN2:=lhd (show numE (s.data.toList.drop (k+1)) (n+(((s[k]'hlt).toNat:Int)-33)*c) (c*94) (decide (k+1=0))=numE s.data.toList 0 1 true by
     have:=HN.out;rw[if_pos (decide_eq_true hk0),Int.add_zero]at this;exact this.symm)
    have hwn:IntKind.i64.wrap (n+(((s[k]'hlt).toNat:Int)-33)*c)=n+(((s[k]'hlt).toNat:Int)-33)*c:=IntWalk.i64_in _ (by have h8:=hxc;have h9:=hpb;generalize (((s[k]'hlt).toNat:Int)-33)*c=y at h8⊢;omega);clear hk0;go_wp2_with fail;go_roundw;case rel=>exact⟨k+1,n+(((s[k]'hlt).toNat:Int)-33)*c,c*94,hlt,by go_num,by go_num,by go_num,HNP.out,by have h8:=hxc;have h9:=hpb;generalize (((s[k]'hlt).toNat:Int)-33)*c=y at h8⊢;omega,by have h8:=hxc;have h9:=hpb;generalize (((s[k]'hlt).toNat:Int)-33)*c=y at h8⊢;omega,HN2.out,by first|trivial|rfl⟩
    case measure=>simp[intOf];omega
   ·have hd3:decide ((0:Int)<(k:Int))=true:=by rw[decide_eq_true_iff];omega
    have hd4:0<k:=by omega
    have HN2:=lhd (show numE (s.data.toList.drop (k+1)) (n+c+(((s[k]'hlt).toNat:Int)-33)*c) (c*94) (decide (k+1=0))=numE s.data.toList 0 1 true by
     have:=HN.out;rw[if_neg (by rw[decide_eq_true_iff];exact hk0)]at this;exact this.symm)
    have hwn0:IntKind.i64.wrap (n+c)=n+c:=IntWalk.i64_in _ (by omega);have hwn:IntKind.i64.wrap (n+c+(((s[k]'hlt).toNat:Int)-33)*c)=n+c+(((s[k]'hlt).toNat:Int)-33)*c:=IntWalk.i64_in _ (by have h8:=hxc;have h9:=hpb;generalize (((s[k]'hlt).toNat:Int)-33)*c=y at h8⊢;omega);clear hk0;go_wp2_with fail;go_roundw;case rel=>exact⟨k+1,n+c+(((s[k]'hlt).toNat:Int)-33)*c,c*94,hlt,by go_num,by go_num,by go_num,HNP.out,by have h8:=hxc;have h9:=hpb;generalize (((s[k]'hlt).toNat:Int)-33)*c=y at h8⊢;omega,by have h8:=hxc;have h9:=hpb;generalize (((s[k]'hlt).toNat:Int)-33)*c=y at h8⊢;omega,HN2.out,by first|trivial|rfl⟩
    case measure=>simp[intOf];omega
  ·obtain rfl:k=s.size:=by omega
   have HE:=lhd (HGOOD.out n (by rw[←HQ.out,List.drop_of_length_le (by simp)];rfl));have hki:decide ((s.size:Int)<(s.size:Int))=false:=by rw[decide_eq_false_iff_not];omega
   go_wp2_with fail;refine bodyPost_ret (v:=.tuple #[.int .i64 n,.bool true]) (by simp[results,Tryz.results9,go_sem]) rfl ?_;rw[HE.out];exact⟨rfl,rfl⟩
open Go.Joins Go.ChangeShapes Go.WideShapes Go.RowKit Go.Deep
abbrev wfI (x:Int):Prop:=(Lit.int .i64 x).wf=true
section
variable {H : Type} {enc : TypeId × Value → H} {w : World} {base : Nat} {spare : Nat → Bool} {held : Bool} {n : Nat} {v : Value} {z : DataW H × List MemPlace}
theorem zin (h:DataW.trod enc Tryz.prog w base spare held n 3 [v]=some z):∃x:Int,v=.int .i64 x∧wfI x:=by
 obtain⟨x,e,-,hw⟩:=DataW.trod_int Tryz.underlying3 h;injection e with e;exact⟨x,e,hw⟩
end
theorem three {cs:List Value} (h:cs.length=3):∃a b c,cs=[a,b,c]:=by
 match cs,h with
 | [a,b,c],_=>exact⟨a,b,c,rfl⟩
theorem two {cs:List Value} (h:cs.length=2):∃a b,cs=[a,b]:=by
 match cs,h with
 | [a,b],_=>exact⟨a,b,rfl⟩
theorem seven {cs:List Value} (h:cs.length=7):∃a b c d e f g,cs=[a,b,c,d,e,f,g]:=by
 match cs,h with
 | [a,b,c,d,e,f,g],_=>exact⟨a,b,c,d,e,f,g,rfl⟩
theorem nine {cs:List Value} (h:cs.length=9):∃a b c d e f g i j,cs=[a,b,c,d,e,f,g,i,j]:=by
 match cs,h with
 | [a,b,c,d,e,f,g,i,j],_=>exact⟨a,b,c,d,e,f,g,i,j,rfl⟩
section
variable {H : Type} {enc : TypeId × Value → H} {w : World} {base : Nat} {spare : Nat → Bool} {held : Bool} {fuel : Nat} {cs : List Value} {x : DataW H × List MemPlace}
theorem zk2 (h:DataW.trod enc Tryz.prog w base spare held fuel 27 cs=some x) (hz:∀m∈x.1.weights Tryz.prog 27,m≤reachBytes):
 ∃(v:Value) (l:List Sc),cs=[v]∧SlR w v l.length (scs l)∧∀r∈l,r.1.length≤140737488351232∧wfI r.2.1∧wfI r.2.2:=
 zk0 (encT:=scC) (k:=3) (fun _=>rfl) (by decide) (Q:=fun r:Sc=>r.1.length≤140737488351232∧wfI r.2.1∧wfI r.2.2) Tryz.underlying27 (by kernel_rfl) (fun n cs' y hl ht hy=>by
  obtain⟨a,b,c,rfl⟩:=three hl;obtain⟨n0,z0,h0,w0⟩:=fld Tryz.underlying66 ht hy 0 rfl (show Tryz.prog.cellsOf 9=1 by kernel_rfl) rfl;obtain⟨n1,z1,h1,-⟩:=fld Tryz.underlying66 ht hy 1 rfl (show Tryz.prog.cellsOf 3=1 by kernel_rfl) rfl;obtain⟨n2,z2,h2,-⟩:=fld Tryz.underlying66 ht hy 2 rfl (show Tryz.prog.cellsOf 3=1 by kernel_rfl) rfl;obtain⟨x0,rfl,q0⟩:=zio h0 w0;obtain⟨x1,rfl,q1⟩:=zin h1;obtain⟨x2,rfl,q2⟩:=zin h2;exact⟨(x0,x1,x2),rfl,q0,q1,q2⟩) h hz
theorem zk5 (h:DataW.trod enc Tryz.prog w base spare held fuel 28 cs=some x) (hz:∀m∈x.1.weights Tryz.prog 28,m≤reachBytes):
 ∃(v:Value) (l:List Vr),cs=[v]∧SlR w v l.length (vrs l)∧∀r∈l,r.nm.length≤140737488351232∧wfI r.ty∧wfI r.sc∧wfI r.sg∧wfI r.mb∧wfI r.lb:=
 zk0 (encT:=vrC) (k:=7) (fun _=>rfl) (by decide) (Q:=fun r:Vr=>r.nm.length≤140737488351232∧wfI r.ty∧wfI r.sc∧wfI r.sg∧wfI r.mb∧wfI r.lb) Tryz.underlying28 (by kernel_rfl) (fun n cs' y hl ht hy=>by
  obtain⟨a,b,c,d,e,f,g,rfl⟩:=seven hl;obtain⟨n0,z0,h0,w0⟩:=fld Tryz.underlying55 ht hy 0 rfl (show Tryz.prog.cellsOf 9=1 by kernel_rfl) rfl;obtain⟨n1,z1,h1,-⟩:=fld Tryz.underlying55 ht hy 1 rfl (show Tryz.prog.cellsOf 3=1 by kernel_rfl) rfl;obtain⟨n2,z2,h2,-⟩:=fld Tryz.underlying55 ht hy 2 rfl (show Tryz.prog.cellsOf 3=1 by kernel_rfl) rfl;obtain⟨n3,z3,h3,-⟩:=fld Tryz.underlying55 ht hy 3 rfl (show Tryz.prog.cellsOf 3=1 by kernel_rfl) rfl;obtain⟨n4,z4,h4,-⟩:=fld Tryz.underlying55 ht hy 4 rfl (show Tryz.prog.cellsOf 4=1 by kernel_rfl) rfl;obtain⟨n5,z5,h5,-⟩:=fld Tryz.underlying55 ht hy 5 rfl (show Tryz.prog.cellsOf 3=1 by kernel_rfl) rfl;obtain⟨n6,z6,h6,-⟩:=fld Tryz.underlying55 ht hy 6 rfl (show Tryz.prog.cellsOf 3=1 by kernel_rfl) rfl;obtain⟨x0,rfl,q0⟩:=zio h0 w0;obtain⟨x1,rfl,q1⟩:=zin h1;obtain⟨x2,rfl,q2⟩:=zin h2;obtain⟨x3,rfl,q3⟩:=zin h3;obtain⟨x4,rfl⟩:=zim h4;obtain⟨x5,rfl,q5⟩:=zin h5;obtain⟨x6,rfl,q6⟩:=zin h6;exact⟨⟨x0,x1,x2,x3,x4,x5,x6⟩,rfl,q0,q1,q2,q3,q5,q6⟩) h hz
theorem zk1 (h:DataW.trod enc Tryz.prog w base spare held fuel 30 cs=some x) (hz:∀m∈x.1.weights Tryz.prog 30,m≤reachBytes):
 ∃(v:Value) (l:List Gp),cs=[v]∧SlR w v l.length (gps l)∧∀r∈l,wfI r.1∧wfI r.2:=
 zk0 (encT:=gpC) (k:=2) (fun _=>rfl) (by decide) (Q:=fun r:Gp=>wfI r.1∧wfI r.2) Tryz.underlying30 (by kernel_rfl) (fun n cs' y hl ht hy=>by
  obtain⟨a,b,rfl⟩:=two hl;obtain⟨n0,z0,h0,-⟩:=fld Tryz.underlying94 ht hy 0 rfl (show Tryz.prog.cellsOf 3=1 by kernel_rfl) rfl;obtain⟨n1,z1,h1,-⟩:=fld Tryz.underlying94 ht hy 1 rfl (show Tryz.prog.cellsOf 3=1 by kernel_rfl) rfl;obtain⟨x0,rfl,q0⟩:=zin h0;obtain⟨x1,rfl,q1⟩:=zin h1;exact⟨(x0,x1),rfl,q0,q1⟩) h hz
theorem zkZ (h:DataW.trod enc Tryz.prog w base spare held fuel 58 cs=some x) (hz:∀m∈x.1.weights Tryz.prog 58,m≤reachBytes):
 ∃(v:Value) (l:List Ch),cs=[v]∧SlR w v l.length (chs l)∧∀r∈l,wfI r.1∧r.2.size≤140737488351232:=
 zk0 (encT:=encC) (k:=2) (fun _=>rfl) (by decide) (Q:=fun r:Ch=>wfI r.1∧r.2.size≤140737488351232) Tryz.underlying58 (by kernel_rfl) (fun n cs' y hl ht hy=>by
  obtain⟨a,b,rfl⟩:=two hl;obtain⟨n0,z0,h0,-⟩:=fld Tryz.underlying57 ht hy 0 rfl (show Tryz.prog.cellsOf 3=1 by kernel_rfl) rfl;obtain⟨n1,z1,h1,w1⟩:=fld Tryz.underlying57 ht hy 1 rfl (show Tryz.prog.cellsOf 9=1 by kernel_rfl) rfl;obtain⟨x0,rfl,q0⟩:=zin h0;obtain⟨x1,rfl,q1⟩:=zio h1 w1;exact⟨(x0,bsB x1),rfl,q0,q1⟩) h hz
theorem zk3 (h:DataW.trod enc Tryz.prog w base spare held fuel 29 cs=some x) (hz:∀m∈x.1.weights Tryz.prog 29,m≤reachBytes):
 ∃(v:Value) (L:List (Sg×Value)),cs=[v]∧Sigs w v L∧∀r∈L,wfI r.1.1∧wfI r.1.2.1∧∀c∈r.1.2.2,wfI c.1∧c.2.size≤140737488351232:=by
 obtain⟨v,L,rfl,hs,hq⟩:=zk0 (w:=w) (encT:=sgC) (k:=3) (fun _=>rfl) (by decide) (Q:=fun r:Sg×Value=>SlR w r.2 r.1.2.2.length (chs r.1.2.2)∧wfI r.1.1∧wfI r.1.2.1∧∀c∈r.1.2.2,wfI c.1∧c.2.size≤140737488351232) Tryz.underlying29 (by kernel_rfl) (fun n cs' y hl ht hy=>by
  obtain⟨a,b,c,rfl⟩:=three hl;obtain⟨n0,z0,h0,-⟩:=fld Tryz.underlying60 ht hy 0 rfl (show Tryz.prog.cellsOf 3=1 by kernel_rfl) rfl;obtain⟨n1,z1,h1,-⟩:=fld Tryz.underlying60 ht hy 1 rfl (show Tryz.prog.cellsOf 3=1 by kernel_rfl) rfl;obtain⟨n2,z2,h2,w2⟩:=fld Tryz.underlying60 ht hy 2 rfl (show Tryz.prog.cellsOf 58=1 by kernel_rfl) rfl;obtain⟨x0,rfl,q0⟩:=zin h0;obtain⟨x1,rfl,q1⟩:=zin h1;obtain⟨u,l,e2,hsl,q2⟩:=zkZ h2 w2;injection e2 with e2 _;subst e2;exact⟨((x0,x1,l),_),rfl,hsl,q0,q1,q2⟩) h hz
 exact⟨v,L,rfl,⟨hs,fun x hx=>(hq x hx).1⟩,fun r hr=>(hq r hr).2⟩
structure InT (t:Tr):Prop where
 tx:t.dt.length≤140737488351232∧t.vn.length≤140737488351232∧t.cm.length≤140737488351232
 i:wfI t.sc∧wfI t.en
 s:∀r∈t.S,r.1.length≤140737488351232∧wfI r.2.1∧wfI r.2.2
 v:∀r∈t.V,r.nm.length≤140737488351232∧wfI r.ty∧wfI r.sc∧wfI r.sg∧wfI r.mb∧wfI r.lb
 g:∀r∈t.G,wfI r.1∧wfI r.2.1∧∀c∈r.2.2,wfI c.1∧c.2.size≤140737488351232
 p:∀r∈t.P,wfI r.1∧wfI r.2
theorem zk4 (h:DataW.trod enc Tryz.prog w base spare held fuel 32 cs=some x) (hz:∀m∈x.1.weights Tryz.prog 32,m≤reachBytes) (hl:cs.length=9):
 ∃(t:Tr) (p:TP),cs=[.int .i64 t.sc,.string (bsB t.dt),.string (bsB t.vn),.string (bsB t.cm),p.vs,p.vv,p.vg,p.vp,.int .i64 t.en]∧TrM w t p∧InT t:=by
 obtain⟨a,b,c,d,e,f,g,i,j,rfl⟩:=nine hl;obtain⟨n0,z0,h0,w0⟩:=fld Tryz.underlying32 h hz 0 rfl (show Tryz.prog.cellsOf 3=1 by kernel_rfl) rfl;obtain⟨n1,z1,h1,w1⟩:=fld Tryz.underlying32 h hz 1 rfl (show Tryz.prog.cellsOf 9=1 by kernel_rfl) rfl;obtain⟨n2,z2,h2,w2⟩:=fld Tryz.underlying32 h hz 2 rfl (show Tryz.prog.cellsOf 9=1 by kernel_rfl) rfl;obtain⟨n3,z3,h3,w3⟩:=fld Tryz.underlying32 h hz 3 rfl (show Tryz.prog.cellsOf 9=1 by kernel_rfl) rfl;obtain⟨n4,z4,h4,w4⟩:=fld Tryz.underlying32 h hz 4 rfl (show Tryz.prog.cellsOf 27=1 by kernel_rfl) rfl;obtain⟨n5,z5,h5,w5⟩:=fld Tryz.underlying32 h hz 5 rfl (show Tryz.prog.cellsOf 28=1 by kernel_rfl) rfl;obtain⟨n6,z6,h6,w6⟩:=fld Tryz.underlying32 h hz 6 rfl (show Tryz.prog.cellsOf 29=1 by kernel_rfl) rfl;obtain⟨n7,z7,h7,w7⟩:=fld Tryz.underlying32 h hz 7 rfl (show Tryz.prog.cellsOf 30=1 by kernel_rfl) rfl;obtain⟨n8,z8,h8,-⟩:=fld Tryz.underlying32 h hz 8 rfl (show Tryz.prog.cellsOf 3=1 by kernel_rfl) rfl;obtain⟨x0,rfl,q0⟩:=zin h0;obtain⟨x1,rfl,q1⟩:=zio h1 w1;obtain⟨x2,rfl,q2⟩:=zio h2 w2;obtain⟨x3,rfl,q3⟩:=zio h3 w3;obtain⟨v4,l4,e4,s4,q4⟩:=zk2 h4 w4;injection e4 with e4 _;obtain⟨v5,l5,e5,s5,q5⟩:=zk5 h5 w5;injection e5 with e5 _;obtain⟨v6,l6,e6,s6,q6⟩:=zk3 h6 w6;injection e6 with e6 _;obtain⟨v7,l7,e7,s7,q7⟩:=zk1 h7 w7;injection e7 with e7 _;obtain⟨x8,rfl,q8⟩:=zin h8;subst e4 e5 e6 e7
 exact⟨⟨x0,x1,x2,x3,l4,l5,l6.map Prod.fst,l7,x8⟩,⟨_,_,_,_,l6⟩,rfl,⟨s4,s5,s6,s7,rfl⟩,⟨q1,q2,q3⟩,⟨q0,q8⟩,q4,q5,fun r hr=>by
  obtain⟨y,hy,rfl⟩:=List.mem_map.1 hr;exact q6 y hy,q7⟩
theorem zaT {base':Nat} {v:Value} {d:DataW H} {ps:List MemPlace} (hk:Value.okWide Tryz.prog w .any base' 32 v) (h:DataW.Trod enc Tryz.prog w base spare held 32 v d ps) (hz:∀m∈d.weights Tryz.prog 32,m≤reachBytes):
 ∃(t:Tr) (p:TP),v=p.v t∧TrM w t p∧InT t:=by
 obtain⟨cs,rfl,hsz⟩:=okWide_struct Tryz.underlying32 hk;obtain⟨fuel,hf⟩:=h;have hcl:(Value.agg cs).cells=cs:=by simp[Value.cells]
 rw[hcl]at hf
 have hn:cs.toList.length=9:=by
  rw[Array.length_toList,hsz];kernel_rfl
 obtain⟨t,p,e,ht,hi⟩:=zk4 hf hz hn;refine⟨t,p,?_,ht,hi⟩;unfold TP.v;exact congrArg Value.agg (Array.toList_inj.1 e)
end
end Go.Proofs.YtfppgpamkdkckaaGreatDoor
