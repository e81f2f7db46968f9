import Derived.Test.YtbiadennhnokhaaGreatDoorZ00
import Derived.BigQuiet
import Derived.BigRegion
import Derived.Deep.Cut
import Derived.Deep.CutRange
import Derived.Deep.DeepCutAuto
import Derived.Deep.LoopGhost
import Derived.Deep.QuietTactic
import Derived.Laws.AppendOwnNone
import Derived.Laws.EntriesVeiled
import Derived.Lib.AppendIntMem
import Derived.Lib.AppendStr
import Derived.Lib.AppendZeros
import Derived.Lib.IndexAny
import Derived.Lib.IndexBytes
import Derived.Lib.ItoaLen
import Derived.Lib.Join
import Derived.Lib.LazyBuf
import Derived.Lib.SplitLaws
import Derived.Lib.Strings
import Derived.Maps.AppendAt
import Derived.Maps.OwnIn
import Derived.Test.YtbiadennhnokhaaGreatDoorZ01
import Derived.Test.YtbiadennhnokhaaGreatDoorZ02
import Derived.Test.YtbiadennhnokhaaGreatDoorZ03
set_option maxRecDepth 100000
set_option maxHeartbeats 16000000
namespace Go.Proofs.YtbiadennhnokhaaGreatDoor
open Go.RowKit
set_option linter.unusedSimpArgs false
def vrC (v:Vr):List Value:=[.string (bsB v.nm),.int .i64 v.ty,.int .i64 v.sc,.int .i64 v.sg,.bool v.rg,.int .i64 v.mb,.int .i64 v.lb]
def scC (s:Sc):List Value:=[.string (bsB s.1),.int .i64 s.2.1,.int .i64 s.2.2]
def gpC (g:Int×Int):List Value:=[.int .i64 g.1,.int .i64 g.2]
def vrs (l:List Vr):List Value:=l.flatMap vrC
def scs (l:List Sc):List Value:=l.flatMap scC
def gps (l:List (Int×Int)):List Value:=l.flatMap gpC
abbrev vrV (v:Vr):Value:=.agg #[.string (bsB v.nm),.int .i64 v.ty,.int .i64 v.sc,.int .i64 v.sg,.bool v.rg,.int .i64 v.mb,.int .i64 v.lb]
abbrev scV (s:Sc):Value:=.agg #[.string (bsB s.1),.int .i64 s.2.1,.int .i64 s.2.2]
theorem zqo (l m:List Vr):vrs (l++m)=vrs l++vrs m:=by simp[vrs]
theorem zqr (x:Vr) (l:List Vr):vrs (x::l)=vrC x++vrs l:=rfl
theorem zqs:∀l:List Vr,(vrs l).length=7*l.length
 | []=>rfl
 |x::l=>by rw[zqr,List.length_append,zqs l,List.length_cons];show 7+_=_;omega
theorem zqv:∀(l:List Vr),∀u∈vrs l,u.oneCell'=true
 | [],u,hu=>by simp[vrs]at hu
 |x::l,u,hu=>by
  rw[zqr]at hu;rcases List.mem_append.1 hu with hu|hu
  ·simp only[vrC,List.mem_cons,List.mem_nil_iff,or_false]at hu;rcases hu with rfl|rfl|rfl|rfl|rfl|rfl|rfl<;>rfl
  ·exact zqv l u hu
theorem zqp:∀(l:List Vr) (k:Nat) (h:k<l.length) (j:Nat),j<7→(vrs l)[7*k+j]? =(vrC l[k])[j]?
 |x::l,0,_,j,hj=>by
  rw[zqr,List.getElem?_append_left (by simp[vrC];omega)];simp
 |x::l,k+1,h,j,hj=>by
  have:=zqp l k (by simpa using h) j hj;rw[zqr,List.getElem?_append_right (by simp[vrC];omega)];rw[show 7*(k+1)+j-(vrC x).length=7*k+j by simp[vrC];omega];simpa using this
theorem SlR.vrs {w:World} {a:Option Addr} {cap:Nat} {l:List Vr} (h:SlR w (.slice a l.length cap) l.length (vrs l)) {k:Nat} (hk:k<l.length):
 ∃b o,a=some ⟨b,o,none⟩∧∀(j:Nat) (u:Value),(vrC l[k])[j]? =some u→w.cell? ⟨b,o+k*7+j,none⟩=some u:=by
 obtain⟨b,o,cap',hv,-,-,hcell⟩:=h.at (by omega);injection hv with e1 _ _;refine⟨b,o,e1,fun j u hj=>?_⟩;have hjk:j<7:=by have:=(List.getElem?_eq_some_iff.1 hj).1;simpa[vrC] using this
 have:=hcell _ _ ((zqp l k hk j hjk).trans hj);rwa [Nat.mul_comm 7 k,←Nat.add_assoc]at this
theorem zmv (l m:List Sc):scs (l++m)=scs l++scs m:=by simp[scs]
theorem zmy (x:Sc) (l:List Sc):scs (x::l)=scC x++scs l:=rfl
theorem zmz:∀l:List Sc,(scs l).length=3*l.length
 | []=>rfl
 |x::l=>by rw[zmy,List.length_append,zmz l,List.length_cons];show 3+_=_;omega
theorem zmB:∀(l:List Sc),∀u∈scs l,u.oneCell'=true
 | [],u,hu=>by simp[scs]at hu
 |x::l,u,hu=>by
  rw[zmy]at hu;rcases List.mem_append.1 hu with hu|hu
  ·simp only[scC,List.mem_cons,List.mem_nil_iff,or_false]at hu;rcases hu with rfl|rfl|rfl<;>rfl
  ·exact zmB l u hu
theorem zmw:∀(l:List Sc) (k:Nat) (h:k<l.length) (j:Nat),j<3→(scs l)[3*k+j]? =(scC l[k])[j]?
 |x::l,0,_,j,hj=>by
  rw[zmy,List.getElem?_append_left (by simp[scC];omega)];simp
 |x::l,k+1,h,j,hj=>by
  have:=zmw l k (by simpa using h) j hj;rw[zmy,List.getElem?_append_right (by simp[scC];omega)];rw[show 3*(k+1)+j-(scC x).length=3*k+j by simp[scC];omega];simpa using this
theorem SlR.scs {w:World} {a:Option Addr} {cap:Nat} {l:List Sc} (h:SlR w (.slice a l.length cap) l.length (scs l)) {k:Nat} (hk:k<l.length):
 ∃b o,a=some ⟨b,o,none⟩∧∀(j:Nat) (u:Value),(scC l[k])[j]? =some u→w.cell? ⟨b,o+k*3+j,none⟩=some u:=by
 obtain⟨b,o,cap',hv,-,-,hcell⟩:=h.at (by omega);injection hv with e1 _ _;refine⟨b,o,e1,fun j u hj=>?_⟩;have hjk:j<3:=by have:=(List.getElem?_eq_some_iff.1 hj).1;simpa[scC] using this
 have:=hcell _ _ ((zmw l k hk j hjk).trans hj);rwa [Nat.mul_comm 3 k,←Nat.add_assoc]at this
theorem ze9 (l m:List (Int×Int)):gps (l++m)=gps l++gps m:=by simp[gps]
theorem zfb (x:(Int×Int)) (l:List (Int×Int)):gps (x::l)=gpC x++gps l:=rfl
theorem zfe:∀l:List (Int×Int),(gps l).length=2*l.length
 | []=>rfl
 |x::l=>by rw[zfb,List.length_append,zfe l,List.length_cons];show 2+_=_;omega
theorem zfg:∀(l:List (Int×Int)),∀u∈gps l,u.oneCell'=true
 | [],u,hu=>by simp[gps]at hu
 |x::l,u,hu=>by
  rw[zfb]at hu;rcases List.mem_append.1 hu with hu|hu
  ·simp only[gpC,List.mem_cons,List.mem_nil_iff,or_false]at hu;rcases hu with rfl|rfl<;>rfl
  ·exact zfg l u hu
theorem zfa:∀(l:List (Int×Int)) (k:Nat) (h:k<l.length) (j:Nat),j<2→(gps l)[2*k+j]? =(gpC l[k])[j]?
 |x::l,0,_,j,hj=>by
  rw[zfb,List.getElem?_append_left (by simp[gpC];omega)];simp
 |x::l,k+1,h,j,hj=>by
  have:=zfa l k (by simpa using h) j hj;rw[zfb,List.getElem?_append_right (by simp[gpC];omega)];rw[show 2*(k+1)+j-(gpC x).length=2*k+j by simp[gpC];omega];simpa using this
theorem SlR.gps {w:World} {a:Option Addr} {cap:Nat} {l:List (Int×Int)} (h:SlR w (.slice a l.length cap) l.length (gps l)) {k:Nat} (hk:k<l.length):
 ∃b o,a=some ⟨b,o,none⟩∧∀(j:Nat) (u:Value),(gpC l[k])[j]? =some u→w.cell? ⟨b,o+k*2+j,none⟩=some u:=by
 obtain⟨b,o,cap',hv,-,-,hcell⟩:=h.at (by omega);injection hv with e1 _ _;refine⟨b,o,e1,fun j u hj=>?_⟩;have hjk:j<2:=by have:=(List.getElem?_eq_some_iff.1 hj).1;simpa[gpC] using this
 have:=hcell _ _ ((zfa l k hk j hjk).trans hj);rwa [Nat.mul_comm 2 k,←Nat.add_assoc]at this
theorem zqj:(Tryz.prog.info? 42).map (fun i=>(i.zero,i.size,i.bytes))=some (some (.agg #[.string ⟨#[]⟩,.int .i64 0,.int .i64 0,.int .i64 0,.bool false,.int .i64 0,.int .i64 0]),7,64):=by kernel_rfl
theorem zmj:(Tryz.prog.info? 55).map (fun i=>(i.zero,i.size,i.bytes))=some (some (.agg #[.string ⟨#[]⟩,.int .i64 0,.int .i64 0]),3,32):=by kernel_rfl
theorem ze8:(Tryz.prog.info? 57).map (fun i=>(i.zero,i.size,i.bytes))=some (some (.agg #[.int .i64 0,.int .i64 0]),2,16):=by kernel_rfl
theorem zjE {w:World} {B e size n:Nat} {g c:Nat} {xs:List Value} (h:w.ownsRow B e size (.slice (some ⟨g,0,none⟩) n c) n xs):zal w g xs:=by
 rcases h.2 with⟨h0,-⟩|⟨g',cap',cur,h0,hbase,hb,hn,hm,hsz,htk⟩
 ·cases h0
 injection h0 with e1 _ e3;injection e1 with e1;injection e1 with e1 _ _;subst e1 e3;intro j u hj
 have hj':cur.toList[j]? =some u:=by
  rw[←htk,List.getElem?_take]at hj;split at hj
  ·exact hj
  ·cases hj
 rw[Array.getElem?_toList]at hj';exact⟨by simp[World.cell?,hb,hj'],by simp[World.frozen?,hb]⟩
theorem zjG {w:World} {B e size n g c:Nat} {xs:List Value} (h:w.ownsRow B e size (.slice (some ⟨g,0,none⟩) n c) n xs) (j:Nat) (u:Value):
 (w.setCell ⟨g,j,none⟩ u).ownsRow B e size (.slice (some ⟨g,0,none⟩) n c) n (xs.set j u):=(h.stored j u).1
abbrev SO (base g n c:Nat) (w:World) (l:List Vr):Prop:=w.ownsRow base 42 7 (.slice (some ⟨g,0,none⟩) n c) n (vrs l)
theorem zqx {X Z:List Vr} (y x:Vr):((((((((vrs (X++y::Z)).set (X.length*7) (.string (bsB x.nm))).set (X.length*7+1) (.int .i64 x.ty)).set (X.length*7+2) (.int .i64 x.sc)).set (X.length*7+3) (.int .i64 x.sg)).set (X.length*7+4) (.bool x.rg)).set (X.length*7+5) (.int .i64 x.mb)).set (X.length*7+6) (.int .i64 x.lb))=vrs (X++x::Z):=by
 have hl:(vrs X).length=X.length*7:=by rw[zqs,Nat.mul_comm]
 rw[zqo,zqo,zqr,zqr,←hl];simp only[vrC,List.cons_append,List.nil_append];rw[List.set_append_right _ _ (Nat.le_refl _),Nat.sub_self,List.set_cons_zero];repeat (rw[List.set_append_right _ _ (by omega),Nat.add_sub_cancel_left])
 simp only[List.set_cons_succ,List.set_cons_zero]
theorem SO.put {base g n c:Nat} {w:World} {X Z:List Vr} {y:Vr} (h:SO base g n c w (X++y::Z)) (x:Vr):
 SO base g n c (((((((w.setCell ⟨g,X.length*7,none⟩ (.string (bsB x.nm))).setCell ⟨g,X.length*7+1,none⟩ (.int .i64 x.ty)).setCell ⟨g,X.length*7+2,none⟩ (.int .i64 x.sc)).setCell ⟨g,X.length*7+3,none⟩ (.int .i64 x.sg)).setCell ⟨g,X.length*7+4,none⟩ (.bool x.rg)).setCell ⟨g,X.length*7+5,none⟩ (.int .i64 x.mb)).setCell ⟨g,X.length*7+6,none⟩ (.int .i64 x.lb)) (X++x::Z):=by
 have:=zjG (zjG (zjG (zjG (zjG (zjG (zjG h (X.length*7) (.string (bsB x.nm))) (X.length*7+1) (.int .i64 x.ty)) (X.length*7+2) (.int .i64 x.sc)) (X.length*7+3) (.int .i64 x.sg)) (X.length*7+4) (.bool x.rg)) (X.length*7+5) (.int .i64 x.mb)) (X.length*7+6) (.int .i64 x.lb);rw[zqx]at this;exact this
theorem SO.lo {base g n c:Nat} {w:World} {l:List Vr} (h:SO base g n c w l):base≤g∧g<w.heap.size:=h.lt _ rfl
theorem SO.len {base g n c:Nat} {w:World} {l:List Vr} (h:SO base g n c w l):l.length=n:=by
 have:=h.1;rw[zqs]at this;omega
theorem SO.cap {base g n c:Nat} {w:World} {l:List Vr} (h:SO base g n c w l):n≤c∧c≤maxLen:=by
 obtain⟨a,cap,hv,h1,h2⟩:=(SlR.of_own h).shape;injection hv with _ _ e;subst e;exact⟨h1,h2⟩
theorem SO.at {base g n c:Nat} {w:World} {X Z:List Vr} {x:Vr} (h:SO base g n c w (X++x::Z)):
 w.cell? ⟨g,X.length*7,none⟩=some (.string (bsB x.nm))∧w.cell? ⟨g,X.length*7+1,none⟩=some (.int .i64 x.ty)∧w.cell? ⟨g,X.length*7+2,none⟩=some (.int .i64 x.sc)∧w.cell? ⟨g,X.length*7+3,none⟩=some (.int .i64 x.sg)∧
  w.cell? ⟨g,X.length*7+4,none⟩=some (.bool x.rg)∧w.cell? ⟨g,X.length*7+5,none⟩=some (.int .i64 x.mb)∧w.cell? ⟨g,X.length*7+6,none⟩=some (.int .i64 x.lb):=by
 have hr:=zjE h;have hl:(vrs X).length=X.length*7:=by rw[zqs,Nat.mul_comm]
 have aux:∀(j:Nat) (u:Value),(vrC x)[j]? =some u→w.cell? ⟨g,X.length*7+j,none⟩=some u:=fun j u hu=>hr.cell (j:=X.length*7+j) (by
  rw[zqo,zqr,←hl,List.getElem?_append_right (Nat.le_add_right _ _),Nat.add_sub_cancel_left,List.getElem?_append_left (List.getElem?_eq_some_iff.1 hu).1];exact hu)
 exact⟨aux 0 _ rfl,aux 1 _ rfl,aux 2 _ rfl,aux 3 _ rfl,aux 4 _ rfl,aux 5 _ rfl,aux 6 _ rfl⟩
theorem zjz {w:World} {B e size n:Nat} {g c:Nat} {xs:List Value} (h:w.ownsRow B e size (.slice (some ⟨g,0,none⟩) n c) n xs) (o:Nat):w.frozen? ⟨g,o,none⟩=false:=by
 rcases h.2 with⟨h0,-⟩|⟨g',cap',cur,h0,hbase,hb,hn,hm,hsz,htk⟩
 ·cases h0
 injection h0 with e1 _ e3;injection e1 with e1;injection e1 with e1 _ _;subst e1 e3;simp[World.frozen?,hb]
theorem SO.after {base g n c:Nat} {w w':World} {l:List Vr} (h:SO base g n c w l) (hb:RowKit.Below w.heap.size w w'):SO base g n c w' l:=
 h.kept (row:=none) ⟨hb.os,hb.tape,hb.output,hb.size,fun i hi _=>hb.block i hi⟩ (by simp[Value.ownBlock])
abbrev put7 (w:World) (g o:Nat) (x:Vr):World:=((((((w.setCell ⟨g,o,none⟩ (.string (bsB x.nm))).setCell ⟨g,o+1,none⟩ (.int .i64 x.ty)).setCell ⟨g,o+2,none⟩ (.int .i64 x.sc)).setCell ⟨g,o+3,none⟩ (.int .i64 x.sg)).setCell ⟨g,o+4,none⟩ (.bool x.rg)).setCell ⟨g,o+5,none⟩ (.int .i64 x.mb)).setCell ⟨g,o+6,none⟩ (.int .i64 x.lb)
theorem zbb {base g:Nat} {w v:World} (h:RowKit.Below base w v) (hg:base≤g) (o:Nat) (x:Vr):RowKit.Below base w (put7 v g o x):=
 ((((((h.setCell hg _).setCell hg _).setCell hg _).setCell hg _).setCell hg _).setCell hg _).setCell hg _
theorem SO.swap {base g n c:Nat} {w:World} {X Y Z:List Vr} {x y:Vr} (h:SO base g n c w (X++x::(Y++y::Z))) {p q:Nat} (hp:X.length=p) (hq:X.length+1+Y.length=q):
 SO base g n c (put7 (put7 w g (p*7) y) g (q*7) x) (X++y::(Y++x::Z))∧RowKit.Below base w (put7 (put7 w g (p*7) y) g (q*7) x):=by
 have h1:=h.put y;rw[show X++y::(Y++y::Z)=(X++y::Y)++y::Z by simp]at h1;have h2:=SO.put h1 x;rw[show(X++y::Y)++x::Z=X++y::(Y++x::Z)by simp,List.length_append,List.length_cons,show X.length+(Y.length+1)=q by omega,hp]at h2;exact⟨h2,zbb (zbb (Below.refl _ _) h.lo.1 _ _) h.lo.1 _ _⟩
theorem SO.swap2 {base g n c:Nat} {w:World} {X Y Z:List Vr} {x y:Vr} (h:SO base g n c w (X++x::(Y++y::Z))) {p q:Nat} (hp:X.length=p) (hq:X.length+1+Y.length=q):
 SO base g n c (put7 (put7 w g (q*7) x) g (p*7) y) (X++y::(Y++x::Z))∧RowKit.Below base w (put7 (put7 w g (q*7) x) g (p*7) y):=by
 rw[show X++x::(Y++y::Z)=(X++x::Y)++y::Z by simp]at h;have h1:=SO.put h x;rw[show(X++x::Y)++x::Z=X++x::(Y++x::Z)by simp,List.length_append,List.length_cons,show X.length+(Y.length+1)=q by omega]at h1;have h2:=SO.put h1 y;rw[hp]at h2;exact⟨h2,zbb (zbb (Below.refl _ _) h.lo.1 _ _) h.lo.1 _ _⟩
def IxP (b:Bool) (w:World) (e:Ending) (w':World):Prop:=(∃i:Int,e=.returned (.int .i64 i)∧decide (0≤i)=b∧ -1≤i)∧Below w.heap.size w w'
theorem zaP {α:Type} {p:α→Bool} {L:List α} {j:Nat} (h:j<L.length):(L.drop j).any p=(p L[j]||(L.drop (j+1)).any p):=by
 rw[List.drop_eq_getElem_cons h,List.any_cons]
theorem zgv (pt:Nat) (p:Vr→Bool) (v:Value) (L:List (Vr)) (w:World) (hs:SlR w v L.length (vrs L))
 (hF:∀x∈L,∀W,Below w.heap.size w W→Calls Tryz.prog 259 #[vrV x,.pointer (some ⟨pt,0,none⟩)] W fun e w'=>e=.returned (.bool (p x))∧Below W.heap.size W w'):
 Calls Tryz.prog 265 #[v,.func (.func 259) #[] #[.pointer (some ⟨pt,0,none⟩)]] w (IxP (L.any p) w):=by
 obtain⟨a,cap,rfl,hc,hm⟩:=hs.shape;unfold maxLen at hm;have HS:=lhd hs;have HF:=lhd hF;clear hs hF;go_enter Tryz.func265,Tryz.ntmps265;go_wp2_with fail;go_loopw [8] (fun i wr=>∃j:Nat,j≤L.length∧i=.int .i64 j∧(L.drop j).any p=L.any p∧Below w.heap.size w wr) (fun i _=>L.length-(intOf i).toNat)
 case atStart=>exact⟨0,Nat.zero_le _,rfl,rfl,Below.refl _ _⟩
 case round=>
  obtain⟨j,hj,rfl,hgo,hb⟩:=hrel;have HGO:=lhd hgo;have HB:=lhd hb;clear hgo hb;by_cases hlt:j<L.length
  ·obtain⟨b,o,rfl,hcell⟩:=(HS.out.below HB.out).vrs hlt;have HC:=lhd (fun W hW=>HF.out L[j] (List.getElem_mem hlt) W hW);have HGO2:=lhd ((zaP (p:=p) hlt).symm.trans HGO.out);have HPX:=lhd (Eq.refl (p L[j]));generalize L[j]=x at hcell HC HGO2 HPX;obtain⟨px,hpx⟩:∃px,px=p x:=⟨_,rfl⟩;rw[←hpx]at HC HGO2;clear HPX hpx;obtain⟨nm,ty,sc,sg,rg,mb,lb⟩:=x;have d0:wr.cell? ⟨b,o+j*7,none⟩=some (.string (bsB nm)):=hcell 0 _ rfl;have d1:wr.cell? ⟨b,o+j*7+1,none⟩=some (.int .i64 ty):=hcell 1 _ rfl;have d2:wr.cell? ⟨b,o+j*7+2,none⟩=some (.int .i64 sc):=hcell 2 _ rfl;have d3:wr.cell? ⟨b,o+j*7+3,none⟩=some (.int .i64 sg):=hcell 3 _ rfl;have d4:wr.cell? ⟨b,o+j*7+4,none⟩=some (.bool rg):=hcell 4 _ rfl;have d5:wr.cell? ⟨b,o+j*7+5,none⟩=some (.int .i64 mb):=hcell 5 _ rfl;have d6:wr.cell? ⟨b,o+j*7+6,none⟩=some (.int .i64 lb):=hcell 6 _ rfl;clear hcell;go_wp2_with fail;refine(HC.out _ HB.out).mono ?_;rintro e w1 ⟨rfl,hb1⟩;have HB1:=lhd (zem HB.out hb1);clear hb1;cases px
   ·have HGO3:=lhd (show(L.drop (j+1)).any p=L.any p by rw[←HGO2.out,Bool.false_or]);go_wp2_with fail;go_roundw;case rel=>exact⟨j+1,by omega,by go_num,HGO3.out,HB1.out⟩
    case measure=>simp[intOf];omega
   ·have HR:=lhd (show true=L.any p by rw[←HGO2.out];rfl);go_wp2_with fail;go_ret;exact⟨⟨j,rfl,by rw[←HR.out];simp,by omega⟩,HB1.out⟩
  ·obtain rfl:j=L.length:=by omega
   have HR:=lhd (show false=L.any p by rw[←HGO.out,List.drop_length];rfl);go_wp2_with fail;go_ret;exact⟨⟨-1,rfl,by rw[←HR.out];rfl,by omega⟩,HB.out⟩
theorem zcQ (pt:Nat) (p:Vr→Bool) (v:Value) (L:List (Vr)) (w:World) (hs:SlR w v L.length (vrs L))
 (hF:∀x∈L,∀W,Below w.heap.size w W→Calls Tryz.prog 259 #[vrV x,.pointer (some ⟨pt,0,none⟩)] W fun e w'=>e=.returned (.bool (p x))∧Below W.heap.size W w'):
 Calls Tryz.prog 210 #[v,.func (.func 259) #[] #[.pointer (some ⟨pt,0,none⟩)]] w fun e w'=>e=.returned (.bool (L.any p))∧Below w.heap.size w w':=by
 have HI:=lhd (zgv pt p v L w hs hF);generalize L.any p=r at HI⊢;obtain⟨a,cap,rfl,hc,hm⟩:=hs.shape;clear hs hF;go_enter Tryz.func210,Tryz.ntmps210;go_wp2_with fail;refine HI.out.mono ?_;rintro e w1 ⟨⟨i,rfl,hi,hi1⟩,hb⟩;have HH:=lhd hi;clear hi;go_wp2_with fail;go_ret;exact⟨zli HH.out,hb⟩
theorem zgA (pt:Nat) (p:Vr→Bool) (v:Value) (L:List (Vr)) (w:World) (hs:SlR w v L.length (vrs L))
 (hF:∀x∈L,∀W,Below w.heap.size w W→Calls Tryz.prog 211 #[vrV x,.pointer (some ⟨pt,0,none⟩)] W fun e w'=>e=.returned (.bool (p x))∧Below W.heap.size W w'):
 Calls Tryz.prog 265 #[v,.func (.func 211) #[] #[.pointer (some ⟨pt,0,none⟩)]] w (IxP (L.any p) w):=by
 obtain⟨a,cap,rfl,hc,hm⟩:=hs.shape;unfold maxLen at hm;have HS:=lhd hs;have HF:=lhd hF;clear hs hF;go_enter Tryz.func265,Tryz.ntmps265;go_wp2_with fail;go_loopw [8] (fun i wr=>∃j:Nat,j≤L.length∧i=.int .i64 j∧(L.drop j).any p=L.any p∧Below w.heap.size w wr) (fun i _=>L.length-(intOf i).toNat)
 case atStart=>exact⟨0,Nat.zero_le _,rfl,rfl,Below.refl _ _⟩
 case round=>
  obtain⟨j,hj,rfl,hgo,hb⟩:=hrel;have HGO:=lhd hgo;have HB:=lhd hb;clear hgo hb;by_cases hlt:j<L.length
  ·obtain⟨b,o,rfl,hcell⟩:=(HS.out.below HB.out).vrs hlt;have HC:=lhd (fun W hW=>HF.out L[j] (List.getElem_mem hlt) W hW);have HGO2:=lhd ((zaP (p:=p) hlt).symm.trans HGO.out);have HPX:=lhd (Eq.refl (p L[j]));generalize L[j]=x at hcell HC HGO2 HPX;obtain⟨px,hpx⟩:∃px,px=p x:=⟨_,rfl⟩;rw[←hpx]at HC HGO2;clear HPX hpx;obtain⟨nm,ty,sc,sg,rg,mb,lb⟩:=x;have d0:wr.cell? ⟨b,o+j*7,none⟩=some (.string (bsB nm)):=hcell 0 _ rfl;have d1:wr.cell? ⟨b,o+j*7+1,none⟩=some (.int .i64 ty):=hcell 1 _ rfl;have d2:wr.cell? ⟨b,o+j*7+2,none⟩=some (.int .i64 sc):=hcell 2 _ rfl;have d3:wr.cell? ⟨b,o+j*7+3,none⟩=some (.int .i64 sg):=hcell 3 _ rfl;have d4:wr.cell? ⟨b,o+j*7+4,none⟩=some (.bool rg):=hcell 4 _ rfl;have d5:wr.cell? ⟨b,o+j*7+5,none⟩=some (.int .i64 mb):=hcell 5 _ rfl;have d6:wr.cell? ⟨b,o+j*7+6,none⟩=some (.int .i64 lb):=hcell 6 _ rfl;clear hcell;go_wp2_with fail;refine(HC.out _ HB.out).mono ?_;rintro e w1 ⟨rfl,hb1⟩;have HB1:=lhd (zem HB.out hb1);clear hb1;cases px
   ·have HGO3:=lhd (show(L.drop (j+1)).any p=L.any p by rw[←HGO2.out,Bool.false_or]);go_wp2_with fail;go_roundw;case rel=>exact⟨j+1,by omega,by go_num,HGO3.out,HB1.out⟩
    case measure=>simp[intOf];omega
   ·have HR:=lhd (show true=L.any p by rw[←HGO2.out];rfl);go_wp2_with fail;go_ret;exact⟨⟨j,rfl,by rw[←HR.out];simp,by omega⟩,HB1.out⟩
  ·obtain rfl:j=L.length:=by omega
   have HR:=lhd (show false=L.any p by rw[←HGO.out,List.drop_length];rfl);go_wp2_with fail;go_ret;exact⟨⟨-1,rfl,by rw[←HR.out];rfl,by omega⟩,HB.out⟩
theorem zcU (pt:Nat) (p:Vr→Bool) (v:Value) (L:List (Vr)) (w:World) (hs:SlR w v L.length (vrs L))
 (hF:∀x∈L,∀W,Below w.heap.size w W→Calls Tryz.prog 211 #[vrV x,.pointer (some ⟨pt,0,none⟩)] W fun e w'=>e=.returned (.bool (p x))∧Below W.heap.size W w'):
 Calls Tryz.prog 210 #[v,.func (.func 211) #[] #[.pointer (some ⟨pt,0,none⟩)]] w fun e w'=>e=.returned (.bool (L.any p))∧Below w.heap.size w w':=by
 have HI:=lhd (zgA pt p v L w hs hF);generalize L.any p=r at HI⊢;obtain⟨a,cap,rfl,hc,hm⟩:=hs.shape;clear hs hF;go_enter Tryz.func210,Tryz.ntmps210;go_wp2_with fail;refine HI.out.mono ?_;rintro e w1 ⟨⟨i,rfl,hi,hi1⟩,hb⟩;have HH:=lhd hi;clear hi;go_wp2_with fail;go_ret;exact⟨zli HH.out,hb⟩
theorem zgC (pt:Nat) (p:Vr→Bool) (v:Value) (L:List (Vr)) (w:World) (hs:SlR w v L.length (vrs L))
 (hF:∀x∈L,∀W,Below w.heap.size w W→Calls Tryz.prog 213 #[vrV x,.pointer (some ⟨pt,0,none⟩)] W fun e w'=>e=.returned (.bool (p x))∧Below W.heap.size W w'):
 Calls Tryz.prog 265 #[v,.func (.func 213) #[] #[.pointer (some ⟨pt,0,none⟩)]] w (IxP (L.any p) w):=by
 obtain⟨a,cap,rfl,hc,hm⟩:=hs.shape;unfold maxLen at hm;have HS:=lhd hs;have HF:=lhd hF;clear hs hF;go_enter Tryz.func265,Tryz.ntmps265;go_wp2_with fail;go_loopw [8] (fun i wr=>∃j:Nat,j≤L.length∧i=.int .i64 j∧(L.drop j).any p=L.any p∧Below w.heap.size w wr) (fun i _=>L.length-(intOf i).toNat)
 case atStart=>exact⟨0,Nat.zero_le _,rfl,rfl,Below.refl _ _⟩
 case round=>
  obtain⟨j,hj,rfl,hgo,hb⟩:=hrel;have HGO:=lhd hgo;have HB:=lhd hb;clear hgo hb;by_cases hlt:j<L.length
  ·obtain⟨b,o,rfl,hcell⟩:=(HS.out.below HB.out).vrs hlt;have HC:=lhd (fun W hW=>HF.out L[j] (List.getElem_mem hlt) W hW);have HGO2:=lhd ((zaP (p:=p) hlt).symm.trans HGO.out);have HPX:=lhd (Eq.refl (p L[j]));generalize L[j]=x at hcell HC HGO2 HPX;obtain⟨px,hpx⟩:∃px,px=p x:=⟨_,rfl⟩;rw[←hpx]at HC HGO2;clear HPX hpx;obtain⟨nm,ty,sc,sg,rg,mb,lb⟩:=x;have d0:wr.cell? ⟨b,o+j*7,none⟩=some (.string (bsB nm)):=hcell 0 _ rfl;have d1:wr.cell? ⟨b,o+j*7+1,none⟩=some (.int .i64 ty):=hcell 1 _ rfl;have d2:wr.cell? ⟨b,o+j*7+2,none⟩=some (.int .i64 sc):=hcell 2 _ rfl;have d3:wr.cell? ⟨b,o+j*7+3,none⟩=some (.int .i64 sg):=hcell 3 _ rfl;have d4:wr.cell? ⟨b,o+j*7+4,none⟩=some (.bool rg):=hcell 4 _ rfl;have d5:wr.cell? ⟨b,o+j*7+5,none⟩=some (.int .i64 mb):=hcell 5 _ rfl;have d6:wr.cell? ⟨b,o+j*7+6,none⟩=some (.int .i64 lb):=hcell 6 _ rfl;clear hcell;go_wp2_with fail;refine(HC.out _ HB.out).mono ?_;rintro e w1 ⟨rfl,hb1⟩;have HB1:=lhd (zem HB.out hb1);clear hb1;cases px
   ·have HGO3:=lhd (show(L.drop (j+1)).any p=L.any p by rw[←HGO2.out,Bool.false_or]);go_wp2_with fail;go_roundw;case rel=>exact⟨j+1,by omega,by go_num,HGO3.out,HB1.out⟩
    case measure=>simp[intOf];omega
   ·have HR:=lhd (show true=L.any p by rw[←HGO2.out];rfl);go_wp2_with fail;go_ret;exact⟨⟨j,rfl,by rw[←HR.out];simp,by omega⟩,HB1.out⟩
  ·obtain rfl:j=L.length:=by omega
   have HR:=lhd (show false=L.any p by rw[←HGO.out,List.drop_length];rfl);go_wp2_with fail;go_ret;exact⟨⟨-1,rfl,by rw[←HR.out];rfl,by omega⟩,HB.out⟩
theorem zcW (pt:Nat) (p:Vr→Bool) (v:Value) (L:List (Vr)) (w:World) (hs:SlR w v L.length (vrs L))
 (hF:∀x∈L,∀W,Below w.heap.size w W→Calls Tryz.prog 213 #[vrV x,.pointer (some ⟨pt,0,none⟩)] W fun e w'=>e=.returned (.bool (p x))∧Below W.heap.size W w'):
 Calls Tryz.prog 210 #[v,.func (.func 213) #[] #[.pointer (some ⟨pt,0,none⟩)]] w fun e w'=>e=.returned (.bool (L.any p))∧Below w.heap.size w w':=by
 have HI:=lhd (zgC pt p v L w hs hF);generalize L.any p=r at HI⊢;obtain⟨a,cap,rfl,hc,hm⟩:=hs.shape;clear hs hF;go_enter Tryz.func210,Tryz.ntmps210;go_wp2_with fail;refine HI.out.mono ?_;rintro e w1 ⟨⟨i,rfl,hi,hi1⟩,hb⟩;have HH:=lhd hi;clear hi;go_wp2_with fail;go_ret;exact⟨zli HH.out,hb⟩
theorem zgB (_pt:Nat) (p:Vr→Bool) (v:Value) (L:List (Vr)) (w:World) (hs:SlR w v L.length (vrs L))
 (hF:∀x∈L,∀W,Below w.heap.size w W→Calls Tryz.prog 207 #[vrV x] W fun e w'=>e=.returned (.bool (p x))∧Below W.heap.size W w'):
 Calls Tryz.prog 265 #[v,.func (.func 207) #[] #[]] w (IxP (L.any p) w):=by
 obtain⟨a,cap,rfl,hc,hm⟩:=hs.shape;unfold maxLen at hm;have HS:=lhd hs;have HF:=lhd hF;clear hs hF;go_enter Tryz.func265,Tryz.ntmps265;go_wp2_with fail;go_loopw [8] (fun i wr=>∃j:Nat,j≤L.length∧i=.int .i64 j∧(L.drop j).any p=L.any p∧Below w.heap.size w wr) (fun i _=>L.length-(intOf i).toNat)
 case atStart=>exact⟨0,Nat.zero_le _,rfl,rfl,Below.refl _ _⟩
 case round=>
  obtain⟨j,hj,rfl,hgo,hb⟩:=hrel;have HGO:=lhd hgo;have HB:=lhd hb;clear hgo hb;by_cases hlt:j<L.length
  ·obtain⟨b,o,rfl,hcell⟩:=(HS.out.below HB.out).vrs hlt;have HC:=lhd (fun W hW=>HF.out L[j] (List.getElem_mem hlt) W hW);have HGO2:=lhd ((zaP (p:=p) hlt).symm.trans HGO.out);have HPX:=lhd (Eq.refl (p L[j]));generalize L[j]=x at hcell HC HGO2 HPX;obtain⟨px,hpx⟩:∃px,px=p x:=⟨_,rfl⟩;rw[←hpx]at HC HGO2;clear HPX hpx;obtain⟨nm,ty,sc,sg,rg,mb,lb⟩:=x;have d0:wr.cell? ⟨b,o+j*7,none⟩=some (.string (bsB nm)):=hcell 0 _ rfl;have d1:wr.cell? ⟨b,o+j*7+1,none⟩=some (.int .i64 ty):=hcell 1 _ rfl;have d2:wr.cell? ⟨b,o+j*7+2,none⟩=some (.int .i64 sc):=hcell 2 _ rfl;have d3:wr.cell? ⟨b,o+j*7+3,none⟩=some (.int .i64 sg):=hcell 3 _ rfl;have d4:wr.cell? ⟨b,o+j*7+4,none⟩=some (.bool rg):=hcell 4 _ rfl;have d5:wr.cell? ⟨b,o+j*7+5,none⟩=some (.int .i64 mb):=hcell 5 _ rfl;have d6:wr.cell? ⟨b,o+j*7+6,none⟩=some (.int .i64 lb):=hcell 6 _ rfl;clear hcell;go_wp2_with fail;refine(HC.out _ HB.out).mono ?_;rintro e w1 ⟨rfl,hb1⟩;have HB1:=lhd (zem HB.out hb1);clear hb1;cases px
   ·have HGO3:=lhd (show(L.drop (j+1)).any p=L.any p by rw[←HGO2.out,Bool.false_or]);go_wp2_with fail;go_roundw;case rel=>exact⟨j+1,by omega,by go_num,HGO3.out,HB1.out⟩
    case measure=>simp[intOf];omega
   ·have HR:=lhd (show true=L.any p by rw[←HGO2.out];rfl);go_wp2_with fail;go_ret;exact⟨⟨j,rfl,by rw[←HR.out];simp,by omega⟩,HB1.out⟩
  ·obtain rfl:j=L.length:=by omega
   have HR:=lhd (show false=L.any p by rw[←HGO.out,List.drop_length];rfl);go_wp2_with fail;go_ret;exact⟨⟨-1,rfl,by rw[←HR.out];rfl,by omega⟩,HB.out⟩
theorem zcV (_pt:Nat) (p:Vr→Bool) (v:Value) (L:List (Vr)) (w:World) (hs:SlR w v L.length (vrs L))
 (hF:∀x∈L,∀W,Below w.heap.size w W→Calls Tryz.prog 207 #[vrV x] W fun e w'=>e=.returned (.bool (p x))∧Below W.heap.size W w'):
 Calls Tryz.prog 210 #[v,.func (.func 207) #[] #[]] w fun e w'=>e=.returned (.bool (L.any p))∧Below w.heap.size w w':=by
 have HI:=lhd (zgB _pt p v L w hs hF);generalize L.any p=r at HI⊢;obtain⟨a,cap,rfl,hc,hm⟩:=hs.shape;clear hs hF;go_enter Tryz.func210,Tryz.ntmps210;go_wp2_with fail;refine HI.out.mono ?_;rintro e w1 ⟨⟨i,rfl,hi,hi1⟩,hb⟩;have HH:=lhd hi;clear hi;go_wp2_with fail;go_ret;exact⟨zli HH.out,hb⟩
theorem zgx (pt:Nat) (p:Sc→Bool) (v:Value) (L:List (Sc)) (w:World) (hs:SlR w v L.length (scs L))
 (hF:∀x∈L,∀W,Below w.heap.size w W→Calls Tryz.prog 209 #[scV x,.pointer (some ⟨pt,0,none⟩)] W fun e w'=>e=.returned (.bool (p x))∧Below W.heap.size W w'):
 Calls Tryz.prog 264 #[v,.func (.func 209) #[] #[.pointer (some ⟨pt,0,none⟩)]] w (IxP (L.any p) w):=by
 obtain⟨a,cap,rfl,hc,hm⟩:=hs.shape;unfold maxLen at hm;have HS:=lhd hs;have HF:=lhd hF;clear hs hF;go_enter Tryz.func264,Tryz.ntmps264;go_wp2_with fail;go_loopw [8] (fun i wr=>∃j:Nat,j≤L.length∧i=.int .i64 j∧(L.drop j).any p=L.any p∧Below w.heap.size w wr) (fun i _=>L.length-(intOf i).toNat)
 case atStart=>exact⟨0,Nat.zero_le _,rfl,rfl,Below.refl _ _⟩
 case round=>
  obtain⟨j,hj,rfl,hgo,hb⟩:=hrel;have HGO:=lhd hgo;have HB:=lhd hb;clear hgo hb;by_cases hlt:j<L.length
  ·obtain⟨b,o,rfl,hcell⟩:=(HS.out.below HB.out).scs hlt;have HC:=lhd (fun W hW=>HF.out L[j] (List.getElem_mem hlt) W hW);have HGO2:=lhd ((zaP (p:=p) hlt).symm.trans HGO.out);have HPX:=lhd (Eq.refl (p L[j]));generalize L[j]=x at hcell HC HGO2 HPX;obtain⟨px,hpx⟩:∃px,px=p x:=⟨_,rfl⟩;rw[←hpx]at HC HGO2;clear HPX hpx;obtain⟨nm,ty,pa⟩:=x;have d0:wr.cell? ⟨b,o+j*3,none⟩=some (.string (bsB nm)):=hcell 0 _ rfl;have d1:wr.cell? ⟨b,o+j*3+1,none⟩=some (.int .i64 ty):=hcell 1 _ rfl;have d2:wr.cell? ⟨b,o+j*3+2,none⟩=some (.int .i64 pa):=hcell 2 _ rfl;clear hcell;go_wp2_with fail;refine(HC.out _ HB.out).mono ?_;rintro e w1 ⟨rfl,hb1⟩;have HB1:=lhd (zem HB.out hb1);clear hb1;cases px
   ·have HGO3:=lhd (show(L.drop (j+1)).any p=L.any p by rw[←HGO2.out,Bool.false_or]);go_wp2_with fail;go_roundw;case rel=>exact⟨j+1,by omega,by go_num,HGO3.out,HB1.out⟩
    case measure=>simp[intOf];omega
   ·have HR:=lhd (show true=L.any p by rw[←HGO2.out];rfl);go_wp2_with fail;go_ret;exact⟨⟨j,rfl,by rw[←HR.out];simp,by omega⟩,HB1.out⟩
  ·obtain rfl:j=L.length:=by omega
   have HR:=lhd (show false=L.any p by rw[←HGO.out,List.drop_length];rfl);go_wp2_with fail;go_ret;exact⟨⟨-1,rfl,by rw[←HR.out];rfl,by omega⟩,HB.out⟩
theorem zcS (pt:Nat) (p:Sc→Bool) (v:Value) (L:List (Sc)) (w:World) (hs:SlR w v L.length (scs L))
 (hF:∀x∈L,∀W,Below w.heap.size w W→Calls Tryz.prog 209 #[scV x,.pointer (some ⟨pt,0,none⟩)] W fun e w'=>e=.returned (.bool (p x))∧Below W.heap.size W w'):
 Calls Tryz.prog 208 #[v,.func (.func 209) #[] #[.pointer (some ⟨pt,0,none⟩)]] w fun e w'=>e=.returned (.bool (L.any p))∧Below w.heap.size w w':=by
 have HI:=lhd (zgx pt p v L w hs hF);generalize L.any p=r at HI⊢;obtain⟨a,cap,rfl,hc,hm⟩:=hs.shape;clear hs hF;go_enter Tryz.func208,Tryz.ntmps208;go_wp2_with fail;refine HI.out.mono ?_;rintro e w1 ⟨⟨i,rfl,hi,hi1⟩,hb⟩;have HH:=lhd hi;clear hi;go_wp2_with fail;go_ret;exact⟨zli HH.out,hb⟩
theorem zgz (pt:Nat) (p:Sc→Bool) (v:Value) (L:List (Sc)) (w:World) (hs:SlR w v L.length (scs L))
 (hF:∀x∈L,∀W,Below w.heap.size w W→Calls Tryz.prog 212 #[scV x,.pointer (some ⟨pt,0,none⟩)] W fun e w'=>e=.returned (.bool (p x))∧Below W.heap.size W w'):
 Calls Tryz.prog 264 #[v,.func (.func 212) #[] #[.pointer (some ⟨pt,0,none⟩)]] w (IxP (L.any p) w):=by
 obtain⟨a,cap,rfl,hc,hm⟩:=hs.shape;unfold maxLen at hm;have HS:=lhd hs;have HF:=lhd hF;clear hs hF;go_enter Tryz.func264,Tryz.ntmps264;go_wp2_with fail;go_loopw [8] (fun i wr=>∃j:Nat,j≤L.length∧i=.int .i64 j∧(L.drop j).any p=L.any p∧Below w.heap.size w wr) (fun i _=>L.length-(intOf i).toNat)
 case atStart=>exact⟨0,Nat.zero_le _,rfl,rfl,Below.refl _ _⟩
 case round=>
  obtain⟨j,hj,rfl,hgo,hb⟩:=hrel;have HGO:=lhd hgo;have HB:=lhd hb;clear hgo hb;by_cases hlt:j<L.length
  ·obtain⟨b,o,rfl,hcell⟩:=(HS.out.below HB.out).scs hlt;have HC:=lhd (fun W hW=>HF.out L[j] (List.getElem_mem hlt) W hW);have HGO2:=lhd ((zaP (p:=p) hlt).symm.trans HGO.out);have HPX:=lhd (Eq.refl (p L[j]));generalize L[j]=x at hcell HC HGO2 HPX;obtain⟨px,hpx⟩:∃px,px=p x:=⟨_,rfl⟩;rw[←hpx]at HC HGO2;clear HPX hpx;obtain⟨nm,ty,pa⟩:=x;have d0:wr.cell? ⟨b,o+j*3,none⟩=some (.string (bsB nm)):=hcell 0 _ rfl;have d1:wr.cell? ⟨b,o+j*3+1,none⟩=some (.int .i64 ty):=hcell 1 _ rfl;have d2:wr.cell? ⟨b,o+j*3+2,none⟩=some (.int .i64 pa):=hcell 2 _ rfl;clear hcell;go_wp2_with fail;refine(HC.out _ HB.out).mono ?_;rintro e w1 ⟨rfl,hb1⟩;have HB1:=lhd (zem HB.out hb1);clear hb1;cases px
   ·have HGO3:=lhd (show(L.drop (j+1)).any p=L.any p by rw[←HGO2.out,Bool.false_or]);go_wp2_with fail;go_roundw;case rel=>exact⟨j+1,by omega,by go_num,HGO3.out,HB1.out⟩
    case measure=>simp[intOf];omega
   ·have HR:=lhd (show true=L.any p by rw[←HGO2.out];rfl);go_wp2_with fail;go_ret;exact⟨⟨j,rfl,by rw[←HR.out];simp,by omega⟩,HB1.out⟩
  ·obtain rfl:j=L.length:=by omega
   have HR:=lhd (show false=L.any p by rw[←HGO.out,List.drop_length];rfl);go_wp2_with fail;go_ret;exact⟨⟨-1,rfl,by rw[←HR.out];rfl,by omega⟩,HB.out⟩
theorem zcT (pt:Nat) (p:Sc→Bool) (v:Value) (L:List (Sc)) (w:World) (hs:SlR w v L.length (scs L))
 (hF:∀x∈L,∀W,Below w.heap.size w W→Calls Tryz.prog 212 #[scV x,.pointer (some ⟨pt,0,none⟩)] W fun e w'=>e=.returned (.bool (p x))∧Below W.heap.size W w'):
 Calls Tryz.prog 208 #[v,.func (.func 212) #[] #[.pointer (some ⟨pt,0,none⟩)]] w fun e w'=>e=.returned (.bool (L.any p))∧Below w.heap.size w w':=by
 have HI:=lhd (zgz pt p v L w hs hF);generalize L.any p=r at HI⊢;obtain⟨a,cap,rfl,hc,hm⟩:=hs.shape;clear hs hF;go_enter Tryz.func208,Tryz.ntmps208;go_wp2_with fail;refine HI.out.mono ?_;rintro e w1 ⟨⟨i,rfl,hi,hi1⟩,hb⟩;have HH:=lhd hi;clear hi;go_wp2_with fail;go_ret;exact⟨zli HH.out,hb⟩
theorem zkw {c:UInt8} (h:128≤c.toNat):prn c=false:=by
 unfold prn;rw[Bool.and_eq_false_iff,decide_eq_false_iff_not,decide_eq_false_iff_not];exact .inr (by omega)
theorem zaM {p:UInt8→Bool} {s:ByteArray} {pos:Nat} (h:pos<s.size):(s.data.toList.take (pos+1)).all p=((s.data.toList.take pos).all p&&p (s[pos]'h)):=by
 rw[List.take_succ_eq_append_getElem (by simpa using h),List.all_append];simp;rfl
theorem zaL {p:UInt8→Bool} {s:ByteArray} {pos:Nat} (h:pos<s.size) (hd:p (s[pos]'h)=false):s.data.toList.all p=false:=by
 rw[List.all_eq_false]
 exact⟨s[pos],by
  have:s[pos]=s.data.toList[pos]'(by simpa using h):=by simp;rfl
  rw[this];exact List.getElem_mem _,by rw[hd];simp⟩
theorem zkC (s:ByteArray) (w:World):Calls Tryz.prog 285 #[.string s] w fun e w'=>e=.returned (.bool (s.data.toList.all prn))∧Below w.heap.size w w':=by
 go_enter Tryz.func285,Tryz.ntmps285;go_wp2_with fail;go_loopw [2] (fun r_ w'=>∃pos:Nat,pos≤s.size∧r_=.bool false∧(s.data.toList.take pos).all prn=true∧w'=w.iter s pos) (fun _ w'=>s.size-w'.iterPos w.heap.size)
 case atStart=>exact⟨0,by omega,rfl,rfl,rfl⟩
 case round=>
  obtain⟨pos,hps,rfl,hall,rfl⟩:=hrel;have HA:=lhd hall;clear hall;by_cases hp:pos<s.size
  ·have hnx:∀ty,(Instr.next (.pointer (some ⟨w.heap.size,0,none⟩)) true ty).run Tryz.prog (w.iter s pos)=_:=fun ty=>run_next_any w s pos ty hp;have HT:=lhd (zaM (p:=prn) hp);have HN:=lhd (fun h=>zaL (p:=prn) hp h);by_cases ha:(s[pos]'hp).toNat<128
   ·rw[show Utf8.decode s pos=((s[pos]'hp).toNat,1)from decode_ascii s pos hp ha]at hnx;generalize s[pos]'hp=c at ha hnx HT HN;dsimp only at hnx;by_cases c1:c.toNat<33
    ·have HR:=lhd (HN.out (by unfold prn;rw[decide_eq_false (show ¬33≤c.toNat by omega)];rfl));have hb1:decide ((c.toNat:Int)<33)=true:=by rw[decide_eq_true_iff];omega
     go_wp2_with fail;go_ret;exact⟨zli (HR.out).symm,(Below.refl _ _).alloc (Nat.le_refl _) _⟩
    ·have hb1:decide ((c.toNat:Int)<33)=false:=by rw[decide_eq_false_iff_not];omega
     by_cases c2:126<c.toNat
     ·have HR:=lhd (HN.out (by unfold prn;rw[decide_eq_false (show ¬c.toNat≤126 by omega),Bool.and_false]));have hb2:decide ((126:Int)<(c.toNat:Int))=true:=by rw[decide_eq_true_iff];omega
      go_wp2_with fail;go_ret;exact⟨zli (HR.out).symm,(Below.refl _ _).alloc (Nat.le_refl _) _⟩
     ·have hb2:decide ((126:Int)<(c.toNat:Int))=false:=by rw[decide_eq_false_iff_not];omega
      have HA2:=lhd (show(s.data.toList.take (pos+1)).all prn=true by
       rw[HT.out,HA.out];unfold prn;rw[decide_eq_true (show 33≤c.toNat by omega),decide_eq_true (show c.toNat≤126 by omega)];rfl)
      go_wp2_with fail;go_roundw;case rel=>exact⟨pos+1,by omega,rfl,HA2.out,rfl⟩
      case measure=>simp;omega
   ·have HR:=lhd (HN.out (zkw (by omega)));have hd:=(decode_high s pos hp (by omega)).1;have hb1:decide (((Utf8.decode s pos).1:Int)<33)=false:=by rw[decide_eq_false_iff_not];omega
    have hb2:decide ((126:Int)<((Utf8.decode s pos).1:Int))=true:=by rw[decide_eq_true_iff];omega
    clear hd;go_wp2_with fail;go_ret;exact⟨zli (HR.out).symm,(Below.refl _ _).alloc (Nat.le_refl _) _⟩
  ·obtain rfl:pos=s.size:=by omega
   have hnx:∀ty,(Instr.next (.pointer (some ⟨w.heap.size,0,none⟩)) true ty).run Tryz.prog (w.iter s s.size)=_:=fun ty=>run_next_end w s s.size ty hp
   have HR:=lhd (show s.data.toList.all prn=true by
    have:=HA.out;rwa [List.take_of_length_le (by simp)]at this)
   go_wp2_with fail;go_ret;exact⟨zli (HR.out).symm,(Below.refl _ _).alloc (Nat.le_refl _) _⟩
theorem zlk {k:IntKind} {a b:Int} (h:a=b):Ending.returned (.int k a)=.returned (.int k b):=by rw[h]
theorem zhY (n:Int) (w:World):Calls Tryz.prog 168 #[.int .i64 n] w fun e w'=>e=.returned (.bool (zbm n))∧w=w':=by
 have HR:=lhd (show(decide (-32768≤n)&&decide (n≤32768))=zbm n from rfl);by_cases h1: -32768≤n
 ·have b1:decide (-32768≤n)=true:=by simpa using h1
  by_cases h2:n≤32768
  ·have b2:decide (n≤32768)=true:=by simpa using h2
   rw[b1,b2]at HR;go_enter Tryz.func168,Tryz.ntmps168;go_wp2_with fail;go_ret;exact⟨zli HR.out,rfl⟩
  ·have b2:decide (n≤32768)=false:=by simpa using h2
   rw[b1,b2]at HR;go_enter Tryz.func168,Tryz.ntmps168;go_wp2_with fail;go_ret;exact⟨zli HR.out,rfl⟩
 ·have b1:decide (-32768≤n)=false:=by simpa using h1
  rw[b1]at HR;go_enter Tryz.func168,Tryz.ntmps168;go_wp2_with fail;go_ret;exact⟨zli HR.out,rfl⟩
theorem zhW (m l:Int) (w:World):Calls Tryz.prog 122 #[.int .i64 m,.int .i64 l] w fun e w'=>e=.returned (.int .i64 (zqJ m l))∧w=w':=by
 have H1:=lhd (zhY m w);have H2:=lhd (zhY l w);cases h1:zbm m
 ·rw[h1]at H1;have HR:=lhd (show(0:Int)=zqJ m l by unfold zqJ;rw[h1];rfl);clear h1;go_enter Tryz.func122,Tryz.ntmps122;go_wp2_with fail;refine H1.out.mono ?_;rintro e w1 ⟨rfl,rfl⟩;go_wp2_with fail;go_ret;exact⟨zlk HR.out,rfl⟩
 ·rw[h1]at H1;cases h2:zbm l
  ·rw[h2]at H2;have HR:=lhd (show(0:Int)=zqJ m l by unfold zqJ;rw[h2,Bool.and_false];rfl);clear h1 h2;go_enter Tryz.func122,Tryz.ntmps122;go_wp2_with fail;refine H1.out.mono ?_;rintro e w1 ⟨rfl,rfl⟩;go_wp2_with fail;refine H2.out.mono ?_;rintro e w1 ⟨rfl,rfl⟩;go_wp2_with fail;go_ret;exact⟨zlk HR.out,rfl⟩
  ·rw[h2]at H2;have HR:=lhd (show max m l-min m l+1=zqJ m l by unfold zqJ;rw[h1,h2];rfl)
   have hb: -32768≤m∧m≤32768∧ -32768≤l∧l≤32768:=by
    unfold zbm at h1 h2;simp only[Bool.and_eq_true,decide_eq_true_iff]at h1 h2;omega
   obtain⟨q1,q2,q3,q4⟩:=hb;clear h1 h2;rcases Int.lt_trichotomy m l with hml|rfl|hml
   all_goals
    go_enter Tryz.func122,Tryz.ntmps122;go_wp2_with fail;refine H1.out.mono ?_;rintro e w1 ⟨rfl,rfl⟩;go_wp2_with fail;refine H2.out.mono ?_;rintro e w1 ⟨rfl,rfl⟩;go_wp2_with fail;go_ret;exact⟨zlk (by have:=HR.out;omega),rfl⟩
theorem zph (n:Int) (w:World):Calls Tryz.prog 119 #[.int .i64 n] w fun e w'=>e=.returned (.bool (decide (-15≤n)&&decide (n≤2)))∧w=w':=by
 by_cases h1: -15≤n
 ·have b1:decide (-15≤n)=true:=by simpa using h1
  by_cases h2:n≤2
  ·have b2:decide (n≤2)=true:=by simpa using h2
   go_enter Tryz.func119,Tryz.ntmps119;go_wp2_with fail;go_ret;exact⟨by simp[b1,b2],rfl⟩
  ·have b2:decide (n≤2)=false:=by simpa using h2
   go_enter Tryz.func119,Tryz.ntmps119;go_wp2_with fail;go_ret;exact⟨by simp[b1,b2],rfl⟩
 ·have b1:decide (-15≤n)=false:=by simpa using h1
  go_enter Tryz.func119,Tryz.ntmps119;go_wp2_with fail;go_ret;exact⟨by simp[b1],rfl⟩
theorem zhZ (s:ByteArray) (w:World) (hm:s.size≤140737488351232):Calls Tryz.prog 262 #[.string s] w fun e w'=>e=.returned (.bool (s.data.toList.all prn))∧w=w':=by
 obtain⟨R,hR⟩:∃R,R=s.data.toList.all prn:=⟨_,rfl⟩;rw[←hR];have HRR:=lhd hR;clear hR;go_enter Tryz.func262,Tryz.ntmps262;go_wp2_with fail;go_loop [6] (fun i=>∃k:Nat,k≤s.size∧i=.int .i64 k∧(s.data.toList.take k).all prn=true) (fun i=>s.size-(intOf i).toNat)
 case atStart=>exact⟨0,Nat.zero_le _,rfl,rfl⟩
 case round=>
  obtain⟨k,hk,rfl,hall⟩:=hrel;have HA:=lhd hall;clear hall;by_cases hlt:k<s.size
  ·have hlt2:(k:Int)<(s.size:Int):=by omega
   have HT:=lhd (zaM (p:=prn) hlt);have HN:=lhd (fun h=>zaL (p:=prn) hlt h);by_cases hp:33≤(s[k]'hlt).toNat∧(s[k]'hlt).toNat≤126
   ·have hb1:decide (((s[k]'hlt).toNat:Int)<33)=false:=by rw[decide_eq_false_iff_not];omega
    have hb2:decide ((126:Int)<((s[k]'hlt).toNat:Int))=false:=by rw[decide_eq_false_iff_not];omega
    have HA2:=lhd (show(s.data.toList.take (k+1)).all prn=true by
     rw[HT.out,HA.out];unfold prn;rw[decide_eq_true hp.1,decide_eq_true hp.2];rfl)
    clear hp;go_wp2_with fail;go_round
    case rel=>exact⟨k+1,by omega,by go_num,HA2.out⟩
    case measure=>simp[intOf];omega
   ·have HR:=lhd (show s.data.toList.all prn=false from HN.out (by
     unfold prn;rw[Bool.and_eq_false_iff,decide_eq_false_iff_not,decide_eq_false_iff_not];omega))
    by_cases h1:(s[k]'hlt).toNat<33
    ·have hb1:decide (((s[k]'hlt).toNat:Int)<33)=true:=by rw[decide_eq_true_iff];omega
     go_wp2_with fail;go_ret;exact⟨zli (HRR.out.trans HR.out).symm,rfl⟩
    ·have hb1:decide (((s[k]'hlt).toNat:Int)<33)=false:=by rw[decide_eq_false_iff_not];omega
     have hb2:decide ((126:Int)<((s[k]'hlt).toNat:Int))=true:=by rw[decide_eq_true_iff];omega
     go_wp2_with fail;go_ret;exact⟨zli (HRR.out.trans HR.out).symm,rfl⟩
  ·obtain rfl:k=s.size:=by omega
   have HR:=lhd (show s.data.toList.all prn=true by
    have:=HA.out;rwa [List.take_of_length_le (by simp)]at this)
   go_wp2_with fail;go_ret;exact⟨zli (HRR.out.trans HR.out).symm,rfl⟩
open Go.RowKit Go.Shelf
attribute [local go_sem] Oper.semAt_some
def upI (S:List Sc) (i:Int):Nat→Int
 |0=>i
 |k+1=>parS S (upI S i k).toNat
theorem zpq (S:List Sc) (i:Int):∀k,upI S i (k+1)=upI S (parS S i.toNat) k
 |0=>rfl
 |k+1=>by rw[upI,zpq S i k];rfl
theorem zpw {S:List Sc} (hF:Fst (parS S) S.length):∀(f:Nat) (i:Int),i<(f:Int)→ -1≤i→i<(S.length:Int)→
 (∀k,k<(upL S f i).length→0≤upI S i k∧upI S i k<(S.length:Int)∧(upL S f i)[k]? =some (upI S i k).toNat)∧upI S i (upL S f i).length= -1
 |0,i,h1,h2,h3=>⟨fun k hk=>by simp[upL]at hk,by show i= -1;omega⟩
 |f+1,i,h1,h2,h3=>by
  by_cases h0:i<0
  ·have e:upL S (f+1) i=[]:=by rw[upL,if_pos h0]
   rw[e];exact⟨fun k hk=>by simp at hk,by show i= -1;omega⟩
  ·have hn:i.toNat<S.length:=by omega
   have hp:parS S i.toNat=S[i.toNat].2.2:=by simp[parS,List.getD,hn]
   have e:upL S (f+1) i=i.toNat::upL S f (parS S i.toNat):=by
    rw[upL,if_neg h0,List.getElem?_eq_getElem hn,hp]
   have hq:=hF i.toNat hn;obtain⟨h4,h5⟩:=zpw hF f (parS S i.toNat) (by omega) hq.1 (by omega);rw[e];refine⟨fun k hk=>?_,by rw[List.length_cons,zpq];exact h5⟩;cases k with
   |zero=>exact⟨by show 0≤i;omega,h3,rfl⟩
   |succ k=>
    rw[zpq,List.getElem?_cons_succ];exact h4 k (by simpa using hk)
theorem zbV {w:World} {b o:Nat} {u:Value} (h:w.cell? ⟨b,o,none⟩=some u):∃C T fr,w.heap[b]? =some (.cells C T fr)∧C[o]? =some u:=by
 unfold World.cell? at h;cases hb:w.heap[b]? with
 |none=>simp[hb]at h
 |some x=>
  simp only[hb]at h;cases x with
  |cells C T fr=>exact⟨C,T,fr,rfl,by simpa using h⟩
  |_=>simp at h
theorem zbU {w:World} {b o:Nat} {u:Value} {C:Array Value} {T:TypeId} {fr:Nat×Nat} (h:w.heap[b]? =some (.cells C T fr)) (hu:C[o]? =some u):w.cell? ⟨b,o,none⟩=some u:=by simp[World.cell?,h,hu]
theorem Same0.cell {w W:World} (h:Same0 w W) {b o:Nat} {u:Value} (hc:w.cell? ⟨b,o,none⟩=some u):W.cell? ⟨b,o,none⟩=some u:=by
 obtain⟨C,T,fr,h1,h2⟩:=zbV hc;exact zbU (h.cells _ _ _ _ h1) h2
theorem SlR.same0 {w W:World} {v:Value} {n:Nat} {xs:List Value} (h:SlR w v n xs) (hs:Same0 w W):SlR W v n xs:=by
 obtain⟨a,cap,hv,h1,h2,h3,h4⟩:=h;refine⟨a,cap,hv,h1,h2,h3,fun hn=>?_⟩;obtain⟨b,o,ha,hc⟩:=h4 hn;exact⟨b,o,ha,fun j u hj=>hs.cell (hc j u hj)⟩
theorem Same0.refl (w:World):Same0 w w:=⟨Nat.le_refl _,fun _ _ _ _ h=>h⟩
theorem Same0.trans {a b c:World} (h:Same0 a b) (k:Same0 b c):Same0 a c:=⟨Nat.le_trans h.size k.size,fun _ _ _ _ hi=>k.cells _ _ _ _ (h.cells _ _ _ _ hi)⟩
theorem Same0.of_below {a b:World} (h:Below a.heap.size a b):Same0 a b:=⟨h.size,fun i _ _ _ hi=>by rw[h.block i (Array.getElem?_eq_some_iff.1 hi).1];exact hi⟩
theorem Same0.turn {w0 W V:World} {B:Nat} {T:TypeId} (h:Same0 w0 W) (hB:w0.heap.size≤B) (ht:TurnI B T W V):Same0 w0 V:=
 ⟨Nat.le_trans h.size ht.size,fun b C T' fr hb=>by rw[ht.low b (by have:=(Array.getElem?_eq_some_iff.1 hb).1;omega)];exact h.cells _ _ _ _ hb⟩
def KpU (N:Nat) (T1 T2:TypeId) (W V:World):Prop:=∀(b:Nat) (C:Array Value) (T:TypeId) (fr:Nat×Nat),(b<N∨(T≠T1∧T≠T2))→W.heap[b]? =some (.cells C T fr)→V.heap[b]? =some (.cells C T fr)
theorem KpU.trans {N:Nat} {T1 T2:TypeId} {A B C:World} (h:KpU N T1 T2 A B) (k:KpU N T1 T2 B C):KpU N T1 T2 A C:=fun b D T fr hT hb=>k b D T fr hT (h b D T fr hT hb)
theorem KpU.same0 {N:Nat} {T1 T2:TypeId} {W V:World} (h:Same0 W V):KpU N T1 T2 W V:=fun b C T fr _ hb=>h.cells b C T fr hb
theorem KpU.below {N:Nat} {T1 T2:TypeId} {W V:World} (h:Below W.heap.size W V):KpU N T1 T2 W V:=KpU.same0 (Same0.of_below h)
theorem KpU.old {w0 W V:World} {T1 T2:TypeId} (h:Same0 w0 W) (k:KpU w0.heap.size T1 T2 W V) (hz:W.heap.size≤V.heap.size):Same0 w0 V:=
 ⟨Nat.le_trans h.size hz,fun b C T fr hb=>k b C T fr (.inl (Array.getElem?_eq_some_iff.1 hb).1) (h.cells _ _ _ _ hb)⟩
attribute [local go_sem] Oper.semAt_some
theorem zfm {W:World} {b:Nat} {x x':Value} {T:TypeId} (h:W.heap[b]? =some (.cells #[x] T (0,0))):(W.setCell ⟨b,0,none⟩ x').heap[b]? =some (.cells #[x'] T (0,0)):=by
 simp[World.setCell,Array.getElem?_modify,h]
theorem zfl {W:World} {b b':Nat} {x':Value} {o:Obj} (hne:b≠b') (h:W.heap[b]? =some o):(W.setCell ⟨b',0,none⟩ x').heap[b]? =some o:=by
 rw[Below.heap_setCell _ _ _ _ hne];exact h
theorem zjh {W:World} {b:Nat} {x:Value} {T:TypeId} (h:W.heap[b]? =some (.cells #[x] T (0,0))):W.cell? ⟨b,0,none⟩=some x∧W.frozen? ⟨b,0,none⟩=false:=⟨by simp[World.cell?,h],by simp[World.frozen?,h]⟩
def upE (L:List Nat) (k:Nat):Array Value:=#[.int .i64 ((L.getD k 0:Nat):Int)]
def zho (bi:Nat) (w:World):Nat:=match w.cell? ⟨bi,0,none⟩with
 |some v=>(intOf v+1).toNat
 |none=>0
theorem zpp (n:Nat) (hn:2≤n) (lp bi bs B N:Nat) (T1 T2:TypeId) (hT1:T1≠3∧T1≠22) (hT2:T2≠3∧T2≠22) (S:List Sc) (i0:Int) (v:Value) (w0 W:World) (J:Nat→World→Prop)
 (hF:Fst (parS S) S.length) (hi0: -1≤i0) (hi1:i0<(S.length:Int)) (hNw:N=w0.heap.size) (hB:N≤B) (hBi:B≤bi) (hbs:bs≠bi) (hs:SlR w0 v S.length (scs S)) (h0w:Same0 w0 W)
 (hJ:∀k X Y,J k X→TurnJ B 3 X Y→J k Y)
 (hY:∀k W1,J k W1→k<(upL S (i0.toNat+1) i0).length→YieldAt Fence.wide (n-1) Tryz.prog lp (upE (upL S (i0.toNat+1) i0) k) W1 fun e W'=>e=.returned (.bool true)∧J (k+1) W'∧(KpU N T1 T2 W1 W'∧W1.heap.size≤W'.heap.size))
 (hci:W.heap[bi]? =some (.cells #[.int .i64 i0] 3 (0,0))) (hcs:W.heap[bs]? =some (.cells #[v] 22 (0,0))) (h0:J 0 W):
 CallsIn Fence.wide n Tryz.prog 286 #[.func (.yield lp) #[] #[],.pointer (some ⟨bi,0,none⟩),.pointer (some ⟨bs,0,none⟩)] W fun e W'=>(∃v,e=.returned v)∧J (upL S (i0.toNat+1) i0).length W':=by
 have hro:Fence.wide.round=none:=rfl;obtain⟨hsp,hend⟩:=zpw hF (i0.toNat+1) i0 (by omega) hi0 hi1;have HSP:=lhd hsp;have HEND:=lhd hend;clear hsp hend;generalize upL S (i0.toNat+1) i0=L at*;obtain⟨a,cap,rfl,hcp,hm⟩:=hs.shape;unfold maxLen at hm;have HS:=lhd hs;have HJ:=lhd hJ;have HY:=lhd hY;have HF:=lhd hF;have HCI:=lhd hci;have HCS:=lhd hcs;have H0W:=lhd h0w;have HT:=lhd (And.intro hT1 hT2);have HN:=lhd hNw;have HI:=lhd (And.intro hi0 hi1);clear hs hJ hY hF hci hcs h0w hT1 hT2 hNw hi0 hi1;refine callsIn_of_wp Tryz.func286 rfl trivial ?_ hro;simp only[Tryz.ntmps286,List.size_toArray,List.length_cons,List.length_nil,Nat.reduceAdd,Nat.reduceSub,Array.replicate_succ,Array.replicate_zero,List.push_toArray,List.append_toArray,List.nil_append,List.cons_append];gi_wp2
 gi_loopw [4] (fun _ wr=>∃k:Nat,k≤L.length∧J k wr∧Same0 w0 wr∧wr.heap[bi]? =some (.cells #[.int .i64 (upI S i0 k)] 3 (0,0))∧wr.heap[bs]? =some (.cells #[.slice a S.length cap] 22 (0,0)))
  (fun _ wr=>zho bi wr)
 case atStart=>exact⟨0,Nat.zero_le _,h0,H0W.out,HCI.out,HCS.out⟩
 case round=>
  obtain⟨k,hk,hjk,hsa,hbi,hbs2⟩:=hrel;obtain⟨ci,fi⟩:=zjh hbi;obtain⟨cs,fs⟩:=zjh hbs2;have HBI:=lhd hbi;have HBS:=lhd hbs2;have HSA:=lhd hsa;have HJK:=lhd hjk;have hme:zho bi wr=(upI S i0 k+1).toNat:=by unfold zho;rw[ci];rfl
  have HME:=lhd hme;clear hbi hbs2 hsa hme;by_cases hlt:k<L.length
  ·obtain⟨q0,q1,q2⟩:=HSP.out k hlt;obtain⟨fn,tmps,assign,body,hy,hR⟩:=HY.out k wr hjk hlt;have HR:=lhd hR;have HLD:=lhd (show(L.getD k 0:Nat)=(upI S i0 k).toNat by rw[List.getD,q2];rfl);have HNX:=lhd (show upI S i0 (k+1)=parS S (upI S i0 k).toNat from rfl);obtain⟨m,hm2⟩:=Int.eq_ofNat_of_zero_le q0;rw[hm2]at q1 HNX ci HBI HME HLD;rw[Int.toNat_natCast]at HNX HLD;have hmS:m<S.length:=by omega
   unfold upE at hy;rw[HLD.out]at hy;clear q0 q2 hR hjk hm2 q1;have h1n:1≤n:=by omega
   gi_wp2
   refine HR.out.mono ?_;rintro e W3 ⟨rfl,hj3,hk3,hz3⟩;have HJ3:=lhd hj3;have HSA3:=lhd (show Same0 w0 W3 from KpU.old HSA.out (HN.out▸hk3) hz3);have HBI3:=lhd (hk3 bi _ 3 _ (.inr ⟨fun e=>HT.out.1.1 e.symm,fun e=>HT.out.2.1 e.symm⟩) HBI.out);have HBS3:=lhd (hk3 bs _ 22 _ (.inr ⟨fun e=>HT.out.1.2 e.symm,fun e=>HT.out.2.2 e.symm⟩) HBS.out);clear hj3 hk3 hz3 ci fi cs fs hy;obtain⟨ci,fi⟩:=zjh HBI3.out;obtain⟨cs,fs⟩:=zjh HBS3.out;obtain⟨b,o,rfl,hcell⟩:=(HS.out.same0 HSA3.out).scs hmS;have hps:parS S m=S[m].2.2:=by simp[parS,List.getD,hmS]
   have HQ:=lhd (HF.out m hmS);rw[hps]at HNX HQ;generalize S[m]=x at hcell HNX HQ;obtain⟨nm,ty,pa⟩:=x;dsimp only at HNX HQ;have d2:W3.cell? ⟨b,o+m*3+2,none⟩=some (.int .i64 pa):=hcell 2 _ rfl;clear hcell hps;gi_wp2
   go_roundw;case rel=>exact⟨k+1,hlt,HJ.out _ _ _ HJ3.out (TurnJ.setCell HBI3.out hBi 0 _),HSA3.out.turn (HN.out▸hB) (TurnJ.setCell (T:=3) HBI3.out hBi 0 _).i,by rw[HNX.out];exact zfm HBI3.out,zfl hbs HBS3.out⟩
   case measure=>
    rw[HME.out];have e:((W3.setCell ⟨bi,0,none⟩ (.int .i64 pa)).cell? ⟨bi,0,none⟩)=some (.int .i64 pa):=(zjh (zfm (x':=.int .i64 pa) HBI3.out)).1;unfold zho;rw[e];have:=HQ.out;simp[intOf];omega
  ·obtain rfl:k=L.length:=by omega
   have hend:=HEND.out;rw[hend]at ci;clear hend;gi_wp2
   go_end0
   exact⟨⟨_,rfl⟩,HJK.out⟩
attribute [local go_sem] Oper.semAt_some
def strV (s:Bs):Value:=.string (bsB s)
def strs (l:List Bs):List Value:=l.map strV
theorem znZ:(Tryz.prog.info? 9).map (fun i=>(i.zero,i.size,i.bytes))=some (some (.string ⟨#[]⟩),1,16):=by kernel_rfl
theorem zjI {W V:World} {B B' e size n:Nat} {v:Value} {xs:List Value} {T:TypeId} (h:W.ownsRow B e size v n xs) (ht:TurnI B' T W V) (hne:e≠T):V.ownsRow B e size v n xs:=by
 obtain⟨h1,h2⟩:=h;refine⟨h1,?_⟩;rcases h2 with h2|⟨g,cap,cur,e0,hb,hg,hr⟩
 ·exact .inl h2
 ·exact .inr ⟨g,cap,cur,e0,hb,ht.cells _ _ _ _ hne hg,hr⟩
theorem zjF {W V:World} {B e size n:Nat} {v:Value} {xs:List Value} (h:W.ownsRow B e size v n xs) (ht:Same0 W V):V.ownsRow B e size v n xs:=by
 obtain⟨h1,h2⟩:=h;refine⟨h1,?_⟩;rcases h2 with h2|⟨g,cap,cur,e0,hb,hg,hr⟩
 ·exact .inl h2
 ·exact .inr ⟨g,cap,cur,e0,hb,ht.cells _ _ _ _ hg,hr⟩
theorem zbe {B:Nat} {w W V:World} {T:TypeId} (h:Below B w W) (ht:TurnI B T W V):Below B w V:=
 ⟨ht.os.trans h.os,ht.tape.trans h.tape,ht.output.trans h.output,Nat.le_trans h.size ht.size,fun b hb=>(ht.low b hb).trans (h.block b hb)⟩
structure PtI (w:World) (v:Value) (nms:List Bs) (vo:Value) (W:World):Prop where
 bs:W.heap[w.heap.size]? =some (.cells #[v] 22 (0,0))
 bo:W.heap[w.heap.size+1]? =some (.cells #[vo] 171 (0,0))
 o:W.ownsRow w.heap.size 9 1 vo nms.length (strs nms)
 b:Below w.heap.size w W
theorem PtI.turn {w W V:World} {v vo:Value} {nms:List Bs} (h:PtI w v nms vo W) (ht:TurnI w.heap.size 3 W V):PtI w v nms vo V:=
 ⟨ht.cells _ _ _ _ (by decide) h.bs,ht.cells _ _ _ _ (by decide) h.bo,zjI h.o ht (by decide),zbe h.b ht⟩
theorem PtI.same {w W V:World} {v vo:Value} {nms:List Bs} (h:PtI w v nms vo W) (hb:Below W.heap.size W V):PtI w v nms vo V:=
 ⟨(Same0.of_below hb).cells _ _ _ _ h.bs,(Same0.of_below hb).cells _ _ _ _ h.bo,zjF h.o (Same0.of_below hb),h.b.trans (hb.mono h.b.size)⟩
def nmS (S:List Sc) (j:Nat):Bs:=(S.getD j ([],0,0)).1
theorem PtI.add {w W W':World} {v vo v':Value} {nms:List Bs} {nm:Bs} (h:PtI w v nms vo W) (ho:W'.ownsRow w.heap.size 9 1 v' (nms.length+1) (strs nms++ [strV nm])) (hg:W.grownBy W' vo.ownBlock):
 PtI w v (nms++ [nm]) v' (W'.setCell ⟨w.heap.size+1,0,none⟩ v')∧W'.cell? ⟨w.heap.size,0,none⟩=some v∧W'.frozen? ⟨w.heap.size+1,0,none⟩=false∧W'.cell? ⟨w.heap.size+1,0,none⟩=some vo∧
  KpU w.heap.size 9 171 W (W'.setCell ⟨w.heap.size+1,0,none⟩ v')∧W.heap.size≤(W'.setCell ⟨w.heap.size+1,0,none⟩ v').heap.size∧KeepsOthers W (W'.setCell ⟨w.heap.size+1,0,none⟩ v'):=by
 have hne:∀(i:Nat) (D:Array Value) (T:TypeId) (fr:Nat×Nat),W.heap[i]? =some (.cells D T fr)→T≠9→W'.heap[i]? =some (.cells D T fr):=by
  intro i D T fr hi hT
  rw[hg.block i (Array.getElem?_eq_some_iff.1 hi).1 (fun q=>by
   rcases h.o.2 with⟨rfl,-⟩|⟨g',cap',cur,rfl,-,hgb,-⟩
   ·cases q
   ·injection q with q;subst q;rw[hgb]at hi;injection hi with hi;injection hi with _ h5 _;exact hT h5.symm)]
  exact hi
 have h1:=hne _ _ _ _ h.bs (by decide);have h2:=hne _ _ _ _ h.bo (by decide);obtain⟨c1,f1⟩:=zjh h1;obtain⟨c2,f2⟩:=zjh h2;have hb:Below w.heap.size w W':=h.b.grown hg (h.b.size) (fun k hk=>(h.o.lt _ hk).1);refine⟨⟨zfl (by omega) h1,zfm h2,?_,hb.setCell (p:=⟨w.heap.size+1,0,none⟩) (by show w.heap.size≤w.heap.size+1;omega) _⟩,c1,f2,c2,?_,?_,?_⟩
 ·rw[List.length_append,List.length_singleton];have e:strs (nms++ [nm])=strs nms++ [strV nm]:=by simp[strs]
  rw[e];refine ownsRow_setCell_other (a:=⟨w.heap.size+1,0,none⟩) ho (fun q=>?_) _;rcases ho.2 with⟨rfl,-⟩|⟨g',cap',cur,rfl,-,hgb,-⟩
  ·cases q
  ·injection q with q;subst q;rw[hgb]at h2;injection h2 with h2;injection h2 with _ h5 _;exact absurd h5 (by decide)
 ·intro b C T fr hT hb';rcases hT with hT|⟨hT1,hT2⟩
  ·have e1:W'.heap[b]? =W.heap[b]? :=hg.block b (Array.getElem?_eq_some_iff.1 hb').1 (fun q=>by have:=(h.o.lt _ q.symm).1;omega);exact zfl (by omega) (e1.trans hb')
  ·have h3:=hne _ _ _ _ hb' hT1;refine zfl ?_ h3;rintro rfl;rw[h2]at h3;injection h3 with h3;injection h3 with _ h5 _;exact hT2 h5.symm
 ·have:=hg.size;simpa using this
 ·refine(KeepsOthers.of_grownBy hg fun j o ej hj=>?_).trans (KeepsOthers.setCell _ _ _);rcases h.o.2 with⟨rfl,_⟩|⟨g,cap,cur,rfl,_,hgb,_⟩
  ·simp[Value.ownBlock]at ej
  ·obtain rfl:g=j:=by simpa[Value.ownBlock] using ej
   rw[hgb]at hj;cases hj;rfl
def zam (w:World) (v:Value) (S:List Sc) (L:List Nat) (k:Nat) (W:World):Prop:=∃vo,PtI w v ((L.take k).map (nmS S)) vo W
theorem zaQ:∀(s:Bs),Lib.containsAny s [92,46,91,93]=s.any fun d=>d==92||d==46||d==91||d==93
 | []=>rfl
 |b::l=>by
  have ih:=zaQ l;unfold Lib.containsAny at ih⊢;rw[List.any_cons,←ih,Lib.indexAny];have hge:=Lib.indexAny_ge [92,46,91,93] l
  have hb: [92,46,91,93].contains b=(b==92||b==46||b==91||b==93):=by
   simp only[List.contains_cons,List.contains_nil,Bool.or_false,Bool.or_assoc]
  rw[hb];cases h:(b==92||b==46||b==91||b==93)
  ·rw[if_neg (by simp),Bool.false_or];by_cases h1:Lib.indexAny l [92,46,91,93]= -1
   ·rw[if_pos (by simp[h1]),h1]
   ·rw[if_neg (by simp[h1])];rw[Bool.eq_iff_iff,decide_eq_true_iff,decide_eq_true_iff];omega
  ·rw[if_pos rfl,Bool.true_or];rfl
theorem zhX (s:ByteArray) (w:World) (hs:s.data.toList.all prn=true) (hm:s.size≤1000):
 Calls Tryz.prog 263 #[.string s,.string ⟨#[92,46,91,93]⟩] w fun e w'=>e=.returned (.bool (s.data.toList.any fun d=>d==92||d==46||d==91||d==93))∧Below w.heap.size w w':=by
 refine(Tryz.strings_ContainsAny_laid s ⟨#[92,46,91,93]⟩ w (by omega) (by decide) ?_ ?_).mono ?_
 ·intro j b hb;have:=List.all_eq_true.1 hs b (List.mem_of_getElem? hb);unfold prn at this;simp at this;omega
 ·intro j b hb;have:b∈([92,46,91,93]:List UInt8):=List.mem_of_getElem? hb;revert this
  simp only[List.mem_cons,List.mem_nil_iff,or_false];rintro(rfl|rfl|rfl|rfl)<;>decide
 ·rintro e w' ⟨rfl,hb⟩;exact⟨by rw[←zaQ],hb⟩
theorem zoZ {s:ByteArray} (h:s.size≠0):s.toList.isEmpty=false:=by
 rw[ByteArray.toList_eq];have h1:s.data.toList.length=s.size:=by simp
 cases hh:s.data.toList with
 |nil=>rw[hh]at h1;simp at h1;omega
 |cons _ _=>rfl
theorem zpi (c:UInt8) (n:Nat) (hn:n<256):((c.toNat:Int)==(n:Int))=decide (c=UInt8.ofNat n):=by
 rw[Bool.eq_iff_iff,beq_iff_eq,decide_eq_true_iff];constructor
 ·intro h;have:c.toNat=n:=by omega
  rw[←this,UInt8.ofNat_toNat]
 ·rintro rfl;simp;omega
theorem zhV (s:ByteArray) (w:World) (hm:s.size≤100000):Calls Tryz.prog 205 #[.string s] w fun e w'=>e=.returned (.bool (zhM s.data.toList))∧Below w.heap.size w w':=by
 have HP:=lhd (zhZ s w (by omega));obtain⟨R,hR⟩:∃R,R=zhM s.data.toList:=⟨_,rfl⟩;rw[←hR];have hls:s.data.toList.length=s.size:=by simp
 by_cases h0:s.size=0
 ·obtain rfl:s=⟨#[]⟩:=by
   have:s.data=#[]:=Array.eq_empty_of_size_eq_zero h0;cases s;simp_all
  have HR:=lhd (show R=false by rw[hR];rfl);have hb1:(⟨#[]⟩:ByteArray).toList.isEmpty=true:=by rw[ByteArray.toList_eq];rfl
  clear hR hls h0 hm HP;go_enter Tryz.func205,Tryz.ntmps205;go_wp2_with fail;go_ret;exact⟨zli HR.out.symm,Below.refl _ _⟩
 have hb1:=zoZ h0;by_cases h32:32<s.size
 ·have HR:=lhd (show R=false by
   rw[hR];unfold zhM;rw[decide_eq_false (show ¬s.data.toList.length≤32 by omega)];simp)
  have hb2:decide ((32:Int)<(s.size:Int))=true:=by rw[decide_eq_true_iff];omega
  clear hR hls h0 h32 HP;go_enter Tryz.func205,Tryz.ntmps205;go_wp2_with fail;go_ret;exact⟨zli HR.out.symm,Below.refl _ _⟩
 have hb2:decide ((32:Int)<(s.size:Int))=false:=by rw[decide_eq_false_iff_not];omega
 cases hp:s.data.toList.all prn
 ·have HR:=lhd (show R=false by
   rw[hR];unfold zhM;rw[hp];simp)
  rw[hp]at HP;clear hR hls h0 h32 hp;go_enter Tryz.func205,Tryz.ntmps205;go_wp2_with fail;refine HP.out.mono ?_;rintro e w1 ⟨rfl,rfl⟩;go_wp2_with fail;go_ret;exact⟨zli HR.out.symm,Below.refl _ _⟩
 rw[hp]at HP
 obtain⟨c,t,hct⟩:∃c t,s.data.toList=c::t:=by
  cases hh:s.data.toList with
  |nil=>rw[hh]at hls;simp at hls;omega
  |cons c t=>exact⟨c,t,rfl⟩
 have hR2:R=if c=92 then decide (2≤s.size)else decide (c≠36)&&!s.data.toList.any fun d=>d==92||d==46||d==91||d==93:=by
  rw[hR];unfold zhM;rw[hp,decide_eq_true (show s.data.toList≠ []by rw[hct];simp),decide_eq_true (show s.data.toList.length≤32 by omega)];rw[hct];have hl2:(c::t).length=s.size:=by rw[←hct];exact hls
  rw[hl2];simp only[Bool.true_and]
 have hcix:∀h:0<s.size,s[0]'h=c:=fun h=>by
  have:s[0]=s.data.toList[0]'(by simpa using h):=by simp;rfl
  rw[this];simp[hct]
 have h00:0<s.size:=by omega
 have HA:=lhd (fun W=>zhX s W hp (by omega));have e92:=zpi c 92 (by decide);have e36:=zpi c 36 (by decide);clear hR hct;by_cases h92:c=92
 ·have b3:((c.toNat:Int)==92)=true:=by rw[show(92:Int)=((92:Nat):Int)from rfl,e92];simp[h92]
  have HR:=lhd (show R=decide (2≤s.size)by rw[hR2,if_pos h92]);clear hR2 hls h0 h32 hp e92 e36 HA h92;by_cases h2:2≤s.size
  ·have b4:decide ((2:Int)≤(s.size:Int))=true:=by rw[decide_eq_true_iff];omega
   have HR3:=lhd (show R=true by rw[HR.out,decide_eq_true h2]);clear h2;go_enter Tryz.func205,Tryz.ntmps205;go_wp2_with fail;refine HP.out.mono ?_;rintro e w1 ⟨rfl,rfl⟩;go_wp2_with fail;go_ret;exact⟨zli HR3.out.symm,Below.refl _ _⟩
  ·have b4:decide ((2:Int)≤(s.size:Int))=false:=by rw[decide_eq_false_iff_not];omega
   have HR3:=lhd (show R=false by rw[HR.out,decide_eq_false h2]);clear h2;go_enter Tryz.func205,Tryz.ntmps205;go_wp2_with fail;refine HP.out.mono ?_;rintro e w1 ⟨rfl,rfl⟩;go_wp2_with fail;go_ret;exact⟨zli HR3.out.symm,Below.refl _ _⟩
 ·have b3:((c.toNat:Int)==92)=false:=by rw[show(92:Int)=((92:Nat):Int)from rfl,e92];simpa using h92
  rw[if_neg h92]at hR2;by_cases h36:c=36
  ·have b4:((c.toNat:Int)==36)=true:=by rw[show(36:Int)=((36:Nat):Int)from rfl,e36];simp[h36]
   have b5:((c.toNat:Int) !=36)=false:=by rw[bne,b4];rfl
   have HR:=lhd (show R=false by rw[hR2,h36];rfl);clear hR2 hls h0 h32 hp e92 e36 HA h92 h36;go_enter Tryz.func205,Tryz.ntmps205;go_wp2_with fail;refine HP.out.mono ?_;rintro e w1 ⟨rfl,rfl⟩;go_wp2_with fail;go_ret;exact⟨zli HR.out.symm,Below.refl _ _⟩
  ·have b4:((c.toNat:Int)==36)=false:=by rw[show(36:Int)=((36:Nat):Int)from rfl,e36];simpa using h36
   have b5:((c.toNat:Int) !=36)=true:=by rw[bne,b4];rfl
   rw[decide_eq_true h36,Bool.true_and]at hR2;have HR:=lhd hR2;generalize (s.data.toList.any fun d=>d==92||d==46||d==91||d==93)=q at HA HR;clear hR2 hls h0 h32 hp e92 e36 h92 h36;go_enter Tryz.func205,Tryz.ntmps205;go_wp2_with fail;refine HP.out.mono ?_;rintro e w1 ⟨rfl,rfl⟩;go_wp2_with fail;refine(HA.out _).mono ?_;rintro e w1 ⟨rfl,hb⟩;go_wp2_with fail;go_ret;exact⟨zli HR.out.symm,hb⟩
theorem znN (base g c a b m:Nat) (l X A Y B Z:List Vr) (w:World) (hg:SO base g l.length c w l) (hl:l=X++(A++(Y++(B++Z)))) (hA:A.length=m) (hB:B.length=m) (ha:X.length=a) (hb:X.length+A.length+Y.length=b) (hn:l.length≤1000):
 Calls Tryz.prog 307 #[.slice (some ⟨g,0,none⟩) l.length c,.int .i64 a,.int .i64 b,.int .i64 m,(.func (.func 166) #[] #[])] w fun e w'=>
  e=.returned (.tuple #[])∧SO base g l.length c w' (X++(B++(Y++(A++Z))))∧Below base w w':=by
 have hlen:l.length=X.length+A.length+Y.length+B.length+Z.length:=by rw[hl];simp only[List.length_append];omega
 have hlo:=hg.lo;have HCAP:=lhd hg.cap;have H0:=lhd (show SO base g l.length c w (swpd X A Y B Z 0)by rw[zoq,←hl];exact hg);have hAB:A.length=B.length:=by omega
 generalize hN:l.length=n at*;clear hg hl;go_enter Tryz.func307,Tryz.ntmps307;go_wp2_with fail;go_loopw [10] (fun i wr=>∃j:Nat,j≤m∧i=.int .i64 j∧SO base g n c wr (swpd X A Y B Z j)∧Below base w wr) (fun i _=>m-(intOf i).toNat)
 case atStart=>exact⟨0,Nat.zero_le _,rfl,H0.out,Below.refl _ _⟩
 case round=>
  obtain⟨j,hj,rfl,hs,hbw⟩:=hrel;have HB:=lhd hbw;clear hbw;by_cases hlt:j<m
  ·obtain⟨X1,Y1,Z1,e1,e2,e3,e4⟩:=zop (X:=X) (Y:=Y) (Z:=Z) hAB (i:=j) (by omega);rw[e3]at hs;have HE4:=lhd e4;generalize A[j]'(by omega)=x at hs HE4;generalize B[j]'(by omega)=y at hs HE4;have HSW:=lhd (hs.swap (p:=a+j) (q:=b+j) (by omega) (by omega));have hz1:=hs.at;rw[show X1++x::(Y1++y::Z1)=(X1++x::Y1)++y::Z1 by simp]at hs;have hz2:=hs.at;rw[List.length_append,List.length_cons,show X1.length+(Y1.length+1)=b+j by omega]at hz2;rw[show X1.length=a+j by omega]at hz1;obtain⟨p0,p1,p2,p3,p4,p5,p6⟩:=hz1;obtain⟨q0,q1,q2,q3,q4,q5,q6⟩:=hz2;have HS:=lhd hs;have hfz:=zjz hs;have hw1:IntKind.i64.wrap ((a:Int)+(j:Int))=(a:Int)+(j:Int):=IntWalk.i64_in _ (by omega);have hw2:IntKind.i64.wrap ((b:Int)+(j:Int))=(b:Int)+(j:Int):=IntWalk.i64_in _ (by omega);have hw3:IntKind.i64.wrap ((j:Int)+1)=(j:Int)+1:=IntWalk.i64_in _ (by omega);have h1:(0:Int)≤(a:Int)+(j:Int):=by omega
   have h2:(0:Int)≤(b:Int)+(j:Int):=by omega
   have h3:(a:Int)+(j:Int)<(n:Int):=by omega
   have h4:(b:Int)+(j:Int)<(n:Int):=by omega
   have h5:((a:Int)+(j:Int)).toNat=a+j:=by omega
   have h6:((b:Int)+(j:Int)).toNat=b+j:=by omega
   have HE:=lhd (And.intro e1 e2);have hab:¬a=b:=by omega
   have hba:¬b=a:=by omega
   clear hs e1 e2 e3 e4 hAB hA hB ha hb hlen;go_upto_region 3 with fail;go_region
   clear p0 p1 p2 p3 p4 p5 p6 q0 q1 q2 q3 q4 q5 q6 hw1 hw2 h1 h2 h3 h4 h5 h6 hab hba hfz;go_wp2_with fail;go_roundw;case rel=>exact⟨j+1,by omega,by go_num,by rw[HE4.out];exact HSW.out.1.drew,(HB.out.trans HSW.out.2).drew⟩
   case measure=>simp[intOf];omega
  ·obtain rfl:j=m:=by omega
   have HF:=lhd (show SO base g n c wr (X++(B++(Y++(A++Z))))by rw[←hA,zoo hAB]at hs;exact hs);clear hs;go_wp2_with fail;go_end0
   exact⟨rfl,HF.out,HB.out⟩
def vk (v:Vr):Int:=v.sc
theorem SO.drw {base g n c:Nat} {w:World} {l:List Vr} (h:SO base g n c w l) (m:Nat):SO base g n c (w.drewN m) l:=h
theorem za8 {B:Nat} {a w:World} (h:RowKit.Below B a w) (m:Nat):RowKit.Below B a (w.drewN m):=⟨h.os,h.tape,h.output,h.size,h.block⟩
def zab (x y:Vr) (w:World) (e:Ending) (w':World):Prop:=∃z:Int,e=.returned (.int .i64 z)∧decide (z<0)=decide (vk x<vk y)∧Below w.heap.size w w'
theorem zcJ (x y:Int):decide (Lib.compareInt x y<0)=decide (x<y):=by
 unfold Lib.compareInt;split
 ·rename_i h;rw[decide_eq_true h];rfl
 ·rename_i h
  rw[decide_eq_false h];split<;>rfl
theorem znF (x y:Vr) (w:World):Calls Tryz.prog 166 #[vrV x,vrV y] w (zab x y w):=by
 have hb:Below w.heap.size w ((w.alloc (.cells #[.string (bsB x.nm),.int .i64 x.ty,.int .i64 x.sc,.int .i64 x.sg,.bool x.rg,.int .i64 x.mb,.int .i64 x.lb] 42)).alloc (.cells #[.string (bsB y.nm),.int .i64 y.ty,.int .i64 y.sc,.int .i64 y.sg,.bool y.rg,.int .i64 y.mb,.int .i64 y.lb] 42)):=((Below.refl _ _).alloc (Nat.le_refl _) _).alloc (by simp) _;have HB:=lhd hb;clear hb;go_enter Tryz.func166,Tryz.ntmps166;go_wp2_with fail;refine(Tryz.cmp_Compare_int _ _ _).mono ?_;rintro e w1 ⟨rfl,hw⟩;have hw':=hw.symm;subst hw';go_wp2_with fail;go_ret;exact⟨_,rfl,zcJ _ _,HB.out⟩
theorem zf1 {Q A1 A2:List Vr} {x:Vr} (hQ:Srt vk Q) (h:Q=A1++A2) (h2:∀y∈A2,vk x<vk y) (h1:∀A y,A1=A++ [y]→¬vk x<vk y):mrg vk Q [x]=A1++x::A2:=by
 subst h;refine zhE hQ (fun y hy=>?_) h2;obtain⟨A,z,rfl⟩:∃A z,A1=A++ [z]:=⟨A1.dropLast,A1.getLast (fun e=>by rw[e]at hy;cases hy),(List.dropLast_concat_getLast _).symm⟩;have h3:=h1 A z rfl;have hp:=(List.pairwise_append.1 hQ).1;rcases List.mem_append.1 hy with hy|hy
 ·have:=(List.pairwise_append.1 hp).2.2 y hy z (by simp);omega
 ·rw[List.mem_singleton]at hy;subst hy;omega
theorem zgk (M:List Vr):zge vk (M.take 1)=M.take 1:=by
 cases M with
 |nil=>rfl
 |cons x l=>rfl
theorem znH (base g c a b:Nat) (l P M S:List Vr) (w:World) (hg:SO base g l.length c w l) (hl:l=P++(M++S)) (hp:P.length=a) (hM:a+M.length=b) (hn:l.length≤1000):
 Calls Tryz.prog 266 #[.slice (some ⟨g,0,none⟩) l.length c,.int .i64 a,.int .i64 b,(.func (.func 166) #[] #[])] w fun e w'=>
  e=.returned (.tuple #[])∧SO base g l.length c w' (P++(zge vk M++S))∧Below base w w':=by
 have hlen:l.length=P.length+M.length+S.length:=by rw[hl];simp only[List.length_append];omega
 have H0:=lhd (show SO base g l.length c w (P++(zge vk (M.take 1)++(M.drop 1++S)))by rw[zgk,←List.append_assoc (M.take 1),List.take_append_drop,←hl];exact hg);have hw0:IntKind.i64.wrap ((a:Int)+1)=(a:Int)+1:=IntWalk.i64_in _ (by omega);have HCAP:=lhd hg.cap;generalize hN:l.length=n at*;clear hg hl;go_enter Tryz.func266,Tryz.ntmps266;go_wp2_with fail;clear hw0;go_loopw [8] (fun vi wr=>∃q:Nat,vi=.int .i64 ((a:Int)+(q:Int))∧1≤q∧(q≤M.length∨q=1)∧SO base g n c wr (P++(zge vk (M.take q)++(M.drop q++S)))∧Below base w wr) (fun vi _=>b-(intOf vi).toNat)
 case atStart=>exact⟨1,by simp,Nat.le_refl _,.inr rfl,H0.out,Below.refl _ _⟩
 case round=>
  obtain⟨q,rfl,hq1,hq2,hs,hbw⟩:=hrel;have HB:=lhd hbw;clear hbw;by_cases hlt:q<M.length
  ·have hd0:decide ((a:Int)+(q:Int)<(b:Int))=true:=by rw[decide_eq_true_iff];omega
   have hwq:IntKind.i64.wrap ((a:Int)+(q:Int)+1)=(a:Int)+(q:Int)+1:=IntWalk.i64_in _ (by omega);rw[List.drop_eq_getElem_cons hlt]at hs;have HX:=lhd (show zge vk (M.take (q+1))=mrg vk (zge vk (M.take q)) [M[q]]by rw[List.take_succ_eq_append_getElem hlt];exact zgm _ _);have HQS:=lhd (zgn (k:=vk) (M.take q));have hQl:(zge vk (M.take q)).length=q:=by rw[zgi,List.length_take];omega
   generalize M[q]=x at hs HX;generalize zge vk (M.take q)=Q at hs HX HQS hQl;have H1:=lhd hs;have hzl:=hs.len;simp only[List.length_append,List.length_cons]at hzl;clear hs;go_wp2_with fail;clear hd0;go_loopw [9] (fun vj wj=>∃(j:Nat) (A1 A2:List Vr),vj=.int .i64 (j:Int)∧a+A1.length=j∧Q=A1++A2∧(∀y∈A2,vk x<vk y)∧SO base g n c wj (P++(A1++x::(A2++(M.drop (q+1)++S))))∧Below base w wj) (fun vj _=>(intOf vj).toNat-a)
   case atStart=>exact⟨a+q,Q,[],by simp,by rw[hQl],by simp,by simp,by simpa using H1.out,HB.out⟩
   case round=>
    obtain⟨j,A1,A2,rfl,hj,hsp,hgt,hs,hbj⟩:=hrel;have HBJ:=lhd hbj;have HSP:=lhd hsp;have HGT:=lhd hgt;clear hbj hsp hgt;by_cases hA:A1=[]
    ·subst hA;have hja:j=a:=by simpa using hj.symm
     subst hja;have hdj:decide ((j:Int)<(j:Int))=false:=by simp
     have HF:=lhd (show SO base g n c wr (P++(zge vk (M.take (q+1))++(M.drop (q+1)++S)))by
      rw[HX.out,zf1 HQS.out HSP.out HGT.out (fun A y e=>by simp at e)];simpa using hs)
     clear hs;go_wp2_with fail;go_quiet (fail);go_wp2_with fail;go_roundw;case rel=>exact⟨q+1,by simp;omega,by omega,.inl (by omega),SO.drw HF.out _,za8 HBJ.out _⟩
     case measure=>simp[intOf];omega
    ·obtain⟨A,y,rfl⟩:∃A y,A1=A++ [y]:=⟨A1.dropLast,A1.getLast hA,(List.dropLast_concat_getLast _).symm⟩;rw[List.length_append,List.length_singleton]at hj;obtain⟨k,rfl⟩:∃k,j=k+1:=⟨j-1,by omega⟩;clear hA;rw[show P++(A++ [y]++x::(A2++(M.drop (q+1)++S)))=(P++A)++y::([]++x::(A2++(M.drop (q+1)++S)))by simp]at hs;have hPA:(P++A).length=k:=by rw[List.length_append];omega
     have hkn:k+1<n:=by have:=hs.len;simp only[List.length_append,List.length_cons,List.length_nil]at this hPA;omega
     have hd1:decide ((a:Int)<(k:Int)+1)=true:=by rw[decide_eq_true_iff];omega
     have hz:=hs.at;rw[hPA]at hz;have hs':=hs;rw[show(P++A)++y::([]++x::(A2++(M.drop (q+1)++S)))=(P++(A++ [y]))++x::(A2++(M.drop (q+1)++S))by simp]at hs';have hz':=hs'.at;rw[show(P++(A++ [y])).length=k+1 by simp only[List.length_append,List.length_singleton]at hPA⊢;omega]at hz';obtain⟨y0,y1,y2,y3,y4,y5,y6⟩:=hz;obtain⟨x0,x1,x2,x3,x4,x5,x6⟩:=hz';have HS:=lhd hs;have HPA:=lhd hPA;have HLO:=lhd (show base≤wr.drew.heap.size from Nat.le_of_lt (Nat.lt_of_le_of_lt hs.lo.1 hs.lo.2));have h1:(0:Int)≤(k:Int)+1:=by omega
     have h2:(k:Int)+1<(n:Int):=by omega
     have h3:((k:Int)+1).toNat=k+1:=by omega
     have h4:(0:Int)≤(k:Int):=by omega
     have h5:(k:Int)<(n:Int):=by omega
     have hwk:IntKind.i64.wrap ((k:Int)+1-1)=(k:Int):=by rw[IntWalk.i64_in _ (by omega)];omega
     have hwk2:IntKind.i64.wrap (k:Int)=(k:Int):=IntWalk.i64_in _ (by omega);have HL:=lhd (show a+A.length=k∧a+M.length=b∧q<M.length∧k+1<n∧n≤1000 from⟨by omega,hM,hlt,hkn,hn⟩);clear hs hs' hPA hkn hp hM hlen hzl hQl hj hlt hN hq1 hq2;by_cases hc:vk x<vk y
     ·have HC:=lhd (show decide (vk x<vk y)=true from decide_eq_true hc)
      have HGT2:=lhd (show ∀z∈y::A2,vk x<vk z from fun z hz=>by
       rcases List.mem_cons.1 hz with rfl|hz
       ·exact hc
       ·exact HGT.out z hz)
      clear hc;go_wp2_with fail
      go_region_held3 (fun w'=>w'.cell? ⟨g,(k+1)*7,none⟩=some (.string (bsB x.nm))∧w'.cell? ⟨g,(k+1)*7+1,none⟩=some (.int .i64 x.ty)∧w'.cell? ⟨g,(k+1)*7+2,none⟩=some (.int .i64 x.sc)∧w'.cell? ⟨g,(k+1)*7+3,none⟩=some (.int .i64 x.sg)∧w'.cell? ⟨g,(k+1)*7+4,none⟩=some (.bool x.rg)∧w'.cell? ⟨g,(k+1)*7+5,none⟩=some (.int .i64 x.mb)∧w'.cell? ⟨g,(k+1)*7+6,none⟩=some (.int .i64 x.lb)∧w'.cell? ⟨g,k*7,none⟩=some (.string (bsB y.nm))∧w'.cell? ⟨g,k*7+1,none⟩=some (.int .i64 y.ty)∧w'.cell? ⟨g,k*7+2,none⟩=some (.int .i64 y.sc)∧w'.cell? ⟨g,k*7+3,none⟩=some (.int .i64 y.sg)∧w'.cell? ⟨g,k*7+4,none⟩=some (.bool y.rg)∧w'.cell? ⟨g,k*7+5,none⟩=some (.int .i64 y.mb)∧w'.cell? ⟨g,k*7+6,none⟩=some (.int .i64 y.lb))
       (first|exact⟨x0,x1,x2,x3,x4,x5,x6,y0,y1,y2,y3,y4,y5,y6⟩|exact⟨u0,u1,u2,u3,u4,u5,u6,v0,v1,v2,v3,v4,v5,v6⟩|go_keep)
       (first
         |(go_at_call 166;refine(znF x y _).mono ?_;rintro e w2 ⟨z,rfl,hz,hb2⟩;rw[HC.out]at hz;have hs2:=SO.after HS.out.drew hb2;have HS2:=lhd hs2;have HB2:=lhd (HBJ.out.drew.trans (hb2.mono HLO.out));have hqa:=hs2.at;rw[HPA.out]at hqa;have hs3:=hs2;rw[show(P++A)++y::([]++x::(A2++(M.drop (q+1)++S)))=(P++(A++ [y]))++x::(A2++(M.drop (q+1)++S))by simp]at hs3;have hqb:=hs3.at;rw[show(P++(A++ [y])).length=k+1 by have:=HPA.out;simp only[List.length_append,List.length_singleton]at this⊢;omega]at hqb;obtain⟨v0,v1,v2,v3,v4,v5,v6⟩:=hqa;obtain⟨u0,u1,u2,u3,u4,u5,u6⟩:=hqb;clear hb2 hs2 hs3)
         |fail "no arm")
      have hsw:=HS2.out.swap2 (p:=k) (q:=k+1) HPA.out (by rw[HPA.out];rfl);have HSW:=lhd hsw;have hfz:=zjz HS2.out;have hab:¬k+1=k:=by omega
      have hba:¬k=k+1:=by omega
      clear hsw;go_upto_region 6 with fail;go_region
      clear u0 u1 u2 u3 u4 u5 u6 v0 v1 v2 v3 v4 v5 v6 x0 x1 x2 x3 x4 x5 x6 y0 y1 y2 y3 y4 y5 y6 hfz hab hba h1 h2 h3 h4 h5;go_wp2_with fail;go_roundw
      case rel=>
       refine⟨k,A,y::A2,rfl,HL.out.1,by rw[HSP.out];simp,HGT2.out,?_,(HB2.out.trans HSW.out.2).drew⟩;have h9:=HSW.out.1.drew;rw[show(P++A)++x::([]++y::(A2++(M.drop (q+1)++S)))=P++(A++x::((y::A2)++(M.drop (q+1)++S)))by simp]at h9;exact h9
      case measure=>
       have h9:=HL.out.1;simp[intOf];omega
     ·have HC:=lhd (show decide (vk x<vk y)=false from decide_eq_false hc)
      have HF:=lhd (show SO base g n c wr (P++(zge vk (M.take (q+1))++(M.drop (q+1)++S)))by
       have h9:=HS.out
       rw[HX.out,zf1 HQS.out HSP.out HGT.out (fun A' z e=>by
        have e2:=List.append_inj_right' e rfl;injection e2 with e2 _;subst e2;exact hc)]
       rw[show P++(A++ [y]++x::A2++(M.drop (q+1)++S))=(P++A)++y::([]++x::(A2++(M.drop (q+1)++S)))by simp];exact h9)
      clear hc;go_wp2_with fail
      go_region_held3 (fun w'=>w'.cell? ⟨g,(k+1)*7,none⟩=some (.string (bsB x.nm))∧w'.cell? ⟨g,(k+1)*7+1,none⟩=some (.int .i64 x.ty)∧w'.cell? ⟨g,(k+1)*7+2,none⟩=some (.int .i64 x.sc)∧w'.cell? ⟨g,(k+1)*7+3,none⟩=some (.int .i64 x.sg)∧w'.cell? ⟨g,(k+1)*7+4,none⟩=some (.bool x.rg)∧w'.cell? ⟨g,(k+1)*7+5,none⟩=some (.int .i64 x.mb)∧w'.cell? ⟨g,(k+1)*7+6,none⟩=some (.int .i64 x.lb)∧w'.cell? ⟨g,k*7,none⟩=some (.string (bsB y.nm))∧w'.cell? ⟨g,k*7+1,none⟩=some (.int .i64 y.ty)∧w'.cell? ⟨g,k*7+2,none⟩=some (.int .i64 y.sc)∧w'.cell? ⟨g,k*7+3,none⟩=some (.int .i64 y.sg)∧w'.cell? ⟨g,k*7+4,none⟩=some (.bool y.rg)∧w'.cell? ⟨g,k*7+5,none⟩=some (.int .i64 y.mb)∧w'.cell? ⟨g,k*7+6,none⟩=some (.int .i64 y.lb))
       (first|exact⟨x0,x1,x2,x3,x4,x5,x6,y0,y1,y2,y3,y4,y5,y6⟩|exact⟨u0,u1,u2,u3,u4,u5,u6,v0,v1,v2,v3,v4,v5,v6⟩|go_keep)
       (first
         |(go_at_call 166;refine(znF x y _).mono ?_;rintro e w2 ⟨z,rfl,hz,hb2⟩;rw[HC.out]at hz;have hs2:=SO.after HS.out.drew hb2;have HS2:=lhd hs2;have HFF:=lhd (SO.after HF.out.drew hb2);have HB2:=lhd (HBJ.out.drew.trans (hb2.mono HLO.out));have hqa:=hs2.at;rw[HPA.out]at hqa;have hs3:=hs2;rw[show(P++A)++y::([]++x::(A2++(M.drop (q+1)++S)))=(P++(A++ [y]))++x::(A2++(M.drop (q+1)++S))by simp]at hs3;have hqb:=hs3.at;rw[show(P++(A++ [y])).length=k+1 by have:=HPA.out;simp only[List.length_append,List.length_singleton]at this⊢;omega]at hqb;obtain⟨v0,v1,v2,v3,v4,v5,v6⟩:=hqa;obtain⟨u0,u1,u2,u3,u4,u5,u6⟩:=hqb;clear hb2 hs2 hs3)
         |fail "no arm")
      clear u0 u1 u2 u3 u4 u5 u6 v0 v1 v2 v3 v4 v5 v6 x0 x1 x2 x3 x4 x5 x6 y0 y1 y2 y3 y4 y5 y6 h1 h2 h3 h4 h5;go_wp2_with fail;go_roundw;case rel=>exact⟨q+1,by simp;omega,by omega,.inl (by have:=HL.out.2.2.1;omega),HFF.out,HB2.out⟩
      case measure=>
       have h9:=HL.out;simp[intOf];omega
  ·have hd0:decide ((a:Int)+(q:Int)<(b:Int))=false:=by rw[decide_eq_false_iff_not];omega
   have HF:=lhd (show SO base g n c wr (P++(zge vk M++S))by
    rw[List.take_of_length_le (by omega),List.drop_of_length_le (by omega)]at hs;exact hs)
   clear hs;go_wp2_with fail;go_end0
   exact⟨rfl,HF.out,HB.out⟩
attribute [local go_sem] Oper.semAt_some
theorem zpu (S:List Sc):∀(f:Nat) (i:Int),(upL S f i).length≤f
 |0,_=>Nat.zero_le _
 |f+1,i=>by
  unfold upL;split
  ·simp
  ·split
   ·simp
   ·have:=zpu S f;simp only[List.length_cons];have:=this (by assumption:Sc).2.2;omega
theorem zfF (a:Option Addr) (m cap:Nat) (i:Int) (w:World):
 Calls Tryz.prog 260 #[.slice a m cap,.int .i64 i] w fun e w'=>e=.returned (.func (.func 286) #[] #[.pointer (some ⟨w.heap.size+1,0,none⟩),.pointer (some ⟨w.heap.size,0,none⟩)])∧w'=(w.alloc (.cells #[.slice a m cap] 22)).alloc (.cells #[.int .i64 i] 3):=by
 go_enter Tryz.func260,Tryz.ntmps260;go_wp2_with fail;go_ret;exact⟨rfl,rfl⟩
theorem PtI.old {w W W':World} {v vo:Value} {nms:List Bs} (h:PtI w v nms vo W) (hg:W.grownBy W' vo.ownBlock):Same0 w W':=
 Same0.of_below (h.b.grown hg (h.b.size) (fun _ hk=>(h.o.lt _ hk).1))
theorem PtI.rev {w W:World} {v vo:Value} {nms:List Bs} (h:PtI w v nms vo W) (hn:nms≠ []):
 ∃g cap,vo=.slice (some ⟨g,0,none⟩) nms.length cap∧Sort.Holds Proofs.encStr W g 0 nms.toArray∧∀q,PtI w v nms.reverse vo (Sort.putRow Proofs.encStr (Sort.ahead W q) g 0 nms.reverse.toArray)∧
  (∀(D:Nat) (o:Obj),W.heap[D]? =some o→o.isCells=false→(Sort.putRow Proofs.encStr (Sort.ahead W q) g 0 nms.reverse.toArray).heap[D]? =some o):=by
 have hnil:vo≠ .slice none 0 0:=by
  rintro rfl;have h1:=h.o.1;rcases h.o.2 with⟨-,h2⟩|⟨g,cap,cur,e0,-⟩
  ·exact hn (List.length_eq_zero_iff.1 h2)
  ·cases e0
 have ho:W.ownsRow w.heap.size 9 1 vo nms.length (nms.map Proofs.encStr):=h.o;obtain⟨g,cap,rfl,hg,hgl,hc1,hc2,-,hH⟩:=Lib.holds_of_ownsRow ho hnil
 have hgb:∃cur,W.heap[g]? =some (.cells cur 9 (0,0)):=by
  rcases ho.2 with⟨e0,-⟩|⟨g',cap',cur,e0,-,hb,-⟩
  ·cases e0
  ·injection e0 with e0 _ _;injection e0 with e0;injection e0 with e0 _ _;subst e0;exact⟨cur,hb⟩
 obtain⟨cur,hgb⟩:=hgb;refine⟨g,cap,rfl,hH,fun q=>?_⟩
 have hfar:∀D,D≠g→(Sort.putRow Proofs.encStr (Sort.ahead W q) g 0 nms.reverse.toArray).heap[D]? =W.heap[D]? :=by
  intro D hD;simp[Sort.putRow,Go.Sort.mapBlock,Sort.ahead,Array.getElem?_modify,show g≠D from fun e=>hD e.symm]
 have hne:∀(i:Nat) (D:Array Value) (T:TypeId) (fr:Nat×Nat),W.heap[i]? =some (.cells D T fr)→T≠9→i≠g:=by
  rintro i D T fr hi hT rfl;rw[hgb]at hi;injection hi with hi;injection hi with _ h5 _;exact hT h5.symm
 refine⟨⟨(hfar _ (hne _ _ _ _ h.bs (by decide))).trans h.bs,(hfar _ (hne _ _ _ _ h.bo (by decide))).trans h.bo,?_,Lib.below_putRow h.b hg⟩,fun D o hD ho'=>(hfar D ?_).trans hD⟩
 ·have:=Lib.ownsRow_putRow (q:=q) (ys:=nms.reverse) ho (by simp) (Nat.le_refl _);rw[List.take_of_length_le (by simp)]at this;rw[List.length_reverse];exact this
 ·rintro rfl;rw[hgb]at hD;injection hD with hD;subst hD;cases ho'
theorem zfz (v:Value) (S:List Sc) (i:Nat) (w:World) (hs:SlR w v S.length (scs S)) (hF:Fst (parS S) S.length) (hi:i<S.length) (hl:S.length≤1000):
 Calls Tryz.prog 203 #[v,.int .i64 i] w fun e w'=>∃v',e=.returned v'∧w'.ownsRow w.heap.size 9 1 v' (upL S (i+1) i).length (strs ((upL S (i+1) i).map (nmS S)).reverse)∧Below w.heap.size w w':=by
 obtain⟨i0,hi0,iz0,iz1,iz2⟩:=info_parts (P:=Tryz.prog) znZ;obtain⟨a,cap,rfl,-,-⟩:=hs.shape;obtain⟨L,hL⟩:∃L,upL S (i+1) i=L:=⟨_,rfl⟩;have HSP:=lhd (zpw hF (i+1) (i:Int) (by omega) (by omega) (by omega));rw[hL]at HSP⊢;have HL:=lhd hL;have HLE:=lhd (show L.length≤i+1 by rw[←hL];exact zpu _ _ _);clear hL;refine(callsIn_wide (n:=6)).1 ?_;refine callsIn_of_wp_marks Tryz.func203 rfl trivial ?_ rfl;refine wpIn_wide.2 ?_;simp only[Tryz.ntmps203,List.size_toArray,List.length_cons,List.length_nil,Nat.reduceAdd,Nat.reduceSub,Array.replicate_succ,Array.replicate_zero,List.push_toArray,List.append_toArray,List.nil_append,List.cons_append];go_wp2_with fail;refine(zfF _ _ _ _ _).mono ?_;rintro e w1 ⟨rfl,rfl⟩;go_wp2_with fail;obtain⟨v,hv⟩:∃v,Value.slice a S.length cap=v:=⟨_,rfl⟩;rw[hv]at hs⊢;obtain⟨W0,hW0⟩:∃X,(((w.alloc (.cells #[v] 22)).alloc (.cells #[.slice none 0 0] 171)).alloc (.cells #[v] 22)).alloc (.cells #[.int .i64 i] 3)=X:=⟨_,rfl⟩;have hs0:W0.heap.size=w.heap.size+4:=by rw[←hW0];simp
 have h1:=heap_alloc_new w (.cells #[v] 22);have b1:Below w.heap.size w (w.alloc (.cells #[v] 22)):=(Below.refl _ _).alloc (Nat.le_refl _) _;have e1:(w.alloc (.cells #[v] 22)).heap.size=w.heap.size+1:=by simp
 rw[hW0];generalize w.alloc (.cells #[v] 22)=x1 at*;have h2:=heap_alloc_new x1 (.cells #[.slice none 0 0] 171);have b2:Below x1.heap.size x1 (x1.alloc (.cells #[.slice none 0 0] 171)):=(Below.refl _ _).alloc (Nat.le_refl _) _;have e2:(x1.alloc (.cells #[.slice none 0 0] 171)).heap.size=w.heap.size+2:=by simp[e1]
 generalize x1.alloc (.cells #[.slice none 0 0] 171)=x2 at*;have h3:=heap_alloc_new x2 (.cells #[v] 22);have b3:Below x2.heap.size x2 (x2.alloc (.cells #[v] 22)):=(Below.refl _ _).alloc (Nat.le_refl _) _;have e3:(x2.alloc (.cells #[v] 22)).heap.size=w.heap.size+3:=by simp[e2]
 generalize x2.alloc (.cells #[v] 22)=x3 at*;have h4:=heap_alloc_new x3 (.cells #[.int .i64 i] 3);have b4:Below x3.heap.size x3 (x3.alloc (.cells #[.int .i64 i] 3)):=(Below.refl _ _).alloc (Nat.le_refl _) _;rw[hW0]at h4 b4;rw[e1]at h2;rw[e2]at h3;rw[e3]at h4;have q1:=(Same0.of_below b4).cells _ _ _ _ ((Same0.of_below b3).cells _ _ _ _ ((Same0.of_below b2).cells _ _ _ _ h1));have q2:=(Same0.of_below b4).cells _ _ _ _ ((Same0.of_below b3).cells _ _ _ _ h2);have q3:=(Same0.of_below b4).cells _ _ _ _ h3;have bb:Below w.heap.size w W0:=zem (zem (zem b1 b2) b3) b4;have hI0:PtI w v [] (.slice none 0 0) W0:=⟨q1,q2,World.ownsRow_nil _ _ _ _,bb⟩;have HS:=lhd hs;have HF:=lhd hF;clear hs hF q1 q2 h1 h2 h3 b1 b2 b3 b4 e1 e2 e3 hW0;refine(wpIn_wide (n:=6)).1 ?_
 refine zkD (B0:=w.heap.size) (hB0:=by omega) rfl (by decide) (gf:=286) (lb:=#[.pointer (some ⟨w.heap.size+3,0,none⟩),.pointer (some ⟨w.heap.size+2,0,none⟩)]) rfl trivial (enters_of Tryz.func286 (by kernel_rfl) rfl)
  (encs:=upE L) (Kp:=fun W V=>KpU w.heap.size 9 171 W V∧W.heap.size≤V.heap.size) (N:=L.length) (T:=3)
  (fun l J W hW hJ hY h0=>?iter)
  (fun h k=>⟨h.1.trans k.1,Nat.le_trans h.2 k.2⟩) (fun _ _ h=>⟨KpU.same0 h,h.size⟩) (fun _=>rfl)
  (zam w v S L) (fun k W V ⟨vo,h⟩ ht=>⟨vo,h.turn ht⟩) ⟨_,hI0⟩ ?round ?done
 case iter=>
  have:=zpp (6-1) (by decide) l (w.heap.size+3) (w.heap.size+2) w.heap.size w.heap.size 9 171 (by decide) (by decide) S (i:Int) v w W J HF.out (by omega) (by omega) rfl (Nat.le_refl _) (by omega) (by omega) HS.out (Same0.trans (Same0.of_below bb) (Same0.of_below hW)) hJ
   (by rw[Int.toNat_natCast,HL.out];exact hY) ((Same0.of_below hW).cells _ _ _ _ h4) ((Same0.of_below hW).cells _ _ _ _ q3) h0
  rw[Int.toNat_natCast,HL.out]at this;exact this
 case done=>
  intro D W hD hI hDd;obtain⟨vo,h⟩:=hI
  have HLP:=lhd (show L≠ []by
   intro e;have h2:=HSP.out.2;rw[e]at h2;have h2:(i:Int)= -1:=h2;omega)
  rw[List.take_of_length_le (Nat.le_refl _)]at h
  obtain⟨g,cp,rfl,hH,hr⟩:=h.rev (by
   intro e;exact HLP.out (List.map_eq_nil_iff.1 e))
  obtain⟨co,fo⟩:=zjh h.bo;have HR:=lhd hr;have HD:=lhd (And.intro hD hDd);have HRV:=lhd (Tryz.slices_Reverse_string g 0 cp (L.map (nmS S)) W hH (by have:=HLE.out;simp;omega));clear hr hD hDd hH h;generalize hnn:L.map (nmS S)=nms at*;have HNL:=lhd (show nms.length=L.length by rw[←hnn];simp);have HNN:=lhd hnn;clear hnn;go_wp2_with fail;refine HRV.out.mono ?_;rintro e w3 ⟨rfl,q,rfl⟩;obtain⟨h3,h4⟩:=HR.out q;have HD3:=lhd (h4 D _ HD.out.2 rfl);have H3:=lhd h3;clear co fo h4 HR HRV;obtain⟨co,fo⟩:=zjh h3.bo;clear h3;generalize Sort.putRow Proofs.encStr (Sort.ahead W q) g 0 nms.reverse.toArray=W3 at*;go_wp2_with fail;refine⟨by simp,.inl ⟨_,_,rfl,run_takeDeferred HD3.out,?_⟩⟩;have ho:=ownsRow_putObj H3.out.o (.deferred none) HD3.out rfl;rw[List.length_reverse]at ho;refine⟨.slice (some ⟨g,0,none⟩) nms.length cp,by simp[results,Tryz.results203,go_sem],_,rfl,?_,?_⟩
  ·rw[HNN.out,←HNL.out];exact ho
  ·exact H3.out.b.trans (belowK_b (w:=W0) (by omega) _ D _ _ HD.out.1 HD3.out rfl rfl)
 case round=>
  intro l k W hlW ⟨vo,h⟩ hk;obtain⟨q0,q1',q2⟩:=HSP.out.1 k hk;obtain⟨m,hm2⟩:=Int.eq_ofNat_of_zero_le q0;rw[hm2]at q1' q2;rw[Int.toNat_natCast]at q2;have hmS:m<S.length:=by omega
  have HLD:=lhd (show(L.getD k 0:Nat)=m by rw[List.getD,q2];rfl);unfold upE;rw[HLD.out]
  have HTK:=lhd (show(L.take (k+1)).map (nmS S)=(L.take k).map (nmS S)++ [nmS S m]by
   rw[List.take_add_one,q2];simp)
  have HNL:=lhd (show((L.take k).map (nmS S)).length=k by simp;omega);clear q0 q1' q2 hm2;generalize (L.take k).map (nmS S)=nms at*;subst hv;have HI:=lhd h;clear h;gi_wp2
  refine⟨KeepsFrom.refl _ _,⟨KpU.below (Below.refl _ _),Nat.le_refl _⟩,?_⟩;intro W1 hs1 ht1;have H2:=lhd (HI.out.turn ht1);obtain⟨ct,ft⟩:=zjh H2.out.bs;obtain⟨co,fo⟩:=zjh H2.out.bo;obtain⟨bS,oS,rfl,hcell⟩:=(HS.out.same0 (Same0.of_below H2.out.b)).scs hmS;have hnm:nmS S m=(S[m]).1:=by simp[nmS,List.getD,hmS]
  have HSX:=HS;obtain⟨nm,hnx⟩:∃nm,(S[m]).1=nm:=⟨_,rfl⟩;have d0:W1.cell? ⟨bS,oS+m*3,none⟩=some (.string (bsB nm)):=hcell 0 _ (by rw[←hnx];rfl);rw[hnm,hnx]at HTK
  have HSC:=lhd (fun(X:World) (hX:Same0 w X)=>(show X.cell? ⟨bS,oS+m*3,none⟩=some (.string (bsB nm))by
   obtain⟨b',o',e',hc'⟩:=(HSX.out.same0 hX).scs hmS;injection e' with e';injection e' with e1 e2 _;subst e1 e2;exact hc' 0 _ (by rw[←hnx];rfl)))
  clear hcell hs1 ht1 HI hnm hnx;obtain⟨ao,capo,rfl,-,-⟩:=(SlR.of_own H2.out.o).shape;have hal:Below W1.heap.size W1 (W1.drew.alloc (.cells #[.string (bsB nm)] 9)):=((Below.refl _ _).drew).alloc (Nat.le_refl _) _;have HA:=lhd (H2.out.same hal);have HKA:=lhd (KpU.below (N:=w.heap.size) (T1:=9) (T2:=171) hal);have HZA:=lhd hal.size;have HOA:=lhd ((KeepsOthers.drew W1).trans (KeepsOthers.alloc _ (.cells #[.string (bsB nm)] 9)));have y1:=(zjh HA.out.bs).1;have y2:=HSC.out _ (Same0.of_below HA.out.b);have hbz:=H2.out.b.size;have hnl:nms.length≤1000:=by have:=HNL.out;have:=HLE.out;omega
  clear hal;gi_wp2
  refine wpIn_mono (Q:=fun e _ W'=>e=.normal∧∃vo,PtI w (.slice (some ⟨bS,oS,none⟩) S.length cap) (nms++ [nm]) vo W'∧KpU w.heap.size 9 171 W1 W'∧W1.heap.size≤W'.heap.size∧KeepsOthers W1 W') ?_ ?_;rotate_left
  ·rintro e a' W' ⟨rfl,vo,hp,hk1,hk2,hk3⟩;gi_wp2
   refine⟨hk3.from _,?_⟩;unfold zam;rw[HTK.out];exact⟨vo,hp⟩
  refine wpIn_region_any (by kernel_rfl) ?_;refine zaO (zh0 (by kernel_rfl)) ?_ _ _ _ _ ?_
  ·rintro⟨a0,w0,h0,-⟩;cases h0
  refine wpAny_of_held (S:=fun w'=>w'.cell? ⟨w.heap.size,0,none⟩=some (.slice (some ⟨bS,oS,none⟩) S.length cap)∧w'.cell? ⟨bS,oS+m*3,none⟩=some (.string (bsB nm))) _ _ _ _ ?_
  ·have hHeld:W1.drew.cell? ⟨w.heap.size,0,none⟩=some (.slice (some ⟨bS,oS,none⟩) S.length cap)∧W1.drew.cell? ⟨bS,oS+m*3,none⟩=some (.string (bsB nm)):=⟨ct,d0⟩;refine tkH 1 hHeld (v:=?_) ?_ ?_;rotate_left
   ·intro w h;(try dsimp only at h);go_simp;all_goals with_reducible rfl
   simp only[tkS];refine tkH 2 hHeld (v:=?_) ?_ ?_;rotate_left
   ·intro w h;(try dsimp only at h);go_simp;all_goals with_reducible rfl
   simp only[tkS];refine tkH 3 hHeld (v:=?_) ?_ ?_;rotate_left
   ·intro w h;(try dsimp only at h);go_simp;all_goals with_reducible rfl
   simp only[tkS];refine tkH 4 hHeld (v:=?_) ?_ ?_;rotate_left
   ·intro w h;(try dsimp only at h);go_simp;all_goals with_reducible rfl
   simp only[tkS];refine tkH 5 hHeld (v:=?_) ?_ ?_;rotate_left
   ·intro w h;(try dsimp only at h);go_simp;all_goals with_reducible rfl
   simp only[tkS];refine wpAnyH_ready (rs:=[0,6]) (by kernel_rfl) (by simp) ?_;refine AllReadyH.cons (o:=_) rfl (fun K hK=>?_) (AllReadyH.cons (o:=_) rfl (fun K hK=>?_) AllReadyH.nil)
   ·go_simp;refine hK.out _ _ ⟨ct,d0⟩ (fun hHeld=>?_);clear hK;try simp only[tkS]
    refine oneH 6 (fun K hK=>?_);go_simp;refine hK.out _ _ ⟨y1,y2⟩ (fun hHeld=>?_);clear hK;try simp only[tkS]
    refine oneH 7 (fun K hK=>?_);refine step_append_lies _ (by rfl) _ _ _ (by rfl) w.heap.size 9 i0 _ 1 16 Tryz.underlying171 hi0 iz0 iz1 iz2 rfl (by omega) (.slice ao nms.length capo) nms.length (strs nms) (by rfl) (by exact HA.out.o) ⟨W1.heap.size,0,none⟩ 1 1 [.string (bsB nm)] (by rfl) (by rfl) (World.news_of_block (cs:=#[.string (bsB nm)]) (t:=9) (fr:=(0,0)) (by exact heap_alloc_new _ _)) (by simp[Value.oneCell']) (by omega) (by unfold maxLen;omega) (by omega) (by simp;omega) (W1.heap.size+1) (by simp) ?_;intro gg cap9 w9 ho9 hg9 hat hlt9;obtain⟨P1,P2,P3,P4,P5,P6,P10⟩:=HA.out.add ho9 hg9;have P7:=HSC.out w9 (HA.out.old hg9);have HP9:=lhd P1;have HK9:=lhd (And.intro P5 P6);have HO9:=lhd P10;clear ho9 hg9 hat hlt9 P1 P5 P6 P10;refine hK.out _ _ ⟨P2,P7⟩ (fun hHeld=>?_);clear hK;try simp only[tkS]
    refine oneH 8 (fun K hK=>?_);go_simp;have P8:=And.intro (zjh HP9.out.bs).1 (HSC.out _ (Same0.of_below HP9.out.b));refine hK.out _ _ P8 (fun hHeld=>?_);clear hK;try simp only[tkS]
    refine wpAnyH_done (by kernel_rfl) ?_ _;exact⟨rfl,_,HP9.out,HKA.out.trans HK9.out.1,Nat.le_trans HZA.out HK9.out.2,HOA.out.trans HO9.out⟩
   ·go_simp;refine hK.out _ _ ⟨y1,y2⟩ (fun hHeld=>?_);clear hK;try simp only[tkS]
    have a8:=zbS co (.cells #[.string (bsB nm)] 9);refine oneH 0 (fun K hK=>?_);go_simp;refine hK.out _ _ ⟨y1,y2⟩ (fun hHeld=>?_);clear hK;try simp only[tkS]
    clear a8;refine oneH 7 (fun K hK=>?_);refine step_append_lies _ (by rfl) _ _ _ (by rfl) w.heap.size 9 i0 _ 1 16 Tryz.underlying171 hi0 iz0 iz1 iz2 rfl (by omega) (.slice ao nms.length capo) nms.length (strs nms) (by rfl) (by exact HA.out.o) ⟨W1.heap.size,0,none⟩ 1 1 [.string (bsB nm)] (by rfl) (by rfl) (World.news_of_block (cs:=#[.string (bsB nm)]) (t:=9) (fr:=(0,0)) (by exact heap_alloc_new _ _)) (by simp[Value.oneCell']) (by omega) (by unfold maxLen;omega) (by omega) (by simp;omega) (W1.heap.size+1) (by simp) ?_;intro gg cap9 w9 ho9 hg9 hat hlt9;obtain⟨P1,P2,P3,P4,P5,P6,P10⟩:=HA.out.add ho9 hg9;have P7:=HSC.out w9 (HA.out.old hg9);have HP9:=lhd P1;have HK9:=lhd (And.intro P5 P6);have HO9:=lhd P10;clear ho9 hg9 hat hlt9 P1 P5 P6 P10;refine hK.out _ _ ⟨P2,P7⟩ (fun hHeld=>?_);clear hK;try simp only[tkS]
    refine oneH 8 (fun K hK=>?_);go_simp;have P8:=And.intro (zjh HP9.out.bs).1 (HSC.out _ (Same0.of_below HP9.out.b));refine hK.out _ _ P8 (fun hHeld=>?_);clear hK;try simp only[tkS]
    refine wpAnyH_done (by kernel_rfl) ?_ _;exact⟨rfl,_,HP9.out,HKA.out.trans HK9.out.1,Nat.le_trans HZA.out HK9.out.2,HOA.out.trans HO9.out⟩
attribute [local go_sem] Oper.semAt_some
def zj4 (par:Nat→Int) (n f:Nat) (p:Int) (i:Nat):List Nat:=((List.range n).drop i).flatMap fun j=>if par j=p then j::pre par n f j else []
theorem zj8 (par:Nat→Int) (n f:Nat) (p:Int):zj4 par n f p 0=pre par n (f+1) p:=by rw[zkv];rfl
theorem zj7 {par:Nat→Int} {n f:Nat} {p:Int} {i:Nat} (h:i<n):zj4 par n f p i=(if par i=p then i::pre par n f i else [])++zj4 par n f p (i+1):=by
 unfold zj4;rw[List.drop_eq_getElem_cons (by simpa using h),List.flatMap_cons];simp
theorem zj5 {par:Nat→Int} {n f:Nat} {p:Int} {i:Nat} (h:n≤i):zj4 par n f p i=[]:=by
 unfold zj4;rw[List.drop_of_length_le (by simpa using h)];rfl
theorem zj6 {par:Nat→Int} {n f:Nat} {p:Int} (hF:Fst par n):∀i:Nat,(i:Int)≤max p 0→zj4 par n f p i=pre par n (f+1) p
 |0,_=>zj8 par n f p
 |i+1,h=>by
  rw[←zj6 hF i (by omega)];by_cases hi:i<n
  ·rw[zj7 hi,if_neg,List.nil_append];have:=(hF i hi).2;omega
  ·rw[zj5 (by omega),zj5 (by omega)]
theorem zpn {b:Bool} (h:some undef=some (Value.bool b)):False:=by
 unfold undef at h;cases h
def ordE (L:List Nat) (k:Nat):Array Value:=#[.int .i64 ((L.getD k 0:Nat):Int)]
def KpO (N:Nat) (W V:World):Prop:=W.heap.size≤V.heap.size∧∀(b:Nat) (C:Array Value) (T:TypeId) (fr:Nat×Nat),b<N→W.heap[b]? =some (.cells C T fr)→V.heap[b]? =some (.cells C T fr)
theorem KpO.trans {N:Nat} {A B C:World} (h:KpO N A B) (k:KpO N B C):KpO N A C:=⟨Nat.le_trans h.1 k.1,fun b D T fr hb h1=>k.2 b D T fr hb (h.2 b D T fr hb h1)⟩
theorem KpO.same0 {N:Nat} {W V:World} (h:Same0 W V):KpO N W V:=⟨h.size,fun b C T fr _ hb=>h.cells b C T fr hb⟩
theorem KpO.old {w0 W V:World} (h:Same0 w0 W) (k:KpO w0.heap.size W V):Same0 w0 V:=
 ⟨Nat.le_trans h.size k.1,fun b C T fr hb=>k.2 b C T fr (Array.getElem?_eq_some_iff.1 hb).1 (h.cells _ _ _ _ hb)⟩
def WkP (n:Nat) (lp:Nat) (v:Value) (w0:World) (J:Nat→World→Prop) (p:Int) (k m:Nat) (W:World):Prop:=
 CallsIn Fence.wide n Tryz.prog 219 #[v,.int .i64 p,.func (.yield lp) #[] #[]] W fun e W'=>e=.returned (.bool true)∧J (k+m) W'∧Same0 w0 W'
theorem zqD (n:Nat) (hn:2≤n) (lp:Nat) (S:List Sc) (v:Value) (w0:World) (J:Nat→World→Prop) (ord:List Nat)
 (hF:Fst (parS S) S.length) (hl:S.length≤1000) (hs:SlR w0 v S.length (scs S))
 (hY:∀k W1,J k W1→k<ord.length→YieldAt Fence.wide (n-1) Tryz.prog lp (ordE ord k) W1 fun e W'=>e=.returned (.bool true)∧J (k+1) W'∧KpO w0.heap.size W1 W')
 (f:Nat) (p:Int) (A B:List Nat) (W:World) (hp: -1≤p) (hp2:p≤1000) (ho:ord=A++pre (parS S) S.length (f+1) p++B) (h0:J A.length W) (h00:Same0 w0 W)
 (ih:∀(i:Nat) (A' B':List Nat) (W':World),p<(i:Int)→i<S.length→ord=A'++pre (parS S) S.length f i++B'→J A'.length W'→Same0 w0 W'→WkP n lp v w0 J i A'.length (pre (parS S) S.length f i).length W'):
 WkP n lp v w0 J p A.length (pre (parS S) S.length (f+1) p).length W:=by
 have hro:Fence.wide.round=none:=rfl;obtain⟨a,cap,rfl,hcp,hm⟩:=hs.shape;unfold WkP;obtain⟨i0,hi0⟩:∃i0:Nat,(i0:Int)=max p 0:=⟨(max p 0).toNat,by omega⟩;have HST:=lhd (zj6 (n:=S.length) (f:=f) (p:=p) hF i0 (by omega));have HS:=lhd hs;have HF:=lhd hF;have HY:=lhd hY;have HO:=lhd ho;have HI:=lhd ih;have H00:=lhd h00;generalize hpl:pre (parS S) S.length (f+1) p=PL at*;clear hs hF hY ho ih hm hcp h00;refine callsIn_of_wp Tryz.func219 rfl trivial ?_ hro;simp only[Tryz.ntmps219,List.size_toArray,List.length_cons,List.length_nil,Nat.reduceAdd,Nat.reduceSub,Array.replicate_succ,Array.replicate_zero,List.push_toArray,List.append_toArray,List.nil_append,List.cons_append];have HI0:=lhd hi0;have HPL:=lhd hpl;clear hpl;have HB0:=lhd (show p≤(i0:Int)∧i0≤1000 by omega);clear hi0;gi_wp2
 gi_loopw [7] (fun i wr=>∃(j:Nat) (A':List Nat),i=.int .i64 j∧p≤(j:Int)∧j≤1000∧A'++zj4 (parS S) S.length f p j=A++PL∧J A'.length wr∧Same0 w0 wr) (fun i _=>S.length-(intOf i).toNat)
 case atStart=>exact⟨i0,A,by rw[HI0.out],HB0.out.1,HB0.out.2,by rw[HST.out],h0,H00.out⟩
 case round=>
  obtain⟨j,A',rfl,hpj,hj,hA,hjk,hsa⟩:=hrel;have HA:=lhd hA;have HJK:=lhd hjk;have HSA:=lhd hsa;clear hA hjk hsa h0;by_cases hlt:j<S.length
  ·obtain⟨b,o,rfl,hcell⟩:=(HS.out.same0 HSA.out).scs hlt;have hps:parS S j=S[j].2.2:=by simp[parS,List.getD,hlt]
   have HPF:=lhd (zj7 (par:=parS S) (f:=f) (p:=p) hlt);have HFJ:=lhd (HF.out j hlt);rw[hps]at HPF HFJ;generalize S[j]=x at hcell HPF HFJ;obtain⟨nm,ty,pa⟩:=x;have d2:wr.cell? ⟨b,o+j*3+2,none⟩=some (.int .i64 pa):=hcell 2 _ rfl;clear hcell hps;dsimp only at HPF HFJ;have h1n:1≤n:=by omega
   by_cases hpa:pa=p
   ·subst hpa;rw[if_pos rfl]at HPF
    have HA2:=lhd (show ord=A'++j::(pre (parS S) S.length f j++(zj4 (parS S) S.length f pa (j+1)++B))by
     rw[HO.out,←HA.out,HPF.out];simp)
    have HEN:=lhd (show ordE ord A'.length=#[.int .i64 (j:Int)]by
     unfold ordE;rw[HA2.out,List.getD,List.getElem?_append_right (Nat.le_refl _),Nat.sub_self];rfl)
    obtain⟨fn,tmps,assign,body,hy,hR⟩:=HY.out A'.length wr HJK.out (by rw[HA2.out];simp);have HR:=lhd hR;rw[HEN.out]at hy;have HIH:=lhd (fun W' h1 h2=>HI.out j (A'++ [j]) (zj4 (parS S) S.length f pa (j+1)++B) W' (by have:=HFJ.out.2;omega) hlt (by rw[HA2.out];simp) h1 h2)
    have HNX:=lhd (show(A'++j::pre (parS S) S.length f j)++zj4 (parS S) S.length f pa (j+1)=A++PL by
     rw[←HA.out,HPF.out];simp)
    clear hR;gi_wp2
    refine HR.out.mono ?_;rintro e W3 ⟨rfl,hj3,hk3⟩;have HJ3:=lhd hj3;have HS3:=lhd (KpO.old HSA.out hk3);clear hj3 hk3 hy d2;gi_wp2
    refine⟨trivial,?_⟩;have HW:=lhd (HIH.out W3 (by rw[List.length_append];exact HJ3.out) HS3.out);unfold WkP at HW;refine(callsIn_wide.2 (callsIn_wide.1 HW.out)).mono ?_;rintro e W4 ⟨rfl,hj4,hs4⟩
    have HJ4:=lhd (show J (A'++j::pre (parS S) S.length f j).length W4 by
     rw[List.length_append,List.length_singleton]at hj4;rw[List.length_append,List.length_cons,show A'.length+((pre (parS S) S.length f j).length+1)=A'.length+1+(pre (parS S) S.length f j).length by omega];exact hj4)
    have HS4:=lhd hs4;clear hj4 hs4;gi_wp2
    go_roundw;case rel=>exact⟨j+1,_,by go_num,by omega,by omega,HNX.out,HJ4.out,HS4.out⟩
    case measure=>simp[intOf];omega
   ·have hne:(pa==p)=false:=by simpa using hpa
    rw[if_neg hpa,List.nil_append]at HPF;have HNX:=lhd (show A'++zj4 (parS S) S.length f p (j+1)=A++PL by rw[←HPF.out];exact HA.out);clear hpa;gi_wp2
    refine⟨fun _ _=>trivial,?_⟩;gi_wp2
    all_goals (try exact(zpn (by assumption)).elim)
    refine⟨trivial,?_⟩;gi_wp2
    go_roundw;case rel=>exact⟨j+1,A',by go_num,by omega,by omega,HNX.out,HJK.out,HSA.out⟩
    case measure=>simp[intOf];omega
  ·have HE:=lhd (show A'.length=A.length+PL.length by
    have:=HA.out;rw[zj5 (by omega),List.append_nil]at this;rw[this,List.length_append])
   gi_wp2
   go_ret;exact⟨rfl,HE.out▸HJK.out,HSA.out⟩
attribute [local go_sem] Oper.semAt_some
theorem zqC (n:Nat) (hn:2≤n) (lp:Nat) (S:List Sc) (v:Value) (w0:World) (J:Nat→World→Prop) (ord:List Nat)
 (hF:Fst (parS S) S.length) (hl:S.length≤1000) (hs:SlR w0 v S.length (scs S))
 (hY:∀k W1,J k W1→k<ord.length→YieldAt Fence.wide (n-1) Tryz.prog lp (ordE ord k) W1 fun e W'=>e=.returned (.bool true)∧J (k+1) W'∧KpO w0.heap.size W1 W'):
 ∀(f:Nat) (p:Int) (A B:List Nat) (W:World),-1≤p→p≤1000→(S.length:Int)≤(f:Int)+p+1→ord=A++pre (parS S) S.length (f+1) p++B→J A.length W→Same0 w0 W→
  WkP n lp v w0 J p A.length (pre (parS S) S.length (f+1) p).length W
 |0,p,A,B,W,h1,h2,h3,ho,h0,h00=>zqD n hn lp S v w0 J ord hF hl hs hY 0 p A B W h1 h2 ho h0 h00 (fun i _ _ _ hi hi2 _ _ _=>by omega)
 |f+1,p,A,B,W,h1,h2,h3,ho,h0,h00=>zqD n hn lp S v w0 J ord hF hl hs hY (f+1) p A B W h1 h2 ho h0 h00 (fun i A' B' W' hi hi2 ho' hj hs'=>
   zqC n hn lp S v w0 J ord hF hl hs hY f (i:Int) A' B' W' (by omega) (by omega) (by omega) ho' hj hs')
theorem zj3 (n:Nat) (hn:2≤n) (lp bs bp:Nat) (S:List Sc) (v:Value) (w0 W:World) (J:Nat→World→Prop)
 (hF:Fst (parS S) S.length) (hl:S.length≤999) (hs:SlR w0 v S.length (scs S)) (h0w:Same0 w0 W)
 (hY:∀k W1,J k W1→k<(preS S).length→YieldAt Fence.wide (n-1) Tryz.prog lp (ordE (preS S) k) W1 fun e W'=>e=.returned (.bool true)∧J (k+1) W'∧KpO w0.heap.size W1 W')
 (hcs:W.heap[bs]? =some (.cells #[v] 22 (0,0))) (hcp:W.heap[bp]? =some (.cells #[.int .i64 (-1)] 3 (0,0))) (h0:J 0 W):
 CallsIn Fence.wide n Tryz.prog 218 #[.func (.yield lp) #[] #[],.pointer (some ⟨bs,0,none⟩),.pointer (some ⟨bp,0,none⟩)] W fun e W'=>(∃v,e=.returned v)∧J (preS S).length W':=by
 have hro:Fence.wide.round=none:=rfl;obtain⟨a,cap,rfl,-,-⟩:=hs.shape;have HW:=lhd (zqC n hn lp S _ w0 J (preS S) hF (by omega) hs hY S.length (-1) [] [] W (by omega) (by omega) (by omega) (by simp[preS]) h0 h0w);obtain⟨cs,-⟩:=zjh hcs;obtain⟨cp,-⟩:=zjh hcp;unfold WkP at HW;clear hs hY h0 h0w hcs hcp hF;refine callsIn_of_wp Tryz.func218 rfl trivial ?_ hro;simp only[Tryz.ntmps218,List.size_toArray,List.length_cons,List.length_nil,Nat.reduceAdd,Nat.reduceSub,Array.replicate_succ,Array.replicate_zero,List.push_toArray,List.append_toArray,List.nil_append,List.cons_append];have h1n:1≤n:=by omega
 gi_wp2
 refine⟨trivial,?_⟩;refine(callsIn_wide.2 (callsIn_wide.1 HW.out)).mono ?_;rintro e W4 ⟨rfl,hj4,-⟩
 have HJ:=lhd (show J (preS S).length W4 by
  have:J (0+(preS S).length) W4:=hj4;rwa [Nat.zero_add]at this)
 clear hj4;gi_wp2
 go_end0
 exact⟨⟨_,rfl⟩,HJ.out⟩
theorem zfA (a:Option Addr) (m cap:Nat) (i:Int) (w:World):
 Calls Tryz.prog 163 #[.slice a m cap,.int .i64 i] w fun e w'=>e=.returned (.func (.func 218) #[] #[.pointer (some ⟨w.heap.size,0,none⟩),.pointer (some ⟨w.heap.size+1,0,none⟩)])∧w'=(w.alloc (.cells #[.slice a m cap] 22)).alloc (.cells #[.int .i64 i] 3):=by
 go_enter Tryz.func163,Tryz.ntmps163;go_wp2_with fail;go_ret;exact⟨rfl,rfl⟩
open Go.RowKit Go.WideMaps
theorem zq1 (w:World):(zeroValue 4).run Tryz.prog w=.ok (.bool false) w:=by kernel_rfl
theorem zfB (s:Sc) (w:World):Calls Tryz.prog 215 #[scV s] w fun e w'=>e=.returned (zb1 (zmh s))∧Below w.heap.size w w':=by
 obtain⟨nm,ty,pa⟩:=s;go_enter Tryz.func215,Tryz.ntmps215;go_wp2_with fail;refine bodyPost_ret (v:=zb1 (pa,nm)) (by simp[results,Tryz.results215,go_sem,zb1]) rfl ⟨rfl,((Below.refl _ _).alloc (Nat.le_refl _) _).alloc (by simp) _⟩
theorem zfG (x:Vr) (w:World):Calls Tryz.prog 217 #[vrV x] w fun e w'=>e=.returned (zdT (zqi x))∧Below w.heap.size w w':=by
 obtain⟨nm,ty,sc,sg,rg,mb,lb⟩:=x;go_enter Tryz.func217,Tryz.ntmps217;go_wp2_with fail;refine bodyPost_ret (v:=zdT (sc,nm,rg,mb,lb)) (by simp[results,Tryz.results217,go_sem,zdT]) rfl ⟨rfl,((Below.refl _ _).alloc (Nat.le_refl _) _).alloc (by simp) _⟩
open Classical in
noncomputable def zmC {κ:Type} (L:List κ) (x:κ):Option Value:=if x∈L then some (.bool true)else none
open Classical in
noncomputable def inB {κ:Type} (L:List κ) (x:κ):Bool:=decide (x∈L)
theorem zmE {κ:Type} [DecidableEq κ] (L:List κ) (x y:κ):(if y=x then some (.bool true)else zmC L y)=zmC (L++ [x]) y:=by
 unfold zmC;by_cases h:y=x
 ·subst h;simp
 ·rw[if_neg h];simp[h]
open Classical in
theorem zfR {κ:Type} {L:List κ} {x:κ}:inB L x=true↔x∈L:=by
 unfold inB;exact⟨of_decide_eq_true,decide_eq_true⟩
theorem zmD {κ:Type} (L:List κ) (x:κ):(zmC L x).getD (.bool false)=.bool (inB L x):=by
 unfold zmC inB;split<;>simp[*]
theorem zh5 {κ:Type} {L:List κ} {x:κ}:(L++ [x]).Nodup↔L.Nodup∧x∉L:=by
 rw[List.nodup_append];constructor
 ·rintro⟨h1,-,h3⟩;exact⟨h1,fun h=>h3 x h x (by simp) rfl⟩
 ·rintro⟨h1,h2⟩;exact⟨h1,by simp,fun a ha b hb e=>by rw[List.mem_singleton]at hb;subst hb e;exact h2 ha⟩
theorem zfD (v:Value) (L:List Sc) (w:World) (hs:SlR w v L.length (scs L)) (hl:L.length≤1000) (hd:∀x∈L,(Lit.int .i64 x.2.2).wf=true∧x.1.length≤maxLen):
 Calls Tryz.prog 214 #[v,(.func (.func 215) #[] #[])] w fun e w'=>e=.returned (.bool (uniq zmh L))∧Below w.heap.size w w':=by
 obtain⟨a,cap,rfl,-,-⟩:=hs.shape;have HS:=lhd hs;have HD:=lhd (show ∀x∈L,(zb0).dom (zmh x)from hd);have HM0:=lhd (KMap.made zb0 w);have HB0:=lhd (show Below w.heap.size w (w.alloc (.map #[] 0))from(Below.refl _ _).alloc (Nat.le_refl _) _);obtain⟨R,hR⟩:∃R,R=uniq zmh L:=⟨_,rfl⟩;rw[←hR];have HR:=lhd hR;clear hs hd hR;have hmm:= @run_makeMap Tryz.prog;go_enter Tryz.func214,Tryz.ntmps214;go_wp2_with fail;clear hmm;go_loopw [11] (fun i wr=>∃k:Nat,k≤L.length∧i=.int .i64 k∧((L.take k).map zmh).Nodup∧KMap zb0 wr w.heap.size k (zmC ((L.take k).map zmh))∧Below w.heap.size w wr) (fun i _=>L.length-(intOf i).toNat)
 case atStart=>exact⟨0,Nat.zero_le _,rfl,by simp,HM0.out,HB0.out⟩
 case round=>
  obtain⟨k,hk,rfl,hnd,hm,hb⟩:=hrel;have HND:=lhd hnd;have HM:=lhd hm;have HB:=lhd hb;clear hnd hm hb;by_cases hlt:k<L.length
  ·obtain⟨b,o,rfl,hcell⟩:=(HS.out.below HB.out).scs hlt;have HTK:=lhd (show(L.take (k+1)).map zmh=(L.take k).map zmh++ [zmh L[k]]by rw[List.take_succ_eq_append_getElem hlt,List.map_append];rfl);have HDK:=lhd (HD.out L[k] (List.getElem_mem hlt))
   have HNO:=lhd (fun(hin:zmh L[k]∈(L.take k).map zmh)=>(show R=false by
    rw[HR.out,←Bool.not_eq_true,zpo];intro hall;rw[←List.take_append_drop (k+1) L,List.map_append,HTK.out,List.nodup_append]at hall;exact(zh5.1 hall.1).2 hin))
   have HKY:=lhd (fun W=>zfB L[k] W);generalize hxk:L[k]=x at*;clear hxk;generalize hseen:(L.take k).map zmh=seen at*;clear hseen;obtain⟨kx,hkx⟩:∃kx,zmh x=kx:=⟨_,rfl⟩;have HKV:=lhd (show ∀W,Calls Tryz.prog 215 #[scV x] W fun e w'=>e=.returned (zb1 kx)∧Below W.heap.size W w' by rw[←hkx];exact HKY.out);rw[hkx]at HTK HDK HNO;clear HKY hkx
   have HLK:=lhd (fun(W:World) (hW:Below wr.heap.size wr W)=>(show(Instr.lookup 270 (.map (some w.heap.size)) (zb1 kx) false).run Tryz.prog W=.ok (.bool (inB seen kx)) W by
    have:=(HM.out.below hW HM.out.lt).look1 (t:=270) Tryz.underlying270 (zq1 W) kx HDK.out;rw[zmD]at this;exact this))
   have HIN:=lhd (show ∀b,inB seen kx=b→(b=true→kx∈seen)∧(b=false→kx∉seen)by
    rintro b rfl;exact⟨zfR.1,fun h hm=>by rw[zfR.2 hm]at h;cases h⟩)
   have HMB:=lhd (fun(W:World) (hW:Below wr.heap.size wr W)=>HM.out.below hW HM.out.lt);obtain⟨nm,ty,pa⟩:=x;have d0:wr.cell? ⟨b,o+k*3,none⟩=some (.string (bsB nm)):=hcell 0 _ rfl;have d1:wr.cell? ⟨b,o+k*3+1,none⟩=some (.int .i64 ty):=hcell 1 _ rfl;have d2:wr.cell? ⟨b,o+k*3+2,none⟩=some (.int .i64 pa):=hcell 2 _ rfl;clear hcell;go_wp2_with fail;refine(HKV.out _).mono ?_;rintro e w1 ⟨rfl,hb1⟩;have HX1:=lhd ((zal.fresh wr #[.string (bsB nm),.int .i64 ty,.int .i64 pa] 55).below hb1 (by simp));have hb2:=zel hb1;have hlk:=HLK.out _ hb2;have HB2:=lhd hb2;obtain⟨q0,q1⟩:=HIN.out _ rfl;have QQ:=lhd (And.intro q0 q1);clear hb1 hb2 q0 q1;cases hin:inB seen kx
   ·rw[hin]at hlk QQ;clear hin;have z0:=HX1.out.cell (j:=0) rfl;have z1:=HX1.out.cell (j:=1) rfl;have z2:=HX1.out.cell (j:=2) rfl;have HNI:=lhd (QQ.out.2 rfl);go_wp2_with fail;refine(HKV.out _).mono ?_;rintro e w2 ⟨rfl,hb3⟩;have HB3:=lhd (zem HB2.out hb3);have HM3:=lhd (HMB.out _ HB3.out);clear hb3 hlk;go_wp2_with (refine zqY _ rfl _ _ _ 270 rfl 4 Tryz.underlying270 w.heap.size k _ rfl HM3.out (by unfold maxLen;omega) kx (.bool true) rfl rfl HDK.out ?_;intro w3 hm3 hg3)
    have HM4:=lhd (hm3.ext (fun s=>zmE seen kx s));have HB4:=lhd ((HB.out.trans (HB3.out.mono HB.out.size)).grown hg3 (by have:=HB.out.size;have:=HB3.out.size;omega) (fun j ej=>by injection ej with ej;omega));clear hm3 hg3;go_wp2_with fail;go_roundw;case rel=>exact⟨k+1,hlt,by go_num,by rw[HTK.out];exact zh5.2 ⟨HND.out,HNI.out⟩,by rw[HTK.out];exact HM4.out,HB4.out⟩
    case measure=>simp[intOf];omega
   ·rw[hin]at hlk QQ;clear hin;have HRF:=lhd (show R=false from HNO.out (QQ.out.1 rfl));go_wp2_with fail;go_ret;exact⟨zli HRF.out.symm,HB.out.trans (HB2.out.mono HB.out.size)⟩
  ·obtain rfl:k=L.length:=by omega
   have HRT:=lhd (show R=true by
    rw[HR.out,zpo];have:=HND.out;rwa [List.take_of_length_le (Nat.le_refl _)]at this)
   clear hlt;go_wp2_with fail;go_ret;exact⟨zli HRT.out.symm,HB.out⟩
theorem zfE (v:Value) (L:List Vr) (w:World) (hs:SlR w v L.length (vrs L)) (hl:L.length≤1000) (hd:∀x∈L,((Lit.int .i64 x.sc).wf=true∧x.nm.length≤maxLen)∧(Lit.int .i64 x.mb).wf=true∧(Lit.int .i64 x.lb).wf=true):
 Calls Tryz.prog 216 #[v,(.func (.func 217) #[] #[])] w fun e w'=>e=.returned (.bool (uniq zqi L))∧Below w.heap.size w w':=by
 obtain⟨a,cap,rfl,-,-⟩:=hs.shape;have HS:=lhd hs;have HD:=lhd (show ∀x∈L,(zdS).dom (zqi x)from hd);have HM0:=lhd (KMap.made zdS w);have HB0:=lhd (show Below w.heap.size w (w.alloc (.map #[] 0))from(Below.refl _ _).alloc (Nat.le_refl _) _);obtain⟨R,hR⟩:∃R,R=uniq zqi L:=⟨_,rfl⟩;rw[←hR];have HR:=lhd hR;clear hs hd hR;have hmm:= @run_makeMap Tryz.prog;go_enter Tryz.func216,Tryz.ntmps216;go_wp2_with fail;clear hmm;go_loopw [11] (fun i wr=>∃k:Nat,k≤L.length∧i=.int .i64 k∧((L.take k).map zqi).Nodup∧KMap zdS wr w.heap.size k (zmC ((L.take k).map zqi))∧Below w.heap.size w wr) (fun i _=>L.length-(intOf i).toNat)
 case atStart=>exact⟨0,Nat.zero_le _,rfl,by simp,HM0.out,HB0.out⟩
 case round=>
  obtain⟨k,hk,rfl,hnd,hm,hb⟩:=hrel;have HND:=lhd hnd;have HM:=lhd hm;have HB:=lhd hb;clear hnd hm hb;by_cases hlt:k<L.length
  ·obtain⟨b,o,rfl,hcell⟩:=(HS.out.below HB.out).vrs hlt;have HTK:=lhd (show(L.take (k+1)).map zqi=(L.take k).map zqi++ [zqi L[k]]by rw[List.take_succ_eq_append_getElem hlt,List.map_append];rfl);have HDK:=lhd (HD.out L[k] (List.getElem_mem hlt))
   have HNO:=lhd (fun(hin:zqi L[k]∈(L.take k).map zqi)=>(show R=false by
    rw[HR.out,←Bool.not_eq_true,zpo];intro hall;rw[←List.take_append_drop (k+1) L,List.map_append,HTK.out,List.nodup_append]at hall;exact(zh5.1 hall.1).2 hin))
   have HKY:=lhd (fun W=>zfG L[k] W);generalize hxk:L[k]=x at*;clear hxk;generalize hseen:(L.take k).map zqi=seen at*;clear hseen;obtain⟨kx,hkx⟩:∃kx,zqi x=kx:=⟨_,rfl⟩;have HKV:=lhd (show ∀W,Calls Tryz.prog 217 #[vrV x] W fun e w'=>e=.returned (zdT kx)∧Below W.heap.size W w' by rw[←hkx];exact HKY.out);rw[hkx]at HTK HDK HNO;clear HKY hkx
   have HLK:=lhd (fun(W:World) (hW:Below wr.heap.size wr W)=>(show(Instr.lookup 271 (.map (some w.heap.size)) (zdT kx) false).run Tryz.prog W=.ok (.bool (inB seen kx)) W by
    have:=(HM.out.below hW HM.out.lt).look1 (t:=271) Tryz.underlying271 (zq1 W) kx HDK.out;rw[zmD]at this;exact this))
   have HIN:=lhd (show ∀b,inB seen kx=b→(b=true→kx∈seen)∧(b=false→kx∉seen)by
    rintro b rfl;exact⟨zfR.1,fun h hm=>by rw[zfR.2 hm]at h;cases h⟩)
   have HMB:=lhd (fun(W:World) (hW:Below wr.heap.size wr W)=>HM.out.below hW HM.out.lt);obtain⟨nm,ty,sc,sg,rg,mb,lb⟩:=x;have d0:wr.cell? ⟨b,o+k*7,none⟩=some (.string (bsB nm)):=hcell 0 _ rfl;have d1:wr.cell? ⟨b,o+k*7+1,none⟩=some (.int .i64 ty):=hcell 1 _ rfl;have d2:wr.cell? ⟨b,o+k*7+2,none⟩=some (.int .i64 sc):=hcell 2 _ rfl;have d3:wr.cell? ⟨b,o+k*7+3,none⟩=some (.int .i64 sg):=hcell 3 _ rfl;have d4:wr.cell? ⟨b,o+k*7+4,none⟩=some (.bool rg):=hcell 4 _ rfl;have d5:wr.cell? ⟨b,o+k*7+5,none⟩=some (.int .i64 mb):=hcell 5 _ rfl;have d6:wr.cell? ⟨b,o+k*7+6,none⟩=some (.int .i64 lb):=hcell 6 _ rfl;clear hcell;go_wp2_with fail;refine(HKV.out _).mono ?_;rintro e w1 ⟨rfl,hb1⟩;have HX1:=lhd ((zal.fresh wr #[.string (bsB nm),.int .i64 ty,.int .i64 sc,.int .i64 sg,.bool rg,.int .i64 mb,.int .i64 lb] 42).below hb1 (by simp));have hb2:=zel hb1;have hlk:=HLK.out _ hb2;have HB2:=lhd hb2;obtain⟨q0,q1⟩:=HIN.out _ rfl;have QQ:=lhd (And.intro q0 q1);clear hb1 hb2 q0 q1;cases hin:inB seen kx
   ·rw[hin]at hlk QQ;clear hin;have z0:=HX1.out.cell (j:=0) rfl;have z1:=HX1.out.cell (j:=1) rfl;have z2:=HX1.out.cell (j:=2) rfl;have z3:=HX1.out.cell (j:=3) rfl;have z4:=HX1.out.cell (j:=4) rfl;have z5:=HX1.out.cell (j:=5) rfl;have z6:=HX1.out.cell (j:=6) rfl;have HNI:=lhd (QQ.out.2 rfl);go_wp2_with fail;refine(HKV.out _).mono ?_;rintro e w2 ⟨rfl,hb3⟩;have HB3:=lhd (zem HB2.out hb3);have HM3:=lhd (HMB.out _ HB3.out);clear hb3 hlk;go_wp2_with (refine zqY _ rfl _ _ _ 271 rfl 4 Tryz.underlying271 w.heap.size k _ rfl HM3.out (by unfold maxLen;omega) kx (.bool true) rfl rfl HDK.out ?_;intro w3 hm3 hg3)
    have HM4:=lhd (hm3.ext (fun s=>zmE seen kx s));have HB4:=lhd ((HB.out.trans (HB3.out.mono HB.out.size)).grown hg3 (by have:=HB.out.size;have:=HB3.out.size;omega) (fun j ej=>by injection ej with ej;omega));clear hm3 hg3;go_wp2_with fail;go_roundw;case rel=>exact⟨k+1,hlt,by go_num,by rw[HTK.out];exact zh5.2 ⟨HND.out,HNI.out⟩,by rw[HTK.out];exact HM4.out,HB4.out⟩
    case measure=>simp[intOf];omega
   ·rw[hin]at hlk QQ;clear hin;have HRF:=lhd (show R=false from HNO.out (QQ.out.1 rfl));go_wp2_with fail;go_ret;exact⟨zli HRF.out.symm,HB.out.trans (HB2.out.mono HB.out.size)⟩
  ·obtain rfl:k=L.length:=by omega
   have HRT:=lhd (show R=true by
    rw[HR.out,zpo];have:=HND.out;rwa [List.take_of_length_le (Nat.le_refl _)]at this)
   clear hlt;go_wp2_with fail;go_ret;exact⟨zli HRT.out.symm,HB.out⟩
theorem zfo (s:Bs) (w:World) (hm:s.length≤100000):Calls Tryz.prog 204 #[.string (bsB s)] w fun e w'=>e=.returned (.bool (!zhM s))∧Below w.heap.size w w':=by
 have HP:=lhd (zhV (bsB s) w (by rw[zbt];exact hm));rw[zbq]at HP;generalize zhM s=r at HP⊢;go_enter Tryz.func204,Tryz.ntmps204;go_wp2_with fail;refine HP.out.mono ?_;rintro e w1 ⟨rfl,hb⟩;go_wp2_with fail;go_ret;exact⟨rfl,hb⟩
def outB (n m:Int):Bool:=decide (n<0)||decide (m<n)
theorem zfp (n m:Int) (w:World):Calls Tryz.prog 206 #[.int .i64 n,.int .i64 m] w fun e w'=>e=.returned (.bool (outB n m))∧Below w.heap.size w w':=by
 have HR:=lhd (show(decide (n<0)||decide (m<n))=outB n m from rfl);by_cases h1:n<0
 ·have b1:decide (n<0)=true:=by simpa using h1
  rw[b1]at HR;clear h1;go_enter Tryz.func206,Tryz.ntmps206;go_wp2_with fail;go_ret;exact⟨zli HR.out,Below.refl _ _⟩
 ·have b1:decide (n<0)=false:=by simpa using h1
  by_cases h2:m<n
  ·have b2:decide (m<n)=true:=by simpa using h2
   rw[b1,b2]at HR;clear h1 h2;go_enter Tryz.func206,Tryz.ntmps206;go_wp2_with fail;go_ret;exact⟨zli HR.out,Below.refl _ _⟩
  ·have b2:decide (m<n)=false:=by simpa using h2
   rw[b1,b2]at HR;clear h1 h2;go_enter Tryz.func206,Tryz.ntmps206;go_wp2_with fail;go_ret;exact⟨zli HR.out,Below.refl _ _⟩
def zad (w:World) (pt:Nat) (f:Nat):Prop:=w.cell? ⟨pt,0,none⟩=some (.func (.func f) #[] #[])
theorem zfq (pt:Nat) (x:Sc) (w:World) (hc:zad w pt 204) (hm:(x.1).length≤100000):
 Calls Tryz.prog 209 #[scV x,.pointer (some ⟨pt,0,none⟩)] w fun e w'=>e=.returned (.bool (!zhM x.1))∧Below w.heap.size w w':=by
 have hlt:=zbT hc;have hne:pt≠w.heap.size:=Nat.ne_of_lt hlt;unfold zad at hc;obtain⟨nm,ty,pa⟩:=x;have HP:=lhd (fun W=>zfo nm W hm);generalize zhM nm=r at HP⊢;go_enter Tryz.func209,Tryz.ntmps209;go_wp2_with fail;refine(HP.out _).mono ?_;rintro e w1 ⟨rfl,hb⟩;have HB:=lhd (zel hb);clear hb;go_wp2_with fail;go_ret;exact⟨rfl,HB.out⟩
theorem zfs (pt:Nat) (x:Vr) (w:World) (hc:zad w pt 204) (hm:(x.nm).length≤100000):
 Calls Tryz.prog 211 #[vrV x,.pointer (some ⟨pt,0,none⟩)] w fun e w'=>e=.returned (.bool (!zhM x.nm))∧Below w.heap.size w w':=by
 have hlt:=zbT hc;have hne:pt≠w.heap.size:=Nat.ne_of_lt hlt;unfold zad at hc;obtain⟨nm,ty,sc,sg,rg,mb,lb⟩:=x;have HP:=lhd (fun W=>zfo nm W hm);generalize zhM nm=r at HP⊢;go_enter Tryz.func211,Tryz.ntmps211;go_wp2_with fail;refine(HP.out _).mono ?_;rintro e w1 ⟨rfl,hb⟩;have HB:=lhd (zel hb);clear hb;go_wp2_with fail;go_ret;exact⟨rfl,HB.out⟩
theorem zfr (pt:Nat) (x:Sc) (w:World) (hc:zad w pt 206):
 Calls Tryz.prog 212 #[scV x,.pointer (some ⟨pt,0,none⟩)] w fun e w'=>e=.returned (.bool (outB x.2.1 4))∧Below w.heap.size w w':=by
 have hlt:=zbT hc;have hne:pt≠w.heap.size:=Nat.ne_of_lt hlt;unfold zad at hc;obtain⟨nm,ty,pa⟩:=x;have HP:=lhd (fun W=>zfp ty 4 W);dsimp only at HP⊢;generalize outB ty 4=r at HP⊢;go_enter Tryz.func212,Tryz.ntmps212;go_wp2_with fail;refine(HP.out _).mono ?_;rintro e w1 ⟨rfl,hb⟩;have HB:=lhd (zel hb);clear hb;go_wp2_with fail;go_ret;exact⟨rfl,HB.out⟩
theorem zfu (pt:Nat) (x:Vr) (w:World) (hc:zad w pt 206):
 Calls Tryz.prog 213 #[vrV x,.pointer (some ⟨pt,0,none⟩)] w fun e w'=>e=.returned (.bool (outB x.ty 18))∧Below w.heap.size w w':=by
 have hlt:=zbT hc;have hne:pt≠w.heap.size:=Nat.ne_of_lt hlt;unfold zad at hc;obtain⟨nm,ty,sc,sg,rg,mb,lb⟩:=x;have HP:=lhd (fun W=>zfp ty 18 W);dsimp only at HP⊢;generalize outB ty 18=r at HP⊢;go_enter Tryz.func213,Tryz.ntmps213;go_wp2_with fail;refine(HP.out _).mono ?_;rintro e w1 ⟨rfl,hb⟩;have HB:=lhd (zel hb);clear hb;go_wp2_with fail;go_ret;exact⟨rfl,HB.out⟩
theorem zft (x:Vr) (w:World):Calls Tryz.prog 207 #[vrV x] w fun e w'=>e=.returned (.bool (zkE x))∧Below w.heap.size w w':=by
 obtain⟨nm,ty,sc,sg,rg,mb,lb⟩:=x;have HP:=lhd (fun W=>zhW mb lb W);obtain⟨R,hR⟩:∃R,R=zkE ⟨nm,ty,sc,sg,rg,mb,lb⟩:=⟨_,rfl⟩;rw[←hR];unfold zkE at hR;dsimp only at hR;have hal:Below w.heap.size w (w.alloc (.cells #[.string (bsB nm),.int .i64 ty,.int .i64 sc,.int .i64 sg,.bool rg,.int .i64 mb,.int .i64 lb] 42)):=(Below.refl _ _).alloc (Nat.le_refl _) _;cases rg
 ·rw[if_neg (by decide)]at hR;by_cases h1:mb=0
  ·by_cases h2:lb=0
   ·have HR:=lhd (show R=false by rw[hR];simp[h1,h2]);have b1:(mb==0)=true:=by simp[h1]
    have b2:(lb==0)=true:=by simp[h2]
    subst h1 h2;clear hR HP;go_enter Tryz.func207,Tryz.ntmps207;go_wp2_with fail;go_ret;exact⟨zli HR.out.symm,hal⟩
   ·have HR:=lhd (show R=true by rw[hR];simp[h2]);have b2:(lb==0)=false:=by simpa using h2
    have b3:(lb !=0)=true:=by simpa using h2
    subst h1;clear hR HP h2;go_enter Tryz.func207,Tryz.ntmps207;go_wp2_with fail;go_ret;exact⟨zli HR.out.symm,hal⟩
  ·have HR:=lhd (show R=true by rw[hR];simp[h1]);have b2:(mb==0)=false:=by simpa using h1
   have b3:(mb !=0)=true:=by simpa using h1
   clear hR HP h1;go_enter Tryz.func207,Tryz.ntmps207;go_wp2_with fail;go_ret;exact⟨zli HR.out.symm,hal⟩
 ·rw[if_pos rfl]at hR;have HR:=lhd (show R=(zqJ mb lb==0)by rw[hR];rfl);generalize zqJ mb lb=q at HP HR;clear hR;go_enter Tryz.func207,Tryz.ntmps207;go_wp2_with fail;refine(HP.out _).mono ?_;rintro e w1 ⟨rfl,rfl⟩;go_wp2_with fail;go_ret;exact⟨zli HR.out.symm,hal⟩
open Go.RowKit Go.WideMaps Go.Shelf
attribute [local go_sem] Oper.semAt_some
theorem zqX {P:Program} {K:TypeId} {κ:Type} [DecidableEq κ] {E:KeyEnc P K κ} (w:World) {ops:Array Oper} {rest:List Oper} {o:Oper} {a:Act} {Q:Exit→Act→World→Prop}
 (hg:o.guard=none) (m x v:Operand) (t:TypeId) (hop:o.op=Op.insert t m x v) (e:TypeId) (ht:P.underlying t=some (.map K e)) (b n:Nat) (f:κ→Option Value)
 (hm:a.eval m=.map (some b)) (hown:KMap E w b n f) (hn:n<maxLen) (k:κ) (val:Value) (hx:a.eval x=E.vK k) (hv:a.eval v=val) (hk:E.dom k)
 (hC:∀w',KMap E w' b (n+1) (fun y=>if y=k then some val else f y)→w.grownBy w' (some b)→wpList P ops Q rest (a.put o.dst undef) w'):
 wpList P ops Q (o::rest) a w:=by
 refine wpList_plain hg fun K' hK'=>?_;obtain⟨w',hrun,r1,r2⟩:=hown.put ht hn k hk val;unfold Oper.wp;simp[execOp,hop,hm,hx,hv,hrun,Result.andThen];exact hK' _ _ (hC w' r1 r2)
theorem zqV {F:Fence} {nF:Nat} {P:Program} {K:TypeId} {κ:Type} [DecidableEq κ] {E:KeyEnc P K κ} (w:World) {ops:Array Oper} {rest:List Oper} {o:Oper} {a:Act} {Q:Exit→Act→World→Prop}
 (hg:o.guard=none) (m x v:Operand) (t:TypeId) (hop:o.op=Op.mapUpdate t m x v) (e:TypeId) (ht:P.underlying t=some (.map K e)) (b n:Nat) (f:κ→Option Value)
 (hm:a.eval m=.map (some b)) (hown:KMap E w b n f) (hn:n<maxLen) (k:κ) (val:Value) (hx:a.eval x=E.vK k) (hv:a.eval v=val) (hk:E.dom k)
 (hC:∀w',KMap E w' b (n+1) (fun y=>if y=k then some val else f y)→w.grownBy w' (some b)→wpListIn F nF P ops Q rest (a.put o.dst undef) w'):
 wpListIn F nF P ops Q (o::rest) a w:=by
 refine wpListIn_plain hg fun K' hK'=>?_;obtain⟨w',hrun,r1,r2⟩:=hown.put ht hn k hk val;unfold Oper.wpIn;refine⟨by simp[Oper.about,hop],?_⟩;rw[Oper.semAt_plain F _ _ (by rw[hop];intro c hc';cases hc')];simp[execOp,hop,hm,hx,hv,hrun,Result.andThen];exact hK' _ _ (hC w' r1 r2)
def nowF (ord:List Nat) (k:Nat) (x:Int):Option Value:=if x= -1∨(0≤x∧x.toNat∈ord.take k)then some (.int .i64 (pos ord x))else none
theorem zik {ord:List Nat} (hn:ord.Nodup) {k:Nat} (hk:k<ord.length) (y:Int):(if y=(ord[k]:Int)then some (Value.int .i64 (k:Int))else nowF ord k y)=nowF ord (k+1) y:=by
 have hix:ord.idxOf ord[k]=k:=hn.idxOf_getElem k hk;by_cases hy:y=(ord[k]:Int)
 ·subst hy;rw[if_pos rfl];unfold nowF;rw[if_pos (.inr ⟨by omega,by rw[Int.toNat_natCast,List.take_succ_eq_append_getElem hk];exact List.mem_append_right _ (List.mem_singleton.2 rfl)⟩)];unfold pos;rw[if_neg (by omega),Int.toNat_natCast,hix]
 ·rw[if_neg hy];unfold nowF
  have e:(y= -1∨(0≤y∧y.toNat∈ord.take (k+1)))↔(y= -1∨(0≤y∧y.toNat∈ord.take k)):=by
   rw[List.take_succ_eq_append_getElem hk];simp only[List.mem_append,List.mem_singleton];constructor
   ·rintro(h|⟨h1,h2|h2⟩)
    ·exact .inl h
    ·exact .inr ⟨h1,h2⟩
    ·exact absurd (show y=(ord[k]:Int)by omega) hy
   ·rintro(h|⟨h1,h2⟩)
    ·exact .inl h
    ·exact .inr ⟨h1,.inl h2⟩
  by_cases h:y= -1∨(0≤y∧y.toNat∈ord.take k)
  ·rw[if_pos h,if_pos (e.2 h)]
  ·rw[if_neg h,if_neg (fun h'=>h (e.1 h'))]
theorem zil (ord:List Nat) (y:Int):(if y= -1 then some (Value.int .i64 (-1))else none)=nowF ord 0 y:=by
 unfold nowF;by_cases hy:y= -1
 ·subst hy;rw[if_pos rfl,if_pos (.inl rfl)];rfl
 ·rw[if_neg hy,if_neg];rintro(h|⟨-,h⟩)
  ·exact hy h
  ·simp at h
structure OrI (w:World) (v:Value) (b9 bq:Nat) (S:List Sc) (k km:Nat) (vo:Value) (W:World):Prop where
 bs:W.heap[w.heap.size]? =some (.cells #[v] 22 (0,0))
 bo:W.heap[b9]? =some (.cells #[vo] 22 (0,0))
 bn:W.heap[bq]? =some (.cells #[.map (some (b9+1))] 93 (0,0))
 m:KMap (zf7 (P:=Tryz.prog) (K:=3) Tryz.underlying3) W (b9+1) (km+1) (nowF (preS S) km)
 o:W.ownsRow w.heap.size 55 3 vo k (scs ((scF S).take k))
 b:Below w.heap.size w W
 z:w.heap.size<b9∧b9+1<bq
theorem OrI.turn {w W V:World} {v vo:Value} {b9 bq k km B:Nat} {S:List Sc} (h:OrI w v b9 bq S k km vo W) (hB:bq<B) (ht:TurnI B 5 W V):OrI w v b9 bq S k km vo V:=by
 have hz:=h.z
 exact⟨(ht.low _ (by omega)).trans h.bs,(ht.low _ (by omega)).trans h.bo,(ht.low _ (by omega)).trans h.bn,h.m.same (ht.low _ (by omega)),zjI h.o ht (by decide),
  ⟨ht.os.trans h.b.os,ht.tape.trans h.b.tape,ht.output.trans h.b.output,Nat.le_trans h.b.size ht.size,fun b hb=>(ht.low b (by omega)).trans (h.b.block b hb)⟩,h.z⟩
theorem OrI.below {w W V:World} {v vo:Value} {b9 bq k km:Nat} {S:List Sc} (h:OrI w v b9 bq S k km vo W) (hb:Below W.heap.size W V):OrI w v b9 bq S k km vo V:=by
 have hs:=Same0.of_below hb;exact⟨hs.cells _ _ _ _ h.bs,hs.cells _ _ _ _ h.bo,hs.cells _ _ _ _ h.bn,h.m.below hb h.m.lt,zjF h.o hs,h.b.trans (hb.mono h.b.size),h.z⟩
theorem OrI.setM {w W W1:World} {v vo:Value} {b9 bq k:Nat} {S:List Sc} (h:OrI w v b9 bq S k k vo W) (hn:(preS S).Nodup) (hk:k<(preS S).length)
 (hm:KMap (zf7 (P:=Tryz.prog) (K:=3) Tryz.underlying3) W1 (b9+1) (k+1+1) (fun y=>if y=((preS S)[k]:Int)then some (.int .i64 (k:Int))else nowF (preS S) k y)) (hg:W.grownBy W1 (some (b9+1))):OrI w v b9 bq S k (k+1) vo W1:=by
 have hz:=h.z
 have hne:∀(i:Nat) (D:Array Value) (T:TypeId) (fr:Nat×Nat),W.heap[i]? =some (.cells D T fr)→W1.heap[i]? =some (.cells D T fr):=by
  intro i D T fr hi
  rw[hg.block i (Array.getElem?_eq_some_iff.1 hi).1 (fun q=>by
   injection q with q;subst q;exact h.m.no_cells hi)]
  exact hi
 exact⟨hne _ _ _ _ h.bs,hne _ _ _ _ h.bo,hne _ _ _ _ h.bn,hm.ext (fun y=>zik hn hk y),h.o.kept hg (.inr fun e=>h.m.ne_row h.o e.symm),h.b.grown hg h.b.size (fun j hj=>by injection hj with hj;omega),hz⟩
theorem OrI.add {w W W1:World} {v vo vo':Value} {b9 bq k km:Nat} {S:List Sc} {x:Sc} (h:OrI w v b9 bq S k km vo W) (hx:(scF S)[k]? =some x) (ho:W1.ownsRow w.heap.size 55 3 vo' (k+1) (scs ((scF S).take k)++scC x)) (hg:W.grownBy W1 vo.ownBlock):
 OrI w v b9 bq S (k+1) km vo' (W1.setCell ⟨b9,0,none⟩ vo'):=by
 have hz:=h.z
 have hne:∀(i:Nat) (D:Array Value) (T:TypeId) (fr:Nat×Nat),W.heap[i]? =some (.cells D T fr)→T≠55→W1.heap[i]? =some (.cells D T fr):=by
  intro i D T fr hi hT
  rw[hg.block i (Array.getElem?_eq_some_iff.1 hi).1 (fun q=>by
   rcases h.o.2 with⟨rfl,-⟩|⟨g',cap',cur,rfl,-,hgb,-⟩
   ·cases q
   ·injection q with q;subst q;rw[hgb]at hi;injection hi with hi;injection hi with _ h5 _;exact hT h5.symm)]
  exact hi
 have h1:=hne _ _ _ _ h.bs (by decide);have h2:=hne _ _ _ _ h.bo (by decide);have h3:=hne _ _ _ _ h.bn (by decide);have hm:=(h.m.kept hg (h.m.ne_row h.o)).setCell (a:=⟨b9,0,none⟩) (by show b9+1≠b9;omega) vo';refine⟨zfl (by omega) h1,zfm h2,zfl (by omega) h3,hm,?_,(h.b.grown hg h.b.size (fun k hk=>(h.o.lt _ hk).1)).setCell (p:=⟨b9,0,none⟩) (by show w.heap.size≤b9;omega) _,hz⟩;rw[List.take_add_one,hx,zmv];show World.ownsRow _ _ _ _ _ _ (scs ((scF S).take k)++scs [x]);have e:scs [x]=scC x:=by simp[scs]
 rw[e];refine ownsRow_setCell_other (a:=⟨b9,0,none⟩) ho (fun q=>?_) _;rcases ho.2 with⟨rfl,-⟩|⟨g',cap',cur,rfl,-,hgb,-⟩
 ·cases q
 ·injection q with q;subst q;rw[hgb]at h2;injection h2 with h2;injection h2 with _ h5 _;exact absurd h5 (by decide)
theorem OrI.keepBo {w W W1:World} {v vo:Value} {b9 bq k km:Nat} {S:List Sc} (h:OrI w v b9 bq S k km vo W) (hg:W.grownBy W1 vo.ownBlock):W1.heap[b9]? =some (.cells #[vo] 22 (0,0)):=by
 rw[hg.block b9 (Array.getElem?_eq_some_iff.1 h.bo).1 (fun q=>by
  rcases h.o.2 with⟨rfl,-⟩|⟨g',cap',cur,rfl,-,hgb,-⟩
  ·cases q
  ·injection q with q;subst q;have hi:=h.bo;rw[hgb]at hi;injection hi with hi;injection hi with _ h5 _;exact absurd h5 (by decide))]
 exact h.bo
theorem OrI.others {w W W1:World} {v vo vo':Value} {b9 bq k km:Nat} {S:List Sc} (h:OrI w v b9 bq S k km vo W) (hg:W.grownBy W1 vo.ownBlock):KeepsOthers W (W1.setCell ⟨b9,0,none⟩ vo'):=by
 refine(KeepsOthers.of_grownBy hg fun j o ej hj=>?_).trans (KeepsOthers.setCell _ _ _);rcases h.o.2 with⟨rfl,_⟩|⟨g,cap,cur,rfl,_,hgb,_⟩
 ·simp[Value.ownBlock]at ej
 ·obtain rfl:g=j:=by simpa[Value.ownBlock] using ej
  rw[hgb]at hj;cases hj;rfl
theorem OrI.kp {w W W1:World} {v vo vo':Value} {b9 bq k km:Nat} {S:List Sc} (h:OrI w v b9 bq S k km vo W) (hg:W.grownBy W1 vo.ownBlock):KpO w.heap.size W (W1.setCell ⟨b9,0,none⟩ vo'):=by
 refine⟨by have:=hg.size;simpa using this,fun b C T fr hb hc=>?_⟩;have hz:=h.z;rw[Below.heap_setCell _ _ _ _ (by show b≠b9;omega),hg.block b (Array.getElem?_eq_some_iff.1 hc).1 (fun q=>by have:=(h.o.lt _ q.symm).1;omega)];exact hc
theorem zjO {S:List Sc} {k:Nat} (hk:k<(preS S).length):parS S (preS S)[k]= -1∨(0≤parS S (preS S)[k]∧(parS S (preS S)[k]).toNat∈(preS S).take (k+1)):=by
 have hsp:preS S=(preS S).take k++(preS S)[k]::(preS S).drop (k+1):=by rw[←List.drop_eq_getElem_cons hk,List.take_append_drop]
 rcases zkk _ _ _ _ _ hsp with h|⟨y,hy,h⟩
 ·exact .inl h
 ·rw[h];refine .inr ⟨by omega,?_⟩;rw[Int.toNat_natCast,List.take_succ_eq_append_getElem hk];exact List.mem_append_left _ hy
end Go.Proofs.YtbiadennhnokhaaGreatDoor
