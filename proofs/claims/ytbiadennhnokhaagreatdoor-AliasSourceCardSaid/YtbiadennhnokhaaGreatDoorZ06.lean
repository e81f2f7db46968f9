import Derived.Test.YtbiadennhnokhaaGreatDoorZ00
import Derived.BigQuiet
import Derived.BigRegion
import Derived.Deep.Cut
import Derived.Deep.CutRange
import Derived.Deep.DeepCutAuto
import Derived.Deep.LoopGhost
import Derived.Deep.QuietTactic
import Derived.Laws.AppendOwnNone
import Derived.Laws.EntriesVeiled
import Derived.Lib.AppendIntMem
import Derived.Lib.AppendStr
import Derived.Lib.AppendZeros
import Derived.Lib.IndexAny
import Derived.Lib.IndexBytes
import Derived.Lib.ItoaLen
import Derived.Lib.Join
import Derived.Lib.LazyBuf
import Derived.Lib.SplitLaws
import Derived.Lib.Strings
import Derived.Maps.AppendAt
import Derived.Maps.OwnIn
import Derived.Test.YtbiadennhnokhaaGreatDoorZ01
import Derived.Test.YtbiadennhnokhaaGreatDoorZ02
import Derived.Test.YtbiadennhnokhaaGreatDoorZ03
set_option maxRecDepth 100000
set_option maxHeartbeats 16000000
namespace Go.Proofs.YtbiadennhnokhaaGreatDoor
open Go.RowKit
set_option linter.unusedSimpArgs false
def vrC (v:Vr):List Value:=[.string (bsB v.nm),.int .i64 v.ty,.int .i64 v.sc,.int .i64 v.sg,.bool v.rg,.int .i64 v.mb,.int .i64 v.lb]
def scC (s:Sc):List Value:=[.string (bsB s.1),.int .i64 s.2.1,.int .i64 s.2.2]
def gpC (g:Int×Int):List Value:=[.int .i64 g.1,.int .i64 g.2]
def vrs (l:List Vr):List Value:=l.flatMap vrC
def scs (l:List Sc):List Value:=l.flatMap scC
def gps (l:List (Int×Int)):List Value:=l.flatMap gpC
abbrev vrV (v:Vr):Value:=.agg #[.string (bsB v.nm),.int .i64 v.ty,.int .i64 v.sc,.int .i64 v.sg,.bool v.rg,.int .i64 v.mb,.int .i64 v.lb]
abbrev scV (s:Sc):Value:=.agg #[.string (bsB s.1),.int .i64 s.2.1,.int .i64 s.2.2]
theorem zqK (l m:List Vr):vrs (l++m)=vrs l++vrs m:=by simp[vrs]
theorem zqM (x:Vr) (l:List Vr):vrs (x::l)=vrC x++vrs l:=rfl
theorem zqN:∀l:List Vr,(vrs l).length=7*l.length
 | []=>rfl
 |x::l=>by rw[zqM,List.length_append,zqN l,List.length_cons];show 7+_=_;omega
theorem zqU (l:List Vr) (x:Vr):vrs (l++ [x])=vrs l++vrC x:=by rw[zqK];simp[vrs]
theorem zqQ:∀(l:List Vr),∀u∈vrs l,u.oneCell'=true
 | [],u,hu=>by simp[vrs]at hu
 |x::l,u,hu=>by
  rw[zqM]at hu;rcases List.mem_append.1 hu with hu|hu
  ·simp only[vrC,List.mem_cons,List.mem_nil_iff,or_false]at hu;rcases hu with rfl|rfl|rfl|rfl|rfl|rfl|rfl<;>rfl
  ·exact zqQ l u hu
theorem zqL:∀(l:List Vr) (k:Nat) (h:k<l.length) (j:Nat),j<7→(vrs l)[7*k+j]? =(vrC l[k])[j]?
 |x::l,0,_,j,hj=>by
  rw[zqM,List.getElem?_append_left (by simp[vrC];omega)];simp
 |x::l,k+1,h,j,hj=>by
  have:=zqL l k (by simpa using h) j hj;rw[zqM,List.getElem?_append_right (by simp[vrC];omega)];rw[show 7*(k+1)+j-(vrC x).length=7*k+j by simp[vrC];omega];simpa using this
theorem SlR.vrs {w:World} {a:Option Addr} {cap:Nat} {l:List Vr} (h:SlR w (.slice a l.length cap) l.length (vrs l)) {k:Nat} (hk:k<l.length):
 ∃b o,a=some ⟨b,o,none⟩∧∀(j:Nat) (u:Value),(vrC l[k])[j]? =some u→w.cell? ⟨b,o+k*7+j,none⟩=some u:=by
 obtain⟨b,o,cap',hv,-,-,hcell⟩:=h.at (by omega);injection hv with e1 _ _;refine⟨b,o,e1,fun j u hj=>?_⟩;have hjk:j<7:=by have:=(List.getElem?_eq_some_iff.1 hj).1;simpa[vrC] using this
 have:=hcell _ _ ((zqL l k hk j hjk).trans hj);rwa [Nat.mul_comm 7 k,←Nat.add_assoc]at this
theorem zmj (l m:List Sc):scs (l++m)=scs l++scs m:=by simp[scs]
theorem zml (x:Sc) (l:List Sc):scs (x::l)=scC x++scs l:=rfl
theorem zmm:∀l:List Sc,(scs l).length=3*l.length
 | []=>rfl
 |x::l=>by rw[zml,List.length_append,zmm l,List.length_cons];show 3+_=_;omega
theorem zmo:∀(l:List Sc),∀u∈scs l,u.oneCell'=true
 | [],u,hu=>by simp[scs]at hu
 |x::l,u,hu=>by
  rw[zml]at hu;rcases List.mem_append.1 hu with hu|hu
  ·simp only[scC,List.mem_cons,List.mem_nil_iff,or_false]at hu;rcases hu with rfl|rfl|rfl<;>rfl
  ·exact zmo l u hu
theorem zmk:∀(l:List Sc) (k:Nat) (h:k<l.length) (j:Nat),j<3→(scs l)[3*k+j]? =(scC l[k])[j]?
 |x::l,0,_,j,hj=>by
  rw[zml,List.getElem?_append_left (by simp[scC];omega)];simp
 |x::l,k+1,h,j,hj=>by
  have:=zmk l k (by simpa using h) j hj;rw[zml,List.getElem?_append_right (by simp[scC];omega)];rw[show 3*(k+1)+j-(scC x).length=3*k+j by simp[scC];omega];simpa using this
theorem SlR.scs {w:World} {a:Option Addr} {cap:Nat} {l:List Sc} (h:SlR w (.slice a l.length cap) l.length (scs l)) {k:Nat} (hk:k<l.length):
 ∃b o,a=some ⟨b,o,none⟩∧∀(j:Nat) (u:Value),(scC l[k])[j]? =some u→w.cell? ⟨b,o+k*3+j,none⟩=some u:=by
 obtain⟨b,o,cap',hv,-,-,hcell⟩:=h.at (by omega);injection hv with e1 _ _;refine⟨b,o,e1,fun j u hj=>?_⟩;have hjk:j<3:=by have:=(List.getElem?_eq_some_iff.1 hj).1;simpa[scC] using this
 have:=hcell _ _ ((zmk l k hk j hjk).trans hj);rwa [Nat.mul_comm 3 k,←Nat.add_assoc]at this
theorem zfB (l m:List (Int×Int)):gps (l++m)=gps l++gps m:=by simp[gps]
theorem zfD (x:(Int×Int)) (l:List (Int×Int)):gps (x::l)=gpC x++gps l:=rfl
theorem zfE:∀l:List (Int×Int),(gps l).length=2*l.length
 | []=>rfl
 |x::l=>by rw[zfD,List.length_append,zfE l,List.length_cons];show 2+_=_;omega
theorem zfG:∀(l:List (Int×Int)),∀u∈gps l,u.oneCell'=true
 | [],u,hu=>by simp[gps]at hu
 |x::l,u,hu=>by
  rw[zfD]at hu;rcases List.mem_append.1 hu with hu|hu
  ·simp only[gpC,List.mem_cons,List.mem_nil_iff,or_false]at hu;rcases hu with rfl|rfl<;>rfl
  ·exact zfG l u hu
theorem zfC:∀(l:List (Int×Int)) (k:Nat) (h:k<l.length) (j:Nat),j<2→(gps l)[2*k+j]? =(gpC l[k])[j]?
 |x::l,0,_,j,hj=>by
  rw[zfD,List.getElem?_append_left (by simp[gpC];omega)];simp
 |x::l,k+1,h,j,hj=>by
  have:=zfC l k (by simpa using h) j hj;rw[zfD,List.getElem?_append_right (by simp[gpC];omega)];rw[show 2*(k+1)+j-(gpC x).length=2*k+j by simp[gpC];omega];simpa using this
theorem SlR.gps {w:World} {a:Option Addr} {cap:Nat} {l:List (Int×Int)} (h:SlR w (.slice a l.length cap) l.length (gps l)) {k:Nat} (hk:k<l.length):
 ∃b o,a=some ⟨b,o,none⟩∧∀(j:Nat) (u:Value),(gpC l[k])[j]? =some u→w.cell? ⟨b,o+k*2+j,none⟩=some u:=by
 obtain⟨b,o,cap',hv,-,-,hcell⟩:=h.at (by omega);injection hv with e1 _ _;refine⟨b,o,e1,fun j u hj=>?_⟩;have hjk:j<2:=by have:=(List.getElem?_eq_some_iff.1 hj).1;simpa[gpC] using this
 have:=hcell _ _ ((zfC l k hk j hjk).trans hj);rwa [Nat.mul_comm 2 k,←Nat.add_assoc]at this
theorem zqF:(Tryz.prog.info? 42).map (fun i=>(i.zero,i.size,i.bytes))=some (some (.agg #[.string ⟨#[]⟩,.int .i64 0,.int .i64 0,.int .i64 0,.bool false,.int .i64 0,.int .i64 0]),7,64):=by kernel_rfl
theorem zl7:(Tryz.prog.info? 55).map (fun i=>(i.zero,i.size,i.bytes))=some (some (.agg #[.string ⟨#[]⟩,.int .i64 0,.int .i64 0]),3,32):=by kernel_rfl
theorem zfA:(Tryz.prog.info? 57).map (fun i=>(i.zero,i.size,i.bytes))=some (some (.agg #[.int .i64 0,.int .i64 0]),2,16):=by kernel_rfl
theorem zki {w:World} {B e size n:Nat} {g c:Nat} {xs:List Value} (h:w.ownsRow B e size (.slice (some ⟨g,0,none⟩) n c) n xs):zas w g xs:=by
 rcases h.2 with⟨h0,-⟩|⟨g',cap',cur,h0,hbase,hb,hn,hm,hsz,htk⟩
 ·cases h0
 injection h0 with e1 _ e3;injection e1 with e1;injection e1 with e1 _ _;subst e1 e3;intro j u hj
 have hj':cur.toList[j]? =some u:=by
  rw[←htk,List.getElem?_take]at hj;split at hj
  ·exact hj
  ·cases hj
 rw[Array.getElem?_toList]at hj';exact⟨by simp[World.cell?,hb,hj'],by simp[World.frozen?,hb]⟩
theorem zkk {w:World} {B e size n g c:Nat} {xs:List Value} (h:w.ownsRow B e size (.slice (some ⟨g,0,none⟩) n c) n xs) (j:Nat) (u:Value):
 (w.setCell ⟨g,j,none⟩ u).ownsRow B e size (.slice (some ⟨g,0,none⟩) n c) n (xs.set j u):=(h.stored j u).1
abbrev SO (base g n c:Nat) (w:World) (l:List Vr):Prop:=w.ownsRow base 42 7 (.slice (some ⟨g,0,none⟩) n c) n (vrs l)
theorem zqS {X Z:List Vr} (y x:Vr):((((((((vrs (X++y::Z)).set (X.length*7) (.string (bsB x.nm))).set (X.length*7+1) (.int .i64 x.ty)).set (X.length*7+2) (.int .i64 x.sc)).set (X.length*7+3) (.int .i64 x.sg)).set (X.length*7+4) (.bool x.rg)).set (X.length*7+5) (.int .i64 x.mb)).set (X.length*7+6) (.int .i64 x.lb))=vrs (X++x::Z):=by
 have hl:(vrs X).length=X.length*7:=by rw[zqN,Nat.mul_comm]
 rw[zqK,zqK,zqM,zqM,←hl];simp only[vrC,List.cons_append,List.nil_append];rw[List.set_append_right _ _ (Nat.le_refl _),Nat.sub_self,List.set_cons_zero];repeat (rw[List.set_append_right _ _ (by omega),Nat.add_sub_cancel_left])
 simp only[List.set_cons_succ,List.set_cons_zero]
theorem SO.put {base g n c:Nat} {w:World} {X Z:List Vr} {y:Vr} (h:SO base g n c w (X++y::Z)) (x:Vr):
 SO base g n c (((((((w.setCell ⟨g,X.length*7,none⟩ (.string (bsB x.nm))).setCell ⟨g,X.length*7+1,none⟩ (.int .i64 x.ty)).setCell ⟨g,X.length*7+2,none⟩ (.int .i64 x.sc)).setCell ⟨g,X.length*7+3,none⟩ (.int .i64 x.sg)).setCell ⟨g,X.length*7+4,none⟩ (.bool x.rg)).setCell ⟨g,X.length*7+5,none⟩ (.int .i64 x.mb)).setCell ⟨g,X.length*7+6,none⟩ (.int .i64 x.lb)) (X++x::Z):=by
 have:=zkk (zkk (zkk (zkk (zkk (zkk (zkk h (X.length*7) (.string (bsB x.nm))) (X.length*7+1) (.int .i64 x.ty)) (X.length*7+2) (.int .i64 x.sc)) (X.length*7+3) (.int .i64 x.sg)) (X.length*7+4) (.bool x.rg)) (X.length*7+5) (.int .i64 x.mb)) (X.length*7+6) (.int .i64 x.lb);rw[zqS]at this;exact this
theorem SO.lo {base g n c:Nat} {w:World} {l:List Vr} (h:SO base g n c w l):base≤g∧g<w.heap.size:=h.lt _ rfl
theorem SO.len {base g n c:Nat} {w:World} {l:List Vr} (h:SO base g n c w l):l.length=n:=by
 have:=h.1;rw[zqN]at this;omega
theorem SO.cap {base g n c:Nat} {w:World} {l:List Vr} (h:SO base g n c w l):n≤c∧c≤maxLen:=by
 obtain⟨a,cap,hv,h1,h2⟩:=(SlR.of_own h).shape;injection hv with _ _ e;subst e;exact⟨h1,h2⟩
theorem SO.at {base g n c:Nat} {w:World} {X Z:List Vr} {x:Vr} (h:SO base g n c w (X++x::Z)):
 w.cell? ⟨g,X.length*7,none⟩=some (.string (bsB x.nm))∧w.cell? ⟨g,X.length*7+1,none⟩=some (.int .i64 x.ty)∧w.cell? ⟨g,X.length*7+2,none⟩=some (.int .i64 x.sc)∧w.cell? ⟨g,X.length*7+3,none⟩=some (.int .i64 x.sg)∧
  w.cell? ⟨g,X.length*7+4,none⟩=some (.bool x.rg)∧w.cell? ⟨g,X.length*7+5,none⟩=some (.int .i64 x.mb)∧w.cell? ⟨g,X.length*7+6,none⟩=some (.int .i64 x.lb):=by
 have hr:=zki h;have hl:(vrs X).length=X.length*7:=by rw[zqN,Nat.mul_comm]
 have aux:∀(j:Nat) (u:Value),(vrC x)[j]? =some u→w.cell? ⟨g,X.length*7+j,none⟩=some u:=fun j u hu=>hr.cell (j:=X.length*7+j) (by
  rw[zqK,zqM,←hl,List.getElem?_append_right (Nat.le_add_right _ _),Nat.add_sub_cancel_left,List.getElem?_append_left (List.getElem?_eq_some_iff.1 hu).1];exact hu)
 exact⟨aux 0 _ rfl,aux 1 _ rfl,aux 2 _ rfl,aux 3 _ rfl,aux 4 _ rfl,aux 5 _ rfl,aux 6 _ rfl⟩
theorem zkb {w:World} {B e size n:Nat} {g c:Nat} {xs:List Value} (h:w.ownsRow B e size (.slice (some ⟨g,0,none⟩) n c) n xs) (o:Nat):w.frozen? ⟨g,o,none⟩=false:=by
 rcases h.2 with⟨h0,-⟩|⟨g',cap',cur,h0,hbase,hb,hn,hm,hsz,htk⟩
 ·cases h0
 injection h0 with e1 _ e3;injection e1 with e1;injection e1 with e1 _ _;subst e1 e3;simp[World.frozen?,hb]
theorem SO.after {base g n c:Nat} {w w':World} {l:List Vr} (h:SO base g n c w l) (hb:RowKit.Below w.heap.size w w'):SO base g n c w' l:=
 h.kept (row:=none) ⟨hb.os,hb.tape,hb.output,hb.size,fun i hi _=>hb.block i hi⟩ (by simp[Value.ownBlock])
abbrev put7 (w:World) (g o:Nat) (x:Vr):World:=((((((w.setCell ⟨g,o,none⟩ (.string (bsB x.nm))).setCell ⟨g,o+1,none⟩ (.int .i64 x.ty)).setCell ⟨g,o+2,none⟩ (.int .i64 x.sc)).setCell ⟨g,o+3,none⟩ (.int .i64 x.sg)).setCell ⟨g,o+4,none⟩ (.bool x.rg)).setCell ⟨g,o+5,none⟩ (.int .i64 x.mb)).setCell ⟨g,o+6,none⟩ (.int .i64 x.lb)
theorem zbG {base g:Nat} {w v:World} (h:RowKit.Below base w v) (hg:base≤g) (o:Nat) (x:Vr):RowKit.Below base w (put7 v g o x):=
 ((((((h.setCell hg _).setCell hg _).setCell hg _).setCell hg _).setCell hg _).setCell hg _).setCell hg _
theorem SO.swap {base g n c:Nat} {w:World} {X Y Z:List Vr} {x y:Vr} (h:SO base g n c w (X++x::(Y++y::Z))) {p q:Nat} (hp:X.length=p) (hq:X.length+1+Y.length=q):
 SO base g n c (put7 (put7 w g (p*7) y) g (q*7) x) (X++y::(Y++x::Z))∧RowKit.Below base w (put7 (put7 w g (p*7) y) g (q*7) x):=by
 have h1:=h.put y;rw[show X++y::(Y++y::Z)=(X++y::Y)++y::Z by simp]at h1;have h2:=SO.put h1 x;rw[show(X++y::Y)++x::Z=X++y::(Y++x::Z)by simp,List.length_append,List.length_cons,show X.length+(Y.length+1)=q by omega,hp]at h2;exact⟨h2,zbG (zbG (Below.refl _ _) h.lo.1 _ _) h.lo.1 _ _⟩
theorem SO.swap2 {base g n c:Nat} {w:World} {X Y Z:List Vr} {x y:Vr} (h:SO base g n c w (X++x::(Y++y::Z))) {p q:Nat} (hp:X.length=p) (hq:X.length+1+Y.length=q):
 SO base g n c (put7 (put7 w g (q*7) x) g (p*7) y) (X++y::(Y++x::Z))∧RowKit.Below base w (put7 (put7 w g (q*7) x) g (p*7) y):=by
 rw[show X++x::(Y++y::Z)=(X++x::Y)++y::Z by simp]at h;have h1:=SO.put h x;rw[show(X++x::Y)++x::Z=X++x::(Y++x::Z)by simp,List.length_append,List.length_cons,show X.length+(Y.length+1)=q by omega]at h1;have h2:=SO.put h1 y;rw[hp]at h2;exact⟨h2,zbG (zbG (Below.refl _ _) h.lo.1 _ _) h.lo.1 _ _⟩
def IxP (b:Bool) (w:World) (e:Ending) (w':World):Prop:=(∃i:Int,e=.returned (.int .i64 i)∧decide (0≤i)=b∧ -1≤i)∧Below w.heap.size w w'
theorem za6 {α:Type} {p:α→Bool} {L:List α} {j:Nat} (h:j<L.length):(L.drop j).any p=(p L[j]||(L.drop (j+1)).any p):=by
 rw[List.drop_eq_getElem_cons h,List.any_cons]
theorem zgW (pt:Nat) (p:Vr→Bool) (v:Value) (L:List (Vr)) (w:World) (hs:SlR w v L.length (vrs L))
 (hF:∀x∈L,∀W,Below w.heap.size w W→Calls Tryz.prog 259 #[vrV x,.pointer (some ⟨pt,0,none⟩)] W fun e w'=>e=.returned (.bool (p x))∧Below W.heap.size W w'):
 Calls Tryz.prog 265 #[v,.func (.func 259) #[] #[.pointer (some ⟨pt,0,none⟩)]] w (IxP (L.any p) w):=by
 obtain⟨a,cap,rfl,hc,hm⟩:=hs.shape;unfold maxLen at hm;have HS:=lhd hs;have HF:=lhd hF;clear hs hF;go_enter Tryz.func265,Tryz.ntmps265;go_wp2_with fail;go_loopw [8] (fun i wr=>∃j:Nat,j≤L.length∧i=.int .i64 j∧(L.drop j).any p=L.any p∧Below w.heap.size w wr) (fun i _=>L.length-(intOf i).toNat)
 case atStart=>exact⟨0,Nat.zero_le _,rfl,rfl,Below.refl _ _⟩
 case round=>
  obtain⟨j,hj,rfl,hgo,hb⟩:=hrel;have HGO:=lhd hgo;have HB:=lhd hb;clear hgo hb;by_cases hlt:j<L.length
  ·obtain⟨b,o,rfl,hcell⟩:=(HS.out.below HB.out).vrs hlt;have HC:=lhd (fun W hW=>HF.out L[j] (List.getElem_mem hlt) W hW);have HGO2:=lhd ((za6 (p:=p) hlt).symm.trans HGO.out);have HPX:=lhd (Eq.refl (p L[j]));generalize L[j]=x at hcell HC HGO2 HPX;obtain⟨px,hpx⟩:∃px,px=p x:=⟨_,rfl⟩;rw[←hpx]at HC HGO2;clear HPX hpx;obtain⟨nm,ty,sc,sg,rg,mb,lb⟩:=x;have d0:wr.cell? ⟨b,o+j*7,none⟩=some (.string (bsB nm)):=hcell 0 _ rfl;have d1:wr.cell? ⟨b,o+j*7+1,none⟩=some (.int .i64 ty):=hcell 1 _ rfl;have d2:wr.cell? ⟨b,o+j*7+2,none⟩=some (.int .i64 sc):=hcell 2 _ rfl;have d3:wr.cell? ⟨b,o+j*7+3,none⟩=some (.int .i64 sg):=hcell 3 _ rfl;have d4:wr.cell? ⟨b,o+j*7+4,none⟩=some (.bool rg):=hcell 4 _ rfl;have d5:wr.cell? ⟨b,o+j*7+5,none⟩=some (.int .i64 mb):=hcell 5 _ rfl;have d6:wr.cell? ⟨b,o+j*7+6,none⟩=some (.int .i64 lb):=hcell 6 _ rfl;clear hcell;go_wp2_with fail;refine(HC.out _ HB.out).mono ?_;rintro e w1 ⟨rfl,hb1⟩;have HB1:=lhd (zeG HB.out hb1);clear hb1;cases px
   ·have HGO3:=lhd (show(L.drop (j+1)).any p=L.any p by rw[←HGO2.out,Bool.false_or]);go_wp2_with fail;go_roundw;case rel=>exact⟨j+1,by omega,by go_num,HGO3.out,HB1.out⟩
    case measure=>simp[intOf];omega
   ·have HR:=lhd (show true=L.any p by rw[←HGO2.out];rfl);go_wp2_with fail;go_ret;exact⟨⟨j,rfl,by rw[←HR.out];simp,by omega⟩,HB1.out⟩
  ·obtain rfl:j=L.length:=by omega
   have HR:=lhd (show false=L.any p by rw[←HGO.out,List.drop_length];rfl);go_wp2_with fail;go_ret;exact⟨⟨-1,rfl,by rw[←HR.out];rfl,by omega⟩,HB.out⟩
theorem zc3 (pt:Nat) (p:Vr→Bool) (v:Value) (L:List (Vr)) (w:World) (hs:SlR w v L.length (vrs L))
 (hF:∀x∈L,∀W,Below w.heap.size w W→Calls Tryz.prog 259 #[vrV x,.pointer (some ⟨pt,0,none⟩)] W fun e w'=>e=.returned (.bool (p x))∧Below W.heap.size W w'):
 Calls Tryz.prog 210 #[v,.func (.func 259) #[] #[.pointer (some ⟨pt,0,none⟩)]] w fun e w'=>e=.returned (.bool (L.any p))∧Below w.heap.size w w':=by
 have HI:=lhd (zgW pt p v L w hs hF);generalize L.any p=r at HI⊢;obtain⟨a,cap,rfl,hc,hm⟩:=hs.shape;clear hs hF;go_enter Tryz.func210,Tryz.ntmps210;go_wp2_with fail;refine HI.out.mono ?_;rintro e w1 ⟨⟨i,rfl,hi,hi1⟩,hb⟩;have HH:=lhd hi;clear hi;go_wp2_with fail;go_ret;exact⟨zlE HH.out,hb⟩
theorem zg0 (pt:Nat) (p:Vr→Bool) (v:Value) (L:List (Vr)) (w:World) (hs:SlR w v L.length (vrs L))
 (hF:∀x∈L,∀W,Below w.heap.size w W→Calls Tryz.prog 211 #[vrV x,.pointer (some ⟨pt,0,none⟩)] W fun e w'=>e=.returned (.bool (p x))∧Below W.heap.size W w'):
 Calls Tryz.prog 265 #[v,.func (.func 211) #[] #[.pointer (some ⟨pt,0,none⟩)]] w (IxP (L.any p) w):=by
 obtain⟨a,cap,rfl,hc,hm⟩:=hs.shape;unfold maxLen at hm;have HS:=lhd hs;have HF:=lhd hF;clear hs hF;go_enter Tryz.func265,Tryz.ntmps265;go_wp2_with fail;go_loopw [8] (fun i wr=>∃j:Nat,j≤L.length∧i=.int .i64 j∧(L.drop j).any p=L.any p∧Below w.heap.size w wr) (fun i _=>L.length-(intOf i).toNat)
 case atStart=>exact⟨0,Nat.zero_le _,rfl,rfl,Below.refl _ _⟩
 case round=>
  obtain⟨j,hj,rfl,hgo,hb⟩:=hrel;have HGO:=lhd hgo;have HB:=lhd hb;clear hgo hb;by_cases hlt:j<L.length
  ·obtain⟨b,o,rfl,hcell⟩:=(HS.out.below HB.out).vrs hlt;have HC:=lhd (fun W hW=>HF.out L[j] (List.getElem_mem hlt) W hW);have HGO2:=lhd ((za6 (p:=p) hlt).symm.trans HGO.out);have HPX:=lhd (Eq.refl (p L[j]));generalize L[j]=x at hcell HC HGO2 HPX;obtain⟨px,hpx⟩:∃px,px=p x:=⟨_,rfl⟩;rw[←hpx]at HC HGO2;clear HPX hpx;obtain⟨nm,ty,sc,sg,rg,mb,lb⟩:=x;have d0:wr.cell? ⟨b,o+j*7,none⟩=some (.string (bsB nm)):=hcell 0 _ rfl;have d1:wr.cell? ⟨b,o+j*7+1,none⟩=some (.int .i64 ty):=hcell 1 _ rfl;have d2:wr.cell? ⟨b,o+j*7+2,none⟩=some (.int .i64 sc):=hcell 2 _ rfl;have d3:wr.cell? ⟨b,o+j*7+3,none⟩=some (.int .i64 sg):=hcell 3 _ rfl;have d4:wr.cell? ⟨b,o+j*7+4,none⟩=some (.bool rg):=hcell 4 _ rfl;have d5:wr.cell? ⟨b,o+j*7+5,none⟩=some (.int .i64 mb):=hcell 5 _ rfl;have d6:wr.cell? ⟨b,o+j*7+6,none⟩=some (.int .i64 lb):=hcell 6 _ rfl;clear hcell;go_wp2_with fail;refine(HC.out _ HB.out).mono ?_;rintro e w1 ⟨rfl,hb1⟩;have HB1:=lhd (zeG HB.out hb1);clear hb1;cases px
   ·have HGO3:=lhd (show(L.drop (j+1)).any p=L.any p by rw[←HGO2.out,Bool.false_or]);go_wp2_with fail;go_roundw;case rel=>exact⟨j+1,by omega,by go_num,HGO3.out,HB1.out⟩
    case measure=>simp[intOf];omega
   ·have HR:=lhd (show true=L.any p by rw[←HGO2.out];rfl);go_wp2_with fail;go_ret;exact⟨⟨j,rfl,by rw[←HR.out];simp,by omega⟩,HB1.out⟩
  ·obtain rfl:j=L.length:=by omega
   have HR:=lhd (show false=L.any p by rw[←HGO.out,List.drop_length];rfl);go_wp2_with fail;go_ret;exact⟨⟨-1,rfl,by rw[←HR.out];rfl,by omega⟩,HB.out⟩
theorem zc6 (pt:Nat) (p:Vr→Bool) (v:Value) (L:List (Vr)) (w:World) (hs:SlR w v L.length (vrs L))
 (hF:∀x∈L,∀W,Below w.heap.size w W→Calls Tryz.prog 211 #[vrV x,.pointer (some ⟨pt,0,none⟩)] W fun e w'=>e=.returned (.bool (p x))∧Below W.heap.size W w'):
 Calls Tryz.prog 210 #[v,.func (.func 211) #[] #[.pointer (some ⟨pt,0,none⟩)]] w fun e w'=>e=.returned (.bool (L.any p))∧Below w.heap.size w w':=by
 have HI:=lhd (zg0 pt p v L w hs hF);generalize L.any p=r at HI⊢;obtain⟨a,cap,rfl,hc,hm⟩:=hs.shape;clear hs hF;go_enter Tryz.func210,Tryz.ntmps210;go_wp2_with fail;refine HI.out.mono ?_;rintro e w1 ⟨⟨i,rfl,hi,hi1⟩,hb⟩;have HH:=lhd hi;clear hi;go_wp2_with fail;go_ret;exact⟨zlE HH.out,hb⟩
theorem zg2 (pt:Nat) (p:Vr→Bool) (v:Value) (L:List (Vr)) (w:World) (hs:SlR w v L.length (vrs L))
 (hF:∀x∈L,∀W,Below w.heap.size w W→Calls Tryz.prog 213 #[vrV x,.pointer (some ⟨pt,0,none⟩)] W fun e w'=>e=.returned (.bool (p x))∧Below W.heap.size W w'):
 Calls Tryz.prog 265 #[v,.func (.func 213) #[] #[.pointer (some ⟨pt,0,none⟩)]] w (IxP (L.any p) w):=by
 obtain⟨a,cap,rfl,hc,hm⟩:=hs.shape;unfold maxLen at hm;have HS:=lhd hs;have HF:=lhd hF;clear hs hF;go_enter Tryz.func265,Tryz.ntmps265;go_wp2_with fail;go_loopw [8] (fun i wr=>∃j:Nat,j≤L.length∧i=.int .i64 j∧(L.drop j).any p=L.any p∧Below w.heap.size w wr) (fun i _=>L.length-(intOf i).toNat)
 case atStart=>exact⟨0,Nat.zero_le _,rfl,rfl,Below.refl _ _⟩
 case round=>
  obtain⟨j,hj,rfl,hgo,hb⟩:=hrel;have HGO:=lhd hgo;have HB:=lhd hb;clear hgo hb;by_cases hlt:j<L.length
  ·obtain⟨b,o,rfl,hcell⟩:=(HS.out.below HB.out).vrs hlt;have HC:=lhd (fun W hW=>HF.out L[j] (List.getElem_mem hlt) W hW);have HGO2:=lhd ((za6 (p:=p) hlt).symm.trans HGO.out);have HPX:=lhd (Eq.refl (p L[j]));generalize L[j]=x at hcell HC HGO2 HPX;obtain⟨px,hpx⟩:∃px,px=p x:=⟨_,rfl⟩;rw[←hpx]at HC HGO2;clear HPX hpx;obtain⟨nm,ty,sc,sg,rg,mb,lb⟩:=x;have d0:wr.cell? ⟨b,o+j*7,none⟩=some (.string (bsB nm)):=hcell 0 _ rfl;have d1:wr.cell? ⟨b,o+j*7+1,none⟩=some (.int .i64 ty):=hcell 1 _ rfl;have d2:wr.cell? ⟨b,o+j*7+2,none⟩=some (.int .i64 sc):=hcell 2 _ rfl;have d3:wr.cell? ⟨b,o+j*7+3,none⟩=some (.int .i64 sg):=hcell 3 _ rfl;have d4:wr.cell? ⟨b,o+j*7+4,none⟩=some (.bool rg):=hcell 4 _ rfl;have d5:wr.cell? ⟨b,o+j*7+5,none⟩=some (.int .i64 mb):=hcell 5 _ rfl;have d6:wr.cell? ⟨b,o+j*7+6,none⟩=some (.int .i64 lb):=hcell 6 _ rfl;clear hcell;go_wp2_with fail;refine(HC.out _ HB.out).mono ?_;rintro e w1 ⟨rfl,hb1⟩;have HB1:=lhd (zeG HB.out hb1);clear hb1;cases px
   ·have HGO3:=lhd (show(L.drop (j+1)).any p=L.any p by rw[←HGO2.out,Bool.false_or]);go_wp2_with fail;go_roundw;case rel=>exact⟨j+1,by omega,by go_num,HGO3.out,HB1.out⟩
    case measure=>simp[intOf];omega
   ·have HR:=lhd (show true=L.any p by rw[←HGO2.out];rfl);go_wp2_with fail;go_ret;exact⟨⟨j,rfl,by rw[←HR.out];simp,by omega⟩,HB1.out⟩
  ·obtain rfl:j=L.length:=by omega
   have HR:=lhd (show false=L.any p by rw[←HGO.out,List.drop_length];rfl);go_wp2_with fail;go_ret;exact⟨⟨-1,rfl,by rw[←HR.out];rfl,by omega⟩,HB.out⟩
theorem zc8 (pt:Nat) (p:Vr→Bool) (v:Value) (L:List (Vr)) (w:World) (hs:SlR w v L.length (vrs L))
 (hF:∀x∈L,∀W,Below w.heap.size w W→Calls Tryz.prog 213 #[vrV x,.pointer (some ⟨pt,0,none⟩)] W fun e w'=>e=.returned (.bool (p x))∧Below W.heap.size W w'):
 Calls Tryz.prog 210 #[v,.func (.func 213) #[] #[.pointer (some ⟨pt,0,none⟩)]] w fun e w'=>e=.returned (.bool (L.any p))∧Below w.heap.size w w':=by
 have HI:=lhd (zg2 pt p v L w hs hF);generalize L.any p=r at HI⊢;obtain⟨a,cap,rfl,hc,hm⟩:=hs.shape;clear hs hF;go_enter Tryz.func210,Tryz.ntmps210;go_wp2_with fail;refine HI.out.mono ?_;rintro e w1 ⟨⟨i,rfl,hi,hi1⟩,hb⟩;have HH:=lhd hi;clear hi;go_wp2_with fail;go_ret;exact⟨zlE HH.out,hb⟩
theorem zg1 (_pt:Nat) (p:Vr→Bool) (v:Value) (L:List (Vr)) (w:World) (hs:SlR w v L.length (vrs L))
 (hF:∀x∈L,∀W,Below w.heap.size w W→Calls Tryz.prog 207 #[vrV x] W fun e w'=>e=.returned (.bool (p x))∧Below W.heap.size W w'):
 Calls Tryz.prog 265 #[v,.func (.func 207) #[] #[]] w (IxP (L.any p) w):=by
 obtain⟨a,cap,rfl,hc,hm⟩:=hs.shape;unfold maxLen at hm;have HS:=lhd hs;have HF:=lhd hF;clear hs hF;go_enter Tryz.func265,Tryz.ntmps265;go_wp2_with fail;go_loopw [8] (fun i wr=>∃j:Nat,j≤L.length∧i=.int .i64 j∧(L.drop j).any p=L.any p∧Below w.heap.size w wr) (fun i _=>L.length-(intOf i).toNat)
 case atStart=>exact⟨0,Nat.zero_le _,rfl,rfl,Below.refl _ _⟩
 case round=>
  obtain⟨j,hj,rfl,hgo,hb⟩:=hrel;have HGO:=lhd hgo;have HB:=lhd hb;clear hgo hb;by_cases hlt:j<L.length
  ·obtain⟨b,o,rfl,hcell⟩:=(HS.out.below HB.out).vrs hlt;have HC:=lhd (fun W hW=>HF.out L[j] (List.getElem_mem hlt) W hW);have HGO2:=lhd ((za6 (p:=p) hlt).symm.trans HGO.out);have HPX:=lhd (Eq.refl (p L[j]));generalize L[j]=x at hcell HC HGO2 HPX;obtain⟨px,hpx⟩:∃px,px=p x:=⟨_,rfl⟩;rw[←hpx]at HC HGO2;clear HPX hpx;obtain⟨nm,ty,sc,sg,rg,mb,lb⟩:=x;have d0:wr.cell? ⟨b,o+j*7,none⟩=some (.string (bsB nm)):=hcell 0 _ rfl;have d1:wr.cell? ⟨b,o+j*7+1,none⟩=some (.int .i64 ty):=hcell 1 _ rfl;have d2:wr.cell? ⟨b,o+j*7+2,none⟩=some (.int .i64 sc):=hcell 2 _ rfl;have d3:wr.cell? ⟨b,o+j*7+3,none⟩=some (.int .i64 sg):=hcell 3 _ rfl;have d4:wr.cell? ⟨b,o+j*7+4,none⟩=some (.bool rg):=hcell 4 _ rfl;have d5:wr.cell? ⟨b,o+j*7+5,none⟩=some (.int .i64 mb):=hcell 5 _ rfl;have d6:wr.cell? ⟨b,o+j*7+6,none⟩=some (.int .i64 lb):=hcell 6 _ rfl;clear hcell;go_wp2_with fail;refine(HC.out _ HB.out).mono ?_;rintro e w1 ⟨rfl,hb1⟩;have HB1:=lhd (zeG HB.out hb1);clear hb1;cases px
   ·have HGO3:=lhd (show(L.drop (j+1)).any p=L.any p by rw[←HGO2.out,Bool.false_or]);go_wp2_with fail;go_roundw;case rel=>exact⟨j+1,by omega,by go_num,HGO3.out,HB1.out⟩
    case measure=>simp[intOf];omega
   ·have HR:=lhd (show true=L.any p by rw[←HGO2.out];rfl);go_wp2_with fail;go_ret;exact⟨⟨j,rfl,by rw[←HR.out];simp,by omega⟩,HB1.out⟩
  ·obtain rfl:j=L.length:=by omega
   have HR:=lhd (show false=L.any p by rw[←HGO.out,List.drop_length];rfl);go_wp2_with fail;go_ret;exact⟨⟨-1,rfl,by rw[←HR.out];rfl,by omega⟩,HB.out⟩
theorem zc7 (_pt:Nat) (p:Vr→Bool) (v:Value) (L:List (Vr)) (w:World) (hs:SlR w v L.length (vrs L))
 (hF:∀x∈L,∀W,Below w.heap.size w W→Calls Tryz.prog 207 #[vrV x] W fun e w'=>e=.returned (.bool (p x))∧Below W.heap.size W w'):
 Calls Tryz.prog 210 #[v,.func (.func 207) #[] #[]] w fun e w'=>e=.returned (.bool (L.any p))∧Below w.heap.size w w':=by
 have HI:=lhd (zg1 _pt p v L w hs hF);generalize L.any p=r at HI⊢;obtain⟨a,cap,rfl,hc,hm⟩:=hs.shape;clear hs hF;go_enter Tryz.func210,Tryz.ntmps210;go_wp2_with fail;refine HI.out.mono ?_;rintro e w1 ⟨⟨i,rfl,hi,hi1⟩,hb⟩;have HH:=lhd hi;clear hi;go_wp2_with fail;go_ret;exact⟨zlE HH.out,hb⟩
theorem zgX (pt:Nat) (p:Sc→Bool) (v:Value) (L:List (Sc)) (w:World) (hs:SlR w v L.length (scs L))
 (hF:∀x∈L,∀W,Below w.heap.size w W→Calls Tryz.prog 209 #[scV x,.pointer (some ⟨pt,0,none⟩)] W fun e w'=>e=.returned (.bool (p x))∧Below W.heap.size W w'):
 Calls Tryz.prog 264 #[v,.func (.func 209) #[] #[.pointer (some ⟨pt,0,none⟩)]] w (IxP (L.any p) w):=by
 obtain⟨a,cap,rfl,hc,hm⟩:=hs.shape;unfold maxLen at hm;have HS:=lhd hs;have HF:=lhd hF;clear hs hF;go_enter Tryz.func264,Tryz.ntmps264;go_wp2_with fail;go_loopw [8] (fun i wr=>∃j:Nat,j≤L.length∧i=.int .i64 j∧(L.drop j).any p=L.any p∧Below w.heap.size w wr) (fun i _=>L.length-(intOf i).toNat)
 case atStart=>exact⟨0,Nat.zero_le _,rfl,rfl,Below.refl _ _⟩
 case round=>
  obtain⟨j,hj,rfl,hgo,hb⟩:=hrel;have HGO:=lhd hgo;have HB:=lhd hb;clear hgo hb;by_cases hlt:j<L.length
  ·obtain⟨b,o,rfl,hcell⟩:=(HS.out.below HB.out).scs hlt;have HC:=lhd (fun W hW=>HF.out L[j] (List.getElem_mem hlt) W hW);have HGO2:=lhd ((za6 (p:=p) hlt).symm.trans HGO.out);have HPX:=lhd (Eq.refl (p L[j]));generalize L[j]=x at hcell HC HGO2 HPX;obtain⟨px,hpx⟩:∃px,px=p x:=⟨_,rfl⟩;rw[←hpx]at HC HGO2;clear HPX hpx;obtain⟨nm,ty,pa⟩:=x;have d0:wr.cell? ⟨b,o+j*3,none⟩=some (.string (bsB nm)):=hcell 0 _ rfl;have d1:wr.cell? ⟨b,o+j*3+1,none⟩=some (.int .i64 ty):=hcell 1 _ rfl;have d2:wr.cell? ⟨b,o+j*3+2,none⟩=some (.int .i64 pa):=hcell 2 _ rfl;clear hcell;go_wp2_with fail;refine(HC.out _ HB.out).mono ?_;rintro e w1 ⟨rfl,hb1⟩;have HB1:=lhd (zeG HB.out hb1);clear hb1;cases px
   ·have HGO3:=lhd (show(L.drop (j+1)).any p=L.any p by rw[←HGO2.out,Bool.false_or]);go_wp2_with fail;go_roundw;case rel=>exact⟨j+1,by omega,by go_num,HGO3.out,HB1.out⟩
    case measure=>simp[intOf];omega
   ·have HR:=lhd (show true=L.any p by rw[←HGO2.out];rfl);go_wp2_with fail;go_ret;exact⟨⟨j,rfl,by rw[←HR.out];simp,by omega⟩,HB1.out⟩
  ·obtain rfl:j=L.length:=by omega
   have HR:=lhd (show false=L.any p by rw[←HGO.out,List.drop_length];rfl);go_wp2_with fail;go_ret;exact⟨⟨-1,rfl,by rw[←HR.out];rfl,by omega⟩,HB.out⟩
theorem zc4 (pt:Nat) (p:Sc→Bool) (v:Value) (L:List (Sc)) (w:World) (hs:SlR w v L.length (scs L))
 (hF:∀x∈L,∀W,Below w.heap.size w W→Calls Tryz.prog 209 #[scV x,.pointer (some ⟨pt,0,none⟩)] W fun e w'=>e=.returned (.bool (p x))∧Below W.heap.size W w'):
 Calls Tryz.prog 208 #[v,.func (.func 209) #[] #[.pointer (some ⟨pt,0,none⟩)]] w fun e w'=>e=.returned (.bool (L.any p))∧Below w.heap.size w w':=by
 have HI:=lhd (zgX pt p v L w hs hF);generalize L.any p=r at HI⊢;obtain⟨a,cap,rfl,hc,hm⟩:=hs.shape;clear hs hF;go_enter Tryz.func208,Tryz.ntmps208;go_wp2_with fail;refine HI.out.mono ?_;rintro e w1 ⟨⟨i,rfl,hi,hi1⟩,hb⟩;have HH:=lhd hi;clear hi;go_wp2_with fail;go_ret;exact⟨zlE HH.out,hb⟩
theorem zgZ (pt:Nat) (p:Sc→Bool) (v:Value) (L:List (Sc)) (w:World) (hs:SlR w v L.length (scs L))
 (hF:∀x∈L,∀W,Below w.heap.size w W→Calls Tryz.prog 212 #[scV x,.pointer (some ⟨pt,0,none⟩)] W fun e w'=>e=.returned (.bool (p x))∧Below W.heap.size W w'):
 Calls Tryz.prog 264 #[v,.func (.func 212) #[] #[.pointer (some ⟨pt,0,none⟩)]] w (IxP (L.any p) w):=by
 obtain⟨a,cap,rfl,hc,hm⟩:=hs.shape;unfold maxLen at hm;have HS:=lhd hs;have HF:=lhd hF;clear hs hF;go_enter Tryz.func264,Tryz.ntmps264;go_wp2_with fail;go_loopw [8] (fun i wr=>∃j:Nat,j≤L.length∧i=.int .i64 j∧(L.drop j).any p=L.any p∧Below w.heap.size w wr) (fun i _=>L.length-(intOf i).toNat)
 case atStart=>exact⟨0,Nat.zero_le _,rfl,rfl,Below.refl _ _⟩
 case round=>
  obtain⟨j,hj,rfl,hgo,hb⟩:=hrel;have HGO:=lhd hgo;have HB:=lhd hb;clear hgo hb;by_cases hlt:j<L.length
  ·obtain⟨b,o,rfl,hcell⟩:=(HS.out.below HB.out).scs hlt;have HC:=lhd (fun W hW=>HF.out L[j] (List.getElem_mem hlt) W hW);have HGO2:=lhd ((za6 (p:=p) hlt).symm.trans HGO.out);have HPX:=lhd (Eq.refl (p L[j]));generalize L[j]=x at hcell HC HGO2 HPX;obtain⟨px,hpx⟩:∃px,px=p x:=⟨_,rfl⟩;rw[←hpx]at HC HGO2;clear HPX hpx;obtain⟨nm,ty,pa⟩:=x;have d0:wr.cell? ⟨b,o+j*3,none⟩=some (.string (bsB nm)):=hcell 0 _ rfl;have d1:wr.cell? ⟨b,o+j*3+1,none⟩=some (.int .i64 ty):=hcell 1 _ rfl;have d2:wr.cell? ⟨b,o+j*3+2,none⟩=some (.int .i64 pa):=hcell 2 _ rfl;clear hcell;go_wp2_with fail;refine(HC.out _ HB.out).mono ?_;rintro e w1 ⟨rfl,hb1⟩;have HB1:=lhd (zeG HB.out hb1);clear hb1;cases px
   ·have HGO3:=lhd (show(L.drop (j+1)).any p=L.any p by rw[←HGO2.out,Bool.false_or]);go_wp2_with fail;go_roundw;case rel=>exact⟨j+1,by omega,by go_num,HGO3.out,HB1.out⟩
    case measure=>simp[intOf];omega
   ·have HR:=lhd (show true=L.any p by rw[←HGO2.out];rfl);go_wp2_with fail;go_ret;exact⟨⟨j,rfl,by rw[←HR.out];simp,by omega⟩,HB1.out⟩
  ·obtain rfl:j=L.length:=by omega
   have HR:=lhd (show false=L.any p by rw[←HGO.out,List.drop_length];rfl);go_wp2_with fail;go_ret;exact⟨⟨-1,rfl,by rw[←HR.out];rfl,by omega⟩,HB.out⟩
theorem zc5 (pt:Nat) (p:Sc→Bool) (v:Value) (L:List (Sc)) (w:World) (hs:SlR w v L.length (scs L))
 (hF:∀x∈L,∀W,Below w.heap.size w W→Calls Tryz.prog 212 #[scV x,.pointer (some ⟨pt,0,none⟩)] W fun e w'=>e=.returned (.bool (p x))∧Below W.heap.size W w'):
 Calls Tryz.prog 208 #[v,.func (.func 212) #[] #[.pointer (some ⟨pt,0,none⟩)]] w fun e w'=>e=.returned (.bool (L.any p))∧Below w.heap.size w w':=by
 have HI:=lhd (zgZ pt p v L w hs hF);generalize L.any p=r at HI⊢;obtain⟨a,cap,rfl,hc,hm⟩:=hs.shape;clear hs hF;go_enter Tryz.func208,Tryz.ntmps208;go_wp2_with fail;refine HI.out.mono ?_;rintro e w1 ⟨⟨i,rfl,hi,hi1⟩,hb⟩;have HH:=lhd hi;clear hi;go_wp2_with fail;go_ret;exact⟨zlE HH.out,hb⟩
theorem zlb {c:UInt8} (h:128≤c.toNat):prn c=false:=by
 unfold prn;rw[Bool.and_eq_false_iff,decide_eq_false_iff_not,decide_eq_false_iff_not];exact .inr (by omega)
theorem za3 {p:UInt8→Bool} {s:ByteArray} {pos:Nat} (h:pos<s.size):(s.data.toList.take (pos+1)).all p=((s.data.toList.take pos).all p&&p (s[pos]'h)):=by
 rw[List.take_succ_eq_append_getElem (by simpa using h),List.all_append];simp;rfl
theorem za2 {p:UInt8→Bool} {s:ByteArray} {pos:Nat} (h:pos<s.size) (hd:p (s[pos]'h)=false):s.data.toList.all p=false:=by
 rw[List.all_eq_false]
 exact⟨s[pos],by
  have:s[pos]=s.data.toList[pos]'(by simpa using h):=by simp;rfl
  rw[this];exact List.getElem_mem _,by rw[hd];simp⟩
theorem zlh (s:ByteArray) (w:World):Calls Tryz.prog 285 #[.string s] w fun e w'=>e=.returned (.bool (s.data.toList.all prn))∧Below w.heap.size w w':=by
 go_enter Tryz.func285,Tryz.ntmps285;go_wp2_with fail;go_loopw [2] (fun r_ w'=>∃pos:Nat,pos≤s.size∧r_=.bool false∧(s.data.toList.take pos).all prn=true∧w'=w.iter s pos) (fun _ w'=>s.size-w'.iterPos w.heap.size)
 case atStart=>exact⟨0,by omega,rfl,rfl,rfl⟩
 case round=>
  obtain⟨pos,hps,rfl,hall,rfl⟩:=hrel;have HA:=lhd hall;clear hall;by_cases hp:pos<s.size
  ·have hnx:∀ty,(Instr.next (.pointer (some ⟨w.heap.size,0,none⟩)) true ty).run Tryz.prog (w.iter s pos)=_:=fun ty=>run_next_any w s pos ty hp;have HT:=lhd (za3 (p:=prn) hp);have HN:=lhd (fun h=>za2 (p:=prn) hp h);by_cases ha:(s[pos]'hp).toNat<128
   ·rw[show Utf8.decode s pos=((s[pos]'hp).toNat,1)from decode_ascii s pos hp ha]at hnx;generalize s[pos]'hp=c at ha hnx HT HN;dsimp only at hnx;by_cases c1:c.toNat<33
    ·have HR:=lhd (HN.out (by unfold prn;rw[decide_eq_false (show ¬33≤c.toNat by omega)];rfl));have hb1:decide ((c.toNat:Int)<33)=true:=by rw[decide_eq_true_iff];omega
     go_wp2_with fail;go_ret;exact⟨zlE (HR.out).symm,(Below.refl _ _).alloc (Nat.le_refl _) _⟩
    ·have hb1:decide ((c.toNat:Int)<33)=false:=by rw[decide_eq_false_iff_not];omega
     by_cases c2:126<c.toNat
     ·have HR:=lhd (HN.out (by unfold prn;rw[decide_eq_false (show ¬c.toNat≤126 by omega),Bool.and_false]));have hb2:decide ((126:Int)<(c.toNat:Int))=true:=by rw[decide_eq_true_iff];omega
      go_wp2_with fail;go_ret;exact⟨zlE (HR.out).symm,(Below.refl _ _).alloc (Nat.le_refl _) _⟩
     ·have hb2:decide ((126:Int)<(c.toNat:Int))=false:=by rw[decide_eq_false_iff_not];omega
      have HA2:=lhd (show(s.data.toList.take (pos+1)).all prn=true by
       rw[HT.out,HA.out];unfold prn;rw[decide_eq_true (show 33≤c.toNat by omega),decide_eq_true (show c.toNat≤126 by omega)];rfl)
      go_wp2_with fail;go_roundw;case rel=>exact⟨pos+1,by omega,rfl,HA2.out,rfl⟩
      case measure=>simp;omega
   ·have HR:=lhd (HN.out (zlb (by omega)));have hd:=(decode_high s pos hp (by omega)).1;have hb1:decide (((Utf8.decode s pos).1:Int)<33)=false:=by rw[decide_eq_false_iff_not];omega
    have hb2:decide ((126:Int)<((Utf8.decode s pos).1:Int))=true:=by rw[decide_eq_true_iff];omega
    clear hd;go_wp2_with fail;go_ret;exact⟨zlE (HR.out).symm,(Below.refl _ _).alloc (Nat.le_refl _) _⟩
  ·obtain rfl:pos=s.size:=by omega
   have hnx:∀ty,(Instr.next (.pointer (some ⟨w.heap.size,0,none⟩)) true ty).run Tryz.prog (w.iter s s.size)=_:=fun ty=>run_next_end w s s.size ty hp
   have HR:=lhd (show s.data.toList.all prn=true by
    have:=HA.out;rwa [List.take_of_length_le (by simp)]at this)
   go_wp2_with fail;go_ret;exact⟨zlE (HR.out).symm,(Below.refl _ _).alloc (Nat.le_refl _) _⟩
theorem zlG {k:IntKind} {a b:Int} (h:a=b):Ending.returned (.int k a)=.returned (.int k b):=by rw[h]
theorem ziL (n:Int) (w:World):Calls Tryz.prog 168 #[.int .i64 n] w fun e w'=>e=.returned (.bool (zbT n))∧w=w':=by
 have HR:=lhd (show(decide (-32768≤n)&&decide (n≤32768))=zbT n from rfl);by_cases h1: -32768≤n
 ·have b1:decide (-32768≤n)=true:=by simpa using h1
  by_cases h2:n≤32768
  ·have b2:decide (n≤32768)=true:=by simpa using h2
   rw[b1,b2]at HR;go_enter Tryz.func168,Tryz.ntmps168;go_wp2_with fail;go_ret;exact⟨zlE HR.out,rfl⟩
  ·have b2:decide (n≤32768)=false:=by simpa using h2
   rw[b1,b2]at HR;go_enter Tryz.func168,Tryz.ntmps168;go_wp2_with fail;go_ret;exact⟨zlE HR.out,rfl⟩
 ·have b1:decide (-32768≤n)=false:=by simpa using h1
  rw[b1]at HR;go_enter Tryz.func168,Tryz.ntmps168;go_wp2_with fail;go_ret;exact⟨zlE HR.out,rfl⟩
theorem ziJ (m l:Int) (w:World):Calls Tryz.prog 122 #[.int .i64 m,.int .i64 l] w fun e w'=>e=.returned (.int .i64 (zq9 m l))∧w=w':=by
 have H1:=lhd (ziL m w);have H2:=lhd (ziL l w);cases h1:zbT m
 ·rw[h1]at H1;have HR:=lhd (show(0:Int)=zq9 m l by unfold zq9;rw[h1];rfl);clear h1;go_enter Tryz.func122,Tryz.ntmps122;go_wp2_with fail;refine H1.out.mono ?_;rintro e w1 ⟨rfl,rfl⟩;go_wp2_with fail;go_ret;exact⟨zlG HR.out,rfl⟩
 ·rw[h1]at H1;cases h2:zbT l
  ·rw[h2]at H2;have HR:=lhd (show(0:Int)=zq9 m l by unfold zq9;rw[h2,Bool.and_false];rfl);clear h1 h2;go_enter Tryz.func122,Tryz.ntmps122;go_wp2_with fail;refine H1.out.mono ?_;rintro e w1 ⟨rfl,rfl⟩;go_wp2_with fail;refine H2.out.mono ?_;rintro e w1 ⟨rfl,rfl⟩;go_wp2_with fail;go_ret;exact⟨zlG HR.out,rfl⟩
  ·rw[h2]at H2;have HR:=lhd (show max m l-min m l+1=zq9 m l by unfold zq9;rw[h1,h2];rfl)
   have hb: -32768≤m∧m≤32768∧ -32768≤l∧l≤32768:=by
    unfold zbT at h1 h2;simp only[Bool.and_eq_true,decide_eq_true_iff]at h1 h2;omega
   obtain⟨q1,q2,q3,q4⟩:=hb;clear h1 h2;rcases Int.lt_trichotomy m l with hml|rfl|hml
   all_goals
    go_enter Tryz.func122,Tryz.ntmps122;go_wp2_with fail;refine H1.out.mono ?_;rintro e w1 ⟨rfl,rfl⟩;go_wp2_with fail;refine H2.out.mono ?_;rintro e w1 ⟨rfl,rfl⟩;go_wp2_with fail;go_ret;exact⟨zlG (by have:=HR.out;omega),rfl⟩
theorem zpC (n:Int) (w:World):Calls Tryz.prog 119 #[.int .i64 n] w fun e w'=>e=.returned (.bool (decide (-15≤n)&&decide (n≤2)))∧w=w':=by
 by_cases h1: -15≤n
 ·have b1:decide (-15≤n)=true:=by simpa using h1
  by_cases h2:n≤2
  ·have b2:decide (n≤2)=true:=by simpa using h2
   go_enter Tryz.func119,Tryz.ntmps119;go_wp2_with fail;go_ret;exact⟨by simp[b1,b2],rfl⟩
  ·have b2:decide (n≤2)=false:=by simpa using h2
   go_enter Tryz.func119,Tryz.ntmps119;go_wp2_with fail;go_ret;exact⟨by simp[b1,b2],rfl⟩
 ·have b1:decide (-15≤n)=false:=by simpa using h1
  go_enter Tryz.func119,Tryz.ntmps119;go_wp2_with fail;go_ret;exact⟨by simp[b1],rfl⟩
theorem ziM (s:ByteArray) (w:World) (hm:s.size≤140737488351232):Calls Tryz.prog 262 #[.string s] w fun e w'=>e=.returned (.bool (s.data.toList.all prn))∧w=w':=by
 obtain⟨R,hR⟩:∃R,R=s.data.toList.all prn:=⟨_,rfl⟩;rw[←hR];have HRR:=lhd hR;clear hR;go_enter Tryz.func262,Tryz.ntmps262;go_wp2_with fail;go_loop [6] (fun i=>∃k:Nat,k≤s.size∧i=.int .i64 k∧(s.data.toList.take k).all prn=true) (fun i=>s.size-(intOf i).toNat)
 case atStart=>exact⟨0,Nat.zero_le _,rfl,rfl⟩
 case round=>
  obtain⟨k,hk,rfl,hall⟩:=hrel;have HA:=lhd hall;clear hall;by_cases hlt:k<s.size
  ·have hlt2:(k:Int)<(s.size:Int):=by omega
   have HT:=lhd (za3 (p:=prn) hlt);have HN:=lhd (fun h=>za2 (p:=prn) hlt h);by_cases hp:33≤(s[k]'hlt).toNat∧(s[k]'hlt).toNat≤126
   ·have hb1:decide (((s[k]'hlt).toNat:Int)<33)=false:=by rw[decide_eq_false_iff_not];omega
    have hb2:decide ((126:Int)<((s[k]'hlt).toNat:Int))=false:=by rw[decide_eq_false_iff_not];omega
    have HA2:=lhd (show(s.data.toList.take (k+1)).all prn=true by
     rw[HT.out,HA.out];unfold prn;rw[decide_eq_true hp.1,decide_eq_true hp.2];rfl)
    clear hp;go_wp2_with fail;go_round
    case rel=>exact⟨k+1,by omega,by go_num,HA2.out⟩
    case measure=>simp[intOf];omega
   ·have HR:=lhd (show s.data.toList.all prn=false from HN.out (by
     unfold prn;rw[Bool.and_eq_false_iff,decide_eq_false_iff_not,decide_eq_false_iff_not];omega))
    by_cases h1:(s[k]'hlt).toNat<33
    ·have hb1:decide (((s[k]'hlt).toNat:Int)<33)=true:=by rw[decide_eq_true_iff];omega
     go_wp2_with fail;go_ret;exact⟨zlE (HRR.out.trans HR.out).symm,rfl⟩
    ·have hb1:decide (((s[k]'hlt).toNat:Int)<33)=false:=by rw[decide_eq_false_iff_not];omega
     have hb2:decide ((126:Int)<((s[k]'hlt).toNat:Int))=true:=by rw[decide_eq_true_iff];omega
     go_wp2_with fail;go_ret;exact⟨zlE (HRR.out.trans HR.out).symm,rfl⟩
  ·obtain rfl:k=s.size:=by omega
   have HR:=lhd (show s.data.toList.all prn=true by
    have:=HA.out;rwa [List.take_of_length_le (by simp)]at this)
   go_wp2_with fail;go_ret;exact⟨zlE (HRR.out.trans HR.out).symm,rfl⟩
open Go.RowKit Go.Shelf
attribute [local go_sem] Oper.semAt_some
def upI (S:List Sc) (i:Int):Nat→Int
 |0=>i
 |k+1=>parS S (upI S i k).toNat
theorem zpL (S:List Sc) (i:Int):∀k,upI S i (k+1)=upI S (parS S i.toNat) k
 |0=>rfl
 |k+1=>by rw[upI,zpL S i k];rfl
theorem zpP {S:List Sc} (hF:Fst (parS S) S.length):∀(f:Nat) (i:Int),i<(f:Int)→ -1≤i→i<(S.length:Int)→
 (∀k,k<(upL S f i).length→0≤upI S i k∧upI S i k<(S.length:Int)∧(upL S f i)[k]? =some (upI S i k).toNat)∧upI S i (upL S f i).length= -1
 |0,i,h1,h2,h3=>⟨fun k hk=>by simp[upL]at hk,by show i= -1;omega⟩
 |f+1,i,h1,h2,h3=>by
  by_cases h0:i<0
  ·have e:upL S (f+1) i=[]:=by rw[upL,if_pos h0]
   rw[e];exact⟨fun k hk=>by simp at hk,by show i= -1;omega⟩
  ·have hn:i.toNat<S.length:=by omega
   have hp:parS S i.toNat=S[i.toNat].2.2:=by simp[parS,List.getD,hn]
   have e:upL S (f+1) i=i.toNat::upL S f (parS S i.toNat):=by
    rw[upL,if_neg h0,List.getElem?_eq_getElem hn,hp]
   have hq:=hF i.toNat hn;obtain⟨h4,h5⟩:=zpP hF f (parS S i.toNat) (by omega) hq.1 (by omega);rw[e];refine⟨fun k hk=>?_,by rw[List.length_cons,zpL];exact h5⟩;cases k with
   |zero=>exact⟨by show 0≤i;omega,h3,rfl⟩
   |succ k=>
    rw[zpL,List.getElem?_cons_succ];exact h4 k (by simpa using hk)
theorem zcq {w:World} {b o:Nat} {u:Value} (h:w.cell? ⟨b,o,none⟩=some u):∃C T fr,w.heap[b]? =some (.cells C T fr)∧C[o]? =some u:=by
 unfold World.cell? at h;cases hb:w.heap[b]? with
 |none=>simp[hb]at h
 |some x=>
  simp only[hb]at h;cases x with
  |cells C T fr=>exact⟨C,T,fr,rfl,by simpa using h⟩
  |_=>simp at h
theorem zco {w:World} {b o:Nat} {u:Value} {C:Array Value} {T:TypeId} {fr:Nat×Nat} (h:w.heap[b]? =some (.cells C T fr)) (hu:C[o]? =some u):w.cell? ⟨b,o,none⟩=some u:=by simp[World.cell?,h,hu]
theorem Same0.cell {w W:World} (h:Same0 w W) {b o:Nat} {u:Value} (hc:w.cell? ⟨b,o,none⟩=some u):W.cell? ⟨b,o,none⟩=some u:=by
 obtain⟨C,T,fr,h1,h2⟩:=zcq hc;exact zco (h.cells _ _ _ _ h1) h2
theorem SlR.same0 {w W:World} {v:Value} {n:Nat} {xs:List Value} (h:SlR w v n xs) (hs:Same0 w W):SlR W v n xs:=by
 obtain⟨a,cap,hv,h1,h2,h3,h4⟩:=h;refine⟨a,cap,hv,h1,h2,h3,fun hn=>?_⟩;obtain⟨b,o,ha,hc⟩:=h4 hn;exact⟨b,o,ha,fun j u hj=>hs.cell (hc j u hj)⟩
theorem Same0.refl (w:World):Same0 w w:=⟨Nat.le_refl _,fun _ _ _ _ h=>h⟩
theorem Same0.trans {a b c:World} (h:Same0 a b) (k:Same0 b c):Same0 a c:=⟨Nat.le_trans h.size k.size,fun _ _ _ _ hi=>k.cells _ _ _ _ (h.cells _ _ _ _ hi)⟩
theorem Same0.of_below {a b:World} (h:Below a.heap.size a b):Same0 a b:=⟨h.size,fun i _ _ _ hi=>by rw[h.block i (Array.getElem?_eq_some_iff.1 hi).1];exact hi⟩
theorem Same0.turn {w0 W V:World} {B:Nat} {T:TypeId} (h:Same0 w0 W) (hB:w0.heap.size≤B) (ht:TurnI B T W V):Same0 w0 V:=
 ⟨Nat.le_trans h.size ht.size,fun b C T' fr hb=>by rw[ht.low b (by have:=(Array.getElem?_eq_some_iff.1 hb).1;omega)];exact h.cells _ _ _ _ hb⟩
def KpU (N:Nat) (T1 T2:TypeId) (W V:World):Prop:=∀(b:Nat) (C:Array Value) (T:TypeId) (fr:Nat×Nat),(b<N∨(T≠T1∧T≠T2))→W.heap[b]? =some (.cells C T fr)→V.heap[b]? =some (.cells C T fr)
theorem KpU.trans {N:Nat} {T1 T2:TypeId} {A B C:World} (h:KpU N T1 T2 A B) (k:KpU N T1 T2 B C):KpU N T1 T2 A C:=fun b D T fr hT hb=>k b D T fr hT (h b D T fr hT hb)
theorem KpU.same0 {N:Nat} {T1 T2:TypeId} {W V:World} (h:Same0 W V):KpU N T1 T2 W V:=fun b C T fr _ hb=>h.cells b C T fr hb
theorem KpU.below {N:Nat} {T1 T2:TypeId} {W V:World} (h:Below W.heap.size W V):KpU N T1 T2 W V:=KpU.same0 (Same0.of_below h)
theorem KpU.old {w0 W V:World} {T1 T2:TypeId} (h:Same0 w0 W) (k:KpU w0.heap.size T1 T2 W V) (hz:W.heap.size≤V.heap.size):Same0 w0 V:=
 ⟨Nat.le_trans h.size hz,fun b C T fr hb=>k b C T fr (.inl (Array.getElem?_eq_some_iff.1 hb).1) (h.cells _ _ _ _ hb)⟩
attribute [local go_sem] Oper.semAt_some
theorem zfM {W:World} {b:Nat} {x x':Value} {T:TypeId} (h:W.heap[b]? =some (.cells #[x] T (0,0))):(W.setCell ⟨b,0,none⟩ x').heap[b]? =some (.cells #[x'] T (0,0)):=by
 simp[World.setCell,Array.getElem?_modify,h]
theorem zfL {W:World} {b b':Nat} {x':Value} {o:Obj} (hne:b≠b') (h:W.heap[b]? =some o):(W.setCell ⟨b',0,none⟩ x').heap[b]? =some o:=by
 rw[Below.heap_setCell _ _ _ _ hne];exact h
theorem zjK {W:World} {b:Nat} {x:Value} {T:TypeId} (h:W.heap[b]? =some (.cells #[x] T (0,0))):W.cell? ⟨b,0,none⟩=some x∧W.frozen? ⟨b,0,none⟩=false:=⟨by simp[World.cell?,h],by simp[World.frozen?,h]⟩
def upE (L:List Nat) (k:Nat):Array Value:=#[.int .i64 ((L.getD k 0:Nat):Int)]
def zh4 (bi:Nat) (w:World):Nat:=match w.cell? ⟨bi,0,none⟩with
 |some v=>(intOf v+1).toNat
 |none=>0
theorem zpK (n:Nat) (hn:2≤n) (lp bi bs B N:Nat) (T1 T2:TypeId) (hT1:T1≠3∧T1≠22) (hT2:T2≠3∧T2≠22) (S:List Sc) (i0:Int) (v:Value) (w0 W:World) (J:Nat→World→Prop)
 (hF:Fst (parS S) S.length) (hi0: -1≤i0) (hi1:i0<(S.length:Int)) (hNw:N=w0.heap.size) (hB:N≤B) (hBi:B≤bi) (hbs:bs≠bi) (hs:SlR w0 v S.length (scs S)) (h0w:Same0 w0 W)
 (hJ:∀k X Y,J k X→TurnJ B 3 X Y→J k Y)
 (hY:∀k W1,J k W1→k<(upL S (i0.toNat+1) i0).length→YieldAt Fence.wide (n-1) Tryz.prog lp (upE (upL S (i0.toNat+1) i0) k) W1 fun e W'=>e=.returned (.bool true)∧J (k+1) W'∧(KpU N T1 T2 W1 W'∧W1.heap.size≤W'.heap.size))
 (hci:W.heap[bi]? =some (.cells #[.int .i64 i0] 3 (0,0))) (hcs:W.heap[bs]? =some (.cells #[v] 22 (0,0))) (h0:J 0 W):
 CallsIn Fence.wide n Tryz.prog 286 #[.func (.yield lp) #[] #[],.pointer (some ⟨bi,0,none⟩),.pointer (some ⟨bs,0,none⟩)] W fun e W'=>(∃v,e=.returned v)∧J (upL S (i0.toNat+1) i0).length W':=by
 have hro:Fence.wide.round=none:=rfl;obtain⟨hsp,hend⟩:=zpP hF (i0.toNat+1) i0 (by omega) hi0 hi1;have HSP:=lhd hsp;have HEND:=lhd hend;clear hsp hend;generalize upL S (i0.toNat+1) i0=L at*;obtain⟨a,cap,rfl,hcp,hm⟩:=hs.shape;unfold maxLen at hm;have HS:=lhd hs;have HJ:=lhd hJ;have HY:=lhd hY;have HF:=lhd hF;have HCI:=lhd hci;have HCS:=lhd hcs;have H0W:=lhd h0w;have HT:=lhd (And.intro hT1 hT2);have HN:=lhd hNw;have HI:=lhd (And.intro hi0 hi1);clear hs hJ hY hF hci hcs h0w hT1 hT2 hNw hi0 hi1;refine callsIn_of_wp Tryz.func286 rfl trivial ?_ hro;simp only[Tryz.ntmps286,List.size_toArray,List.length_cons,List.length_nil,Nat.reduceAdd,Nat.reduceSub,Array.replicate_succ,Array.replicate_zero,List.push_toArray,List.append_toArray,List.nil_append,List.cons_append];gi_wp2
 gi_loopw [4] (fun _ wr=>∃k:Nat,k≤L.length∧J k wr∧Same0 w0 wr∧wr.heap[bi]? =some (.cells #[.int .i64 (upI S i0 k)] 3 (0,0))∧wr.heap[bs]? =some (.cells #[.slice a S.length cap] 22 (0,0)))
  (fun _ wr=>zh4 bi wr)
 case atStart=>exact⟨0,Nat.zero_le _,h0,H0W.out,HCI.out,HCS.out⟩
 case round=>
  obtain⟨k,hk,hjk,hsa,hbi,hbs2⟩:=hrel;obtain⟨ci,fi⟩:=zjK hbi;obtain⟨cs,fs⟩:=zjK hbs2;have HBI:=lhd hbi;have HBS:=lhd hbs2;have HSA:=lhd hsa;have HJK:=lhd hjk;have hme:zh4 bi wr=(upI S i0 k+1).toNat:=by unfold zh4;rw[ci];rfl
  have HME:=lhd hme;clear hbi hbs2 hsa hme;by_cases hlt:k<L.length
  ·obtain⟨q0,q1,q2⟩:=HSP.out k hlt;obtain⟨fn,tmps,assign,body,hy,hR⟩:=HY.out k wr hjk hlt;have HR:=lhd hR;have HLD:=lhd (show(L.getD k 0:Nat)=(upI S i0 k).toNat by rw[List.getD,q2];rfl);have HNX:=lhd (show upI S i0 (k+1)=parS S (upI S i0 k).toNat from rfl);obtain⟨m,hm2⟩:=Int.eq_ofNat_of_zero_le q0;rw[hm2]at q1 HNX ci HBI HME HLD;rw[Int.toNat_natCast]at HNX HLD;have hmS:m<S.length:=by omega
   unfold upE at hy;rw[HLD.out]at hy;clear q0 q2 hR hjk hm2 q1;have h1n:1≤n:=by omega
   gi_wp2
   refine HR.out.mono ?_;rintro e W3 ⟨rfl,hj3,hk3,hz3⟩;have HJ3:=lhd hj3;have HSA3:=lhd (show Same0 w0 W3 from KpU.old HSA.out (HN.out▸hk3) hz3);have HBI3:=lhd (hk3 bi _ 3 _ (.inr ⟨fun e=>HT.out.1.1 e.symm,fun e=>HT.out.2.1 e.symm⟩) HBI.out);have HBS3:=lhd (hk3 bs _ 22 _ (.inr ⟨fun e=>HT.out.1.2 e.symm,fun e=>HT.out.2.2 e.symm⟩) HBS.out);clear hj3 hk3 hz3 ci fi cs fs hy;obtain⟨ci,fi⟩:=zjK HBI3.out;obtain⟨cs,fs⟩:=zjK HBS3.out;obtain⟨b,o,rfl,hcell⟩:=(HS.out.same0 HSA3.out).scs hmS;have hps:parS S m=S[m].2.2:=by simp[parS,List.getD,hmS]
   have HQ:=lhd (HF.out m hmS);rw[hps]at HNX HQ;generalize S[m]=x at hcell HNX HQ;obtain⟨nm,ty,pa⟩:=x;dsimp only at HNX HQ;have d2:W3.cell? ⟨b,o+m*3+2,none⟩=some (.int .i64 pa):=hcell 2 _ rfl;clear hcell hps;gi_wp2
   go_roundw;case rel=>exact⟨k+1,hlt,HJ.out _ _ _ HJ3.out (TurnJ.setCell HBI3.out hBi 0 _),HSA3.out.turn (HN.out▸hB) (TurnJ.setCell (T:=3) HBI3.out hBi 0 _).i,by rw[HNX.out];exact zfM HBI3.out,zfL hbs HBS3.out⟩
   case measure=>
    rw[HME.out];have e:((W3.setCell ⟨bi,0,none⟩ (.int .i64 pa)).cell? ⟨bi,0,none⟩)=some (.int .i64 pa):=(zjK (zfM (x':=.int .i64 pa) HBI3.out)).1;unfold zh4;rw[e];have:=HQ.out;simp[intOf];omega
  ·obtain rfl:k=L.length:=by omega
   have hend:=HEND.out;rw[hend]at ci;clear hend;gi_wp2
   go_end0
   exact⟨⟨_,rfl⟩,HJK.out⟩
theorem zn2 (base g c a b m:Nat) (l X A Y B Z:List Vr) (w:World) (hg:SO base g l.length c w l) (hl:l=X++(A++(Y++(B++Z)))) (hA:A.length=m) (hB:B.length=m) (ha:X.length=a) (hb:X.length+A.length+Y.length=b) (hn:l.length≤1000):
 Calls Tryz.prog 307 #[.slice (some ⟨g,0,none⟩) l.length c,.int .i64 a,.int .i64 b,.int .i64 m,(.func (.func 166) #[] #[])] w fun e w'=>
  e=.returned (.tuple #[])∧SO base g l.length c w' (X++(B++(Y++(A++Z))))∧Below base w w':=by
 have hlen:l.length=X.length+A.length+Y.length+B.length+Z.length:=by rw[hl];simp only[List.length_append];omega
 have hlo:=hg.lo;have HCAP:=lhd hg.cap;have H0:=lhd (show SO base g l.length c w (swpd X A Y B Z 0)by rw[zoU,←hl];exact hg);have hAB:A.length=B.length:=by omega
 generalize hN:l.length=n at*;clear hg hl;go_enter Tryz.func307,Tryz.ntmps307;go_wp2_with fail;go_loopw [10] (fun i wr=>∃j:Nat,j≤m∧i=.int .i64 j∧SO base g n c wr (swpd X A Y B Z j)∧Below base w wr) (fun i _=>m-(intOf i).toNat)
 case atStart=>exact⟨0,Nat.zero_le _,rfl,H0.out,Below.refl _ _⟩
 case round=>
  obtain⟨j,hj,rfl,hs,hbw⟩:=hrel;have HB:=lhd hbw;clear hbw;by_cases hlt:j<m
  ·obtain⟨X1,Y1,Z1,e1,e2,e3,e4⟩:=zoT (X:=X) (Y:=Y) (Z:=Z) hAB (i:=j) (by omega);rw[e3]at hs;have HE4:=lhd e4;generalize A[j]'(by omega)=x at hs HE4;generalize B[j]'(by omega)=y at hs HE4;have HSW:=lhd (hs.swap (p:=a+j) (q:=b+j) (by omega) (by omega));have hz1:=hs.at;rw[show X1++x::(Y1++y::Z1)=(X1++x::Y1)++y::Z1 by simp]at hs;have hz2:=hs.at;rw[List.length_append,List.length_cons,show X1.length+(Y1.length+1)=b+j by omega]at hz2;rw[show X1.length=a+j by omega]at hz1;obtain⟨p0,p1,p2,p3,p4,p5,p6⟩:=hz1;obtain⟨q0,q1,q2,q3,q4,q5,q6⟩:=hz2;have HS:=lhd hs;have hfz:=zkb hs;have hw1:IntKind.i64.wrap ((a:Int)+(j:Int))=(a:Int)+(j:Int):=IntWalk.i64_in _ (by omega);have hw2:IntKind.i64.wrap ((b:Int)+(j:Int))=(b:Int)+(j:Int):=IntWalk.i64_in _ (by omega);have hw3:IntKind.i64.wrap ((j:Int)+1)=(j:Int)+1:=IntWalk.i64_in _ (by omega);have h1:(0:Int)≤(a:Int)+(j:Int):=by omega
   have h2:(0:Int)≤(b:Int)+(j:Int):=by omega
   have h3:(a:Int)+(j:Int)<(n:Int):=by omega
   have h4:(b:Int)+(j:Int)<(n:Int):=by omega
   have h5:((a:Int)+(j:Int)).toNat=a+j:=by omega
   have h6:((b:Int)+(j:Int)).toNat=b+j:=by omega
   have HE:=lhd (And.intro e1 e2);have hab:¬a=b:=by omega
   have hba:¬b=a:=by omega
   clear hs e1 e2 e3 e4 hAB hA hB ha hb hlen;go_upto_region 3 with fail;go_region
   clear p0 p1 p2 p3 p4 p5 p6 q0 q1 q2 q3 q4 q5 q6 hw1 hw2 h1 h2 h3 h4 h5 h6 hab hba hfz;go_wp2_with fail;go_roundw;case rel=>exact⟨j+1,by omega,by go_num,by rw[HE4.out];exact HSW.out.1.drew,(HB.out.trans HSW.out.2).drew⟩
   case measure=>simp[intOf];omega
  ·obtain rfl:j=m:=by omega
   have HF:=lhd (show SO base g n c wr (X++(B++(Y++(A++Z))))by rw[←hA,zoS hAB]at hs;exact hs);clear hs;go_wp2_with fail;go_end0
   exact⟨rfl,HF.out,HB.out⟩
def vk (v:Vr):Int:=v.sc
theorem SO.drw {base g n c:Nat} {w:World} {l:List Vr} (h:SO base g n c w l) (m:Nat):SO base g n c (w.drewN m) l:=h
theorem zbB {B:Nat} {a w:World} (h:RowKit.Below B a w) (m:Nat):RowKit.Below B a (w.drewN m):=⟨h.os,h.tape,h.output,h.size,h.block⟩
def zad (x y:Vr) (w:World) (e:Ending) (w':World):Prop:=∃z:Int,e=.returned (.int .i64 z)∧decide (z<0)=decide (vk x<vk y)∧Below w.heap.size w w'
theorem zcV (x y:Int):decide (Lib.compareInt x y<0)=decide (x<y):=by
 unfold Lib.compareInt;split
 ·rename_i h;rw[decide_eq_true h];rfl
 ·rename_i h
  rw[decide_eq_false h];split<;>rfl
theorem znU (x y:Vr) (w:World):Calls Tryz.prog 166 #[vrV x,vrV y] w (zad x y w):=by
 have hb:Below w.heap.size w ((w.alloc (.cells #[.string (bsB x.nm),.int .i64 x.ty,.int .i64 x.sc,.int .i64 x.sg,.bool x.rg,.int .i64 x.mb,.int .i64 x.lb] 42)).alloc (.cells #[.string (bsB y.nm),.int .i64 y.ty,.int .i64 y.sc,.int .i64 y.sg,.bool y.rg,.int .i64 y.mb,.int .i64 y.lb] 42)):=((Below.refl _ _).alloc (Nat.le_refl _) _).alloc (by simp) _;have HB:=lhd hb;clear hb;go_enter Tryz.func166,Tryz.ntmps166;go_wp2_with fail;refine(Tryz.cmp_Compare_int _ _ _).mono ?_;rintro e w1 ⟨rfl,hw⟩;have hw':=hw.symm;subst hw';go_wp2_with fail;go_ret;exact⟨_,rfl,zcV _ _,HB.out⟩
theorem zgt {Q A1 A2:List Vr} {x:Vr} (hQ:Srt vk Q) (h:Q=A1++A2) (h2:∀y∈A2,vk x<vk y) (h1:∀A y,A1=A++ [y]→¬vk x<vk y):mrg vk Q [x]=A1++x::A2:=by
 subst h;refine zin hQ (fun y hy=>?_) h2;obtain⟨A,z,rfl⟩:∃A z,A1=A++ [z]:=⟨A1.dropLast,A1.getLast (fun e=>by rw[e]at hy;cases hy),(List.dropLast_concat_getLast _).symm⟩;have h3:=h1 A z rfl;have hp:=(List.pairwise_append.1 hQ).1;rcases List.mem_append.1 hy with hy|hy
 ·have:=(List.pairwise_append.1 hp).2.2 y hy z (by simp);omega
 ·rw[List.mem_singleton]at hy;subst hy;omega
theorem zgP (M:List Vr):zgK vk (M.take 1)=M.take 1:=by
 cases M with
 |nil=>rfl
 |cons x l=>rfl
theorem znW (base g c a b:Nat) (l P M S:List Vr) (w:World) (hg:SO base g l.length c w l) (hl:l=P++(M++S)) (hp:P.length=a) (hM:a+M.length=b) (hn:l.length≤1000):
 Calls Tryz.prog 266 #[.slice (some ⟨g,0,none⟩) l.length c,.int .i64 a,.int .i64 b,(.func (.func 166) #[] #[])] w fun e w'=>
  e=.returned (.tuple #[])∧SO base g l.length c w' (P++(zgK vk M++S))∧Below base w w':=by
 have hlen:l.length=P.length+M.length+S.length:=by rw[hl];simp only[List.length_append];omega
 have H0:=lhd (show SO base g l.length c w (P++(zgK vk (M.take 1)++(M.drop 1++S)))by rw[zgP,←List.append_assoc (M.take 1),List.take_append_drop,←hl];exact hg);have hw0:IntKind.i64.wrap ((a:Int)+1)=(a:Int)+1:=IntWalk.i64_in _ (by omega);have HCAP:=lhd hg.cap;generalize hN:l.length=n at*;clear hg hl;go_enter Tryz.func266,Tryz.ntmps266;go_wp2_with fail;clear hw0;go_loopw [8] (fun vi wr=>∃q:Nat,vi=.int .i64 ((a:Int)+(q:Int))∧1≤q∧(q≤M.length∨q=1)∧SO base g n c wr (P++(zgK vk (M.take q)++(M.drop q++S)))∧Below base w wr) (fun vi _=>b-(intOf vi).toNat)
 case atStart=>exact⟨1,by simp,Nat.le_refl _,.inr rfl,H0.out,Below.refl _ _⟩
 case round=>
  obtain⟨q,rfl,hq1,hq2,hs,hbw⟩:=hrel;have HB:=lhd hbw;clear hbw;by_cases hlt:q<M.length
  ·have hd0:decide ((a:Int)+(q:Int)<(b:Int))=true:=by rw[decide_eq_true_iff];omega
   have hwq:IntKind.i64.wrap ((a:Int)+(q:Int)+1)=(a:Int)+(q:Int)+1:=IntWalk.i64_in _ (by omega);rw[List.drop_eq_getElem_cons hlt]at hs;have HX:=lhd (show zgK vk (M.take (q+1))=mrg vk (zgK vk (M.take q)) [M[q]]by rw[List.take_succ_eq_append_getElem hlt];exact zgR _ _);have HQS:=lhd (zgS (k:=vk) (M.take q));have hQl:(zgK vk (M.take q)).length=q:=by rw[zgN,List.length_take];omega
   generalize M[q]=x at hs HX;generalize zgK vk (M.take q)=Q at hs HX HQS hQl;have H1:=lhd hs;have hzl:=hs.len;simp only[List.length_append,List.length_cons]at hzl;clear hs;go_wp2_with fail;clear hd0;go_loopw [9] (fun vj wj=>∃(j:Nat) (A1 A2:List Vr),vj=.int .i64 (j:Int)∧a+A1.length=j∧Q=A1++A2∧(∀y∈A2,vk x<vk y)∧SO base g n c wj (P++(A1++x::(A2++(M.drop (q+1)++S))))∧Below base w wj) (fun vj _=>(intOf vj).toNat-a)
   case atStart=>exact⟨a+q,Q,[],by simp,by rw[hQl],by simp,by simp,by simpa using H1.out,HB.out⟩
   case round=>
    obtain⟨j,A1,A2,rfl,hj,hsp,hgt,hs,hbj⟩:=hrel;have HBJ:=lhd hbj;have HSP:=lhd hsp;have HGT:=lhd hgt;clear hbj hsp hgt;by_cases hA:A1=[]
    ·subst hA;have hja:j=a:=by simpa using hj.symm
     subst hja;have hdj:decide ((j:Int)<(j:Int))=false:=by simp
     have HF:=lhd (show SO base g n c wr (P++(zgK vk (M.take (q+1))++(M.drop (q+1)++S)))by
      rw[HX.out,zgt HQS.out HSP.out HGT.out (fun A y e=>by simp at e)];simpa using hs)
     clear hs;go_wp2_with fail;go_quiet (fail);go_wp2_with fail;go_roundw;case rel=>exact⟨q+1,by simp;omega,by omega,.inl (by omega),SO.drw HF.out _,zbB HBJ.out _⟩
     case measure=>simp[intOf];omega
    ·obtain⟨A,y,rfl⟩:∃A y,A1=A++ [y]:=⟨A1.dropLast,A1.getLast hA,(List.dropLast_concat_getLast _).symm⟩;rw[List.length_append,List.length_singleton]at hj;obtain⟨k,rfl⟩:∃k,j=k+1:=⟨j-1,by omega⟩;clear hA;rw[show P++(A++ [y]++x::(A2++(M.drop (q+1)++S)))=(P++A)++y::([]++x::(A2++(M.drop (q+1)++S)))by simp]at hs;have hPA:(P++A).length=k:=by rw[List.length_append];omega
     have hkn:k+1<n:=by have:=hs.len;simp only[List.length_append,List.length_cons,List.length_nil]at this hPA;omega
     have hd1:decide ((a:Int)<(k:Int)+1)=true:=by rw[decide_eq_true_iff];omega
     have hz:=hs.at;rw[hPA]at hz;have hs':=hs;rw[show(P++A)++y::([]++x::(A2++(M.drop (q+1)++S)))=(P++(A++ [y]))++x::(A2++(M.drop (q+1)++S))by simp]at hs';have hz':=hs'.at;rw[show(P++(A++ [y])).length=k+1 by simp only[List.length_append,List.length_singleton]at hPA⊢;omega]at hz';obtain⟨y0,y1,y2,y3,y4,y5,y6⟩:=hz;obtain⟨x0,x1,x2,x3,x4,x5,x6⟩:=hz';have HS:=lhd hs;have HPA:=lhd hPA;have HLO:=lhd (show base≤wr.drew.heap.size from Nat.le_of_lt (Nat.lt_of_le_of_lt hs.lo.1 hs.lo.2));have h1:(0:Int)≤(k:Int)+1:=by omega
     have h2:(k:Int)+1<(n:Int):=by omega
     have h3:((k:Int)+1).toNat=k+1:=by omega
     have h4:(0:Int)≤(k:Int):=by omega
     have h5:(k:Int)<(n:Int):=by omega
     have hwk:IntKind.i64.wrap ((k:Int)+1-1)=(k:Int):=by rw[IntWalk.i64_in _ (by omega)];omega
     have hwk2:IntKind.i64.wrap (k:Int)=(k:Int):=IntWalk.i64_in _ (by omega);have HL:=lhd (show a+A.length=k∧a+M.length=b∧q<M.length∧k+1<n∧n≤1000 from⟨by omega,hM,hlt,hkn,hn⟩);clear hs hs' hPA hkn hp hM hlen hzl hQl hj hlt hN hq1 hq2;by_cases hc:vk x<vk y
     ·have HC:=lhd (show decide (vk x<vk y)=true from decide_eq_true hc)
      have HGT2:=lhd (show ∀z∈y::A2,vk x<vk z from fun z hz=>by
       rcases List.mem_cons.1 hz with rfl|hz
       ·exact hc
       ·exact HGT.out z hz)
      clear hc;go_wp2_with fail
      go_region_held3 (fun w'=>w'.cell? ⟨g,(k+1)*7,none⟩=some (.string (bsB x.nm))∧w'.cell? ⟨g,(k+1)*7+1,none⟩=some (.int .i64 x.ty)∧w'.cell? ⟨g,(k+1)*7+2,none⟩=some (.int .i64 x.sc)∧w'.cell? ⟨g,(k+1)*7+3,none⟩=some (.int .i64 x.sg)∧w'.cell? ⟨g,(k+1)*7+4,none⟩=some (.bool x.rg)∧w'.cell? ⟨g,(k+1)*7+5,none⟩=some (.int .i64 x.mb)∧w'.cell? ⟨g,(k+1)*7+6,none⟩=some (.int .i64 x.lb)∧w'.cell? ⟨g,k*7,none⟩=some (.string (bsB y.nm))∧w'.cell? ⟨g,k*7+1,none⟩=some (.int .i64 y.ty)∧w'.cell? ⟨g,k*7+2,none⟩=some (.int .i64 y.sc)∧w'.cell? ⟨g,k*7+3,none⟩=some (.int .i64 y.sg)∧w'.cell? ⟨g,k*7+4,none⟩=some (.bool y.rg)∧w'.cell? ⟨g,k*7+5,none⟩=some (.int .i64 y.mb)∧w'.cell? ⟨g,k*7+6,none⟩=some (.int .i64 y.lb))
       (first|exact⟨x0,x1,x2,x3,x4,x5,x6,y0,y1,y2,y3,y4,y5,y6⟩|exact⟨u0,u1,u2,u3,u4,u5,u6,v0,v1,v2,v3,v4,v5,v6⟩|go_keep)
       (first
         |(go_at_call 166;refine(znU x y _).mono ?_;rintro e w2 ⟨z,rfl,hz,hb2⟩;rw[HC.out]at hz;have hs2:=SO.after HS.out.drew hb2;have HS2:=lhd hs2;have HB2:=lhd (HBJ.out.drew.trans (hb2.mono HLO.out));have hqa:=hs2.at;rw[HPA.out]at hqa;have hs3:=hs2;rw[show(P++A)++y::([]++x::(A2++(M.drop (q+1)++S)))=(P++(A++ [y]))++x::(A2++(M.drop (q+1)++S))by simp]at hs3;have hqb:=hs3.at;rw[show(P++(A++ [y])).length=k+1 by have:=HPA.out;simp only[List.length_append,List.length_singleton]at this⊢;omega]at hqb;obtain⟨v0,v1,v2,v3,v4,v5,v6⟩:=hqa;obtain⟨u0,u1,u2,u3,u4,u5,u6⟩:=hqb;clear hb2 hs2 hs3)
         |fail "no arm")
      have hsw:=HS2.out.swap2 (p:=k) (q:=k+1) HPA.out (by rw[HPA.out];rfl);have HSW:=lhd hsw;have hfz:=zkb HS2.out;have hab:¬k+1=k:=by omega
      have hba:¬k=k+1:=by omega
      clear hsw;go_upto_region 6 with fail;go_region
      clear u0 u1 u2 u3 u4 u5 u6 v0 v1 v2 v3 v4 v5 v6 x0 x1 x2 x3 x4 x5 x6 y0 y1 y2 y3 y4 y5 y6 hfz hab hba h1 h2 h3 h4 h5;go_wp2_with fail;go_roundw
      case rel=>
       refine⟨k,A,y::A2,rfl,HL.out.1,by rw[HSP.out];simp,HGT2.out,?_,(HB2.out.trans HSW.out.2).drew⟩;have h9:=HSW.out.1.drew;rw[show(P++A)++x::([]++y::(A2++(M.drop (q+1)++S)))=P++(A++x::((y::A2)++(M.drop (q+1)++S)))by simp]at h9;exact h9
      case measure=>
       have h9:=HL.out.1;simp[intOf];omega
     ·have HC:=lhd (show decide (vk x<vk y)=false from decide_eq_false hc)
      have HF:=lhd (show SO base g n c wr (P++(zgK vk (M.take (q+1))++(M.drop (q+1)++S)))by
       have h9:=HS.out
       rw[HX.out,zgt HQS.out HSP.out HGT.out (fun A' z e=>by
        have e2:=List.append_inj_right' e rfl;injection e2 with e2 _;subst e2;exact hc)]
       rw[show P++(A++ [y]++x::A2++(M.drop (q+1)++S))=(P++A)++y::([]++x::(A2++(M.drop (q+1)++S)))by simp];exact h9)
      clear hc;go_wp2_with fail
      go_region_held3 (fun w'=>w'.cell? ⟨g,(k+1)*7,none⟩=some (.string (bsB x.nm))∧w'.cell? ⟨g,(k+1)*7+1,none⟩=some (.int .i64 x.ty)∧w'.cell? ⟨g,(k+1)*7+2,none⟩=some (.int .i64 x.sc)∧w'.cell? ⟨g,(k+1)*7+3,none⟩=some (.int .i64 x.sg)∧w'.cell? ⟨g,(k+1)*7+4,none⟩=some (.bool x.rg)∧w'.cell? ⟨g,(k+1)*7+5,none⟩=some (.int .i64 x.mb)∧w'.cell? ⟨g,(k+1)*7+6,none⟩=some (.int .i64 x.lb)∧w'.cell? ⟨g,k*7,none⟩=some (.string (bsB y.nm))∧w'.cell? ⟨g,k*7+1,none⟩=some (.int .i64 y.ty)∧w'.cell? ⟨g,k*7+2,none⟩=some (.int .i64 y.sc)∧w'.cell? ⟨g,k*7+3,none⟩=some (.int .i64 y.sg)∧w'.cell? ⟨g,k*7+4,none⟩=some (.bool y.rg)∧w'.cell? ⟨g,k*7+5,none⟩=some (.int .i64 y.mb)∧w'.cell? ⟨g,k*7+6,none⟩=some (.int .i64 y.lb))
       (first|exact⟨x0,x1,x2,x3,x4,x5,x6,y0,y1,y2,y3,y4,y5,y6⟩|exact⟨u0,u1,u2,u3,u4,u5,u6,v0,v1,v2,v3,v4,v5,v6⟩|go_keep)
       (first
         |(go_at_call 166;refine(znU x y _).mono ?_;rintro e w2 ⟨z,rfl,hz,hb2⟩;rw[HC.out]at hz;have hs2:=SO.after HS.out.drew hb2;have HS2:=lhd hs2;have HFF:=lhd (SO.after HF.out.drew hb2);have HB2:=lhd (HBJ.out.drew.trans (hb2.mono HLO.out));have hqa:=hs2.at;rw[HPA.out]at hqa;have hs3:=hs2;rw[show(P++A)++y::([]++x::(A2++(M.drop (q+1)++S)))=(P++(A++ [y]))++x::(A2++(M.drop (q+1)++S))by simp]at hs3;have hqb:=hs3.at;rw[show(P++(A++ [y])).length=k+1 by have:=HPA.out;simp only[List.length_append,List.length_singleton]at this⊢;omega]at hqb;obtain⟨v0,v1,v2,v3,v4,v5,v6⟩:=hqa;obtain⟨u0,u1,u2,u3,u4,u5,u6⟩:=hqb;clear hb2 hs2 hs3)
         |fail "no arm")
      clear u0 u1 u2 u3 u4 u5 u6 v0 v1 v2 v3 v4 v5 v6 x0 x1 x2 x3 x4 x5 x6 y0 y1 y2 y3 y4 y5 y6 h1 h2 h3 h4 h5;go_wp2_with fail;go_roundw;case rel=>exact⟨q+1,by simp;omega,by omega,.inl (by have:=HL.out.2.2.1;omega),HFF.out,HB2.out⟩
      case measure=>
       have h9:=HL.out;simp[intOf];omega
  ·have hd0:decide ((a:Int)+(q:Int)<(b:Int))=false:=by rw[decide_eq_false_iff_not];omega
   have HF:=lhd (show SO base g n c wr (P++(zgK vk M++S))by
    rw[List.take_of_length_le (by omega),List.drop_of_length_le (by omega)]at hs;exact hs)
   clear hs;go_wp2_with fail;go_end0
   exact⟨rfl,HF.out,HB.out⟩
attribute [local go_sem] Oper.semAt_some
def zkL (par:Nat→Int) (n f:Nat) (p:Int) (i:Nat):List Nat:=((List.range n).drop i).flatMap fun j=>if par j=p then j::pre par n f j else []
theorem zkP (par:Nat→Int) (n f:Nat) (p:Int):zkL par n f p 0=pre par n (f+1) p:=by rw[zk8];rfl
theorem zkO {par:Nat→Int} {n f:Nat} {p:Int} {i:Nat} (h:i<n):zkL par n f p i=(if par i=p then i::pre par n f i else [])++zkL par n f p (i+1):=by
 unfold zkL;rw[List.drop_eq_getElem_cons (by simpa using h),List.flatMap_cons];simp
theorem zkM {par:Nat→Int} {n f:Nat} {p:Int} {i:Nat} (h:n≤i):zkL par n f p i=[]:=by
 unfold zkL;rw[List.drop_of_length_le (by simpa using h)];rfl
theorem zkN {par:Nat→Int} {n f:Nat} {p:Int} (hF:Fst par n):∀i:Nat,(i:Int)≤max p 0→zkL par n f p i=pre par n (f+1) p
 |0,_=>zkP par n f p
 |i+1,h=>by
  rw[←zkN hF i (by omega)];by_cases hi:i<n
  ·rw[zkO hi,if_neg,List.nil_append];have:=(hF i hi).2;omega
  ·rw[zkM (by omega),zkM (by omega)]
theorem zpI {b:Bool} (h:some undef=some (Value.bool b)):False:=by
 unfold undef at h;cases h
def ordE (L:List Nat) (k:Nat):Array Value:=#[.int .i64 ((L.getD k 0:Nat):Int)]
def KpO (N:Nat) (W V:World):Prop:=W.heap.size≤V.heap.size∧∀(b:Nat) (C:Array Value) (T:TypeId) (fr:Nat×Nat),b<N→W.heap[b]? =some (.cells C T fr)→V.heap[b]? =some (.cells C T fr)
theorem KpO.trans {N:Nat} {A B C:World} (h:KpO N A B) (k:KpO N B C):KpO N A C:=⟨Nat.le_trans h.1 k.1,fun b D T fr hb h1=>k.2 b D T fr hb (h.2 b D T fr hb h1)⟩
theorem KpO.same0 {N:Nat} {W V:World} (h:Same0 W V):KpO N W V:=⟨h.size,fun b C T fr _ hb=>h.cells b C T fr hb⟩
theorem KpO.old {w0 W V:World} (h:Same0 w0 W) (k:KpO w0.heap.size W V):Same0 w0 V:=
 ⟨Nat.le_trans h.size k.1,fun b C T fr hb=>k.2 b C T fr (Array.getElem?_eq_some_iff.1 hb).1 (h.cells _ _ _ _ hb)⟩
def WkP (n:Nat) (lp:Nat) (v:Value) (w0:World) (J:Nat→World→Prop) (p:Int) (k m:Nat) (W:World):Prop:=
 CallsIn Fence.wide n Tryz.prog 219 #[v,.int .i64 p,.func (.yield lp) #[] #[]] W fun e W'=>e=.returned (.bool true)∧J (k+m) W'∧Same0 w0 W'
theorem zq4 (n:Nat) (hn:2≤n) (lp:Nat) (S:List Sc) (v:Value) (w0:World) (J:Nat→World→Prop) (ord:List Nat)
 (hF:Fst (parS S) S.length) (hl:S.length≤1000) (hs:SlR w0 v S.length (scs S))
 (hY:∀k W1,J k W1→k<ord.length→YieldAt Fence.wide (n-1) Tryz.prog lp (ordE ord k) W1 fun e W'=>e=.returned (.bool true)∧J (k+1) W'∧KpO w0.heap.size W1 W')
 (f:Nat) (p:Int) (A B:List Nat) (W:World) (hp: -1≤p) (hp2:p≤1000) (ho:ord=A++pre (parS S) S.length (f+1) p++B) (h0:J A.length W) (h00:Same0 w0 W)
 (ih:∀(i:Nat) (A' B':List Nat) (W':World),p<(i:Int)→i<S.length→ord=A'++pre (parS S) S.length f i++B'→J A'.length W'→Same0 w0 W'→WkP n lp v w0 J i A'.length (pre (parS S) S.length f i).length W'):
 WkP n lp v w0 J p A.length (pre (parS S) S.length (f+1) p).length W:=by
 have hro:Fence.wide.round=none:=rfl;obtain⟨a,cap,rfl,hcp,hm⟩:=hs.shape;unfold WkP;obtain⟨i0,hi0⟩:∃i0:Nat,(i0:Int)=max p 0:=⟨(max p 0).toNat,by omega⟩;have HST:=lhd (zkN (n:=S.length) (f:=f) (p:=p) hF i0 (by omega));have HS:=lhd hs;have HF:=lhd hF;have HY:=lhd hY;have HO:=lhd ho;have HI:=lhd ih;have H00:=lhd h00;generalize hpl:pre (parS S) S.length (f+1) p=PL at*;clear hs hF hY ho ih hm hcp h00;refine callsIn_of_wp Tryz.func219 rfl trivial ?_ hro;simp only[Tryz.ntmps219,List.size_toArray,List.length_cons,List.length_nil,Nat.reduceAdd,Nat.reduceSub,Array.replicate_succ,Array.replicate_zero,List.push_toArray,List.append_toArray,List.nil_append,List.cons_append];have HI0:=lhd hi0;have HPL:=lhd hpl;clear hpl;have HB0:=lhd (show p≤(i0:Int)∧i0≤1000 by omega);clear hi0;gi_wp2
 gi_loopw [7] (fun i wr=>∃(j:Nat) (A':List Nat),i=.int .i64 j∧p≤(j:Int)∧j≤1000∧A'++zkL (parS S) S.length f p j=A++PL∧J A'.length wr∧Same0 w0 wr) (fun i _=>S.length-(intOf i).toNat)
 case atStart=>exact⟨i0,A,by rw[HI0.out],HB0.out.1,HB0.out.2,by rw[HST.out],h0,H00.out⟩
 case round=>
  obtain⟨j,A',rfl,hpj,hj,hA,hjk,hsa⟩:=hrel;have HA:=lhd hA;have HJK:=lhd hjk;have HSA:=lhd hsa;clear hA hjk hsa h0;by_cases hlt:j<S.length
  ·obtain⟨b,o,rfl,hcell⟩:=(HS.out.same0 HSA.out).scs hlt;have hps:parS S j=S[j].2.2:=by simp[parS,List.getD,hlt]
   have HPF:=lhd (zkO (par:=parS S) (f:=f) (p:=p) hlt);have HFJ:=lhd (HF.out j hlt);rw[hps]at HPF HFJ;generalize S[j]=x at hcell HPF HFJ;obtain⟨nm,ty,pa⟩:=x;have d2:wr.cell? ⟨b,o+j*3+2,none⟩=some (.int .i64 pa):=hcell 2 _ rfl;clear hcell hps;dsimp only at HPF HFJ;have h1n:1≤n:=by omega
   by_cases hpa:pa=p
   ·subst hpa;rw[if_pos rfl]at HPF
    have HA2:=lhd (show ord=A'++j::(pre (parS S) S.length f j++(zkL (parS S) S.length f pa (j+1)++B))by
     rw[HO.out,←HA.out,HPF.out];simp)
    have HEN:=lhd (show ordE ord A'.length=#[.int .i64 (j:Int)]by
     unfold ordE;rw[HA2.out,List.getD,List.getElem?_append_right (Nat.le_refl _),Nat.sub_self];rfl)
    obtain⟨fn,tmps,assign,body,hy,hR⟩:=HY.out A'.length wr HJK.out (by rw[HA2.out];simp);have HR:=lhd hR;rw[HEN.out]at hy;have HIH:=lhd (fun W' h1 h2=>HI.out j (A'++ [j]) (zkL (parS S) S.length f pa (j+1)++B) W' (by have:=HFJ.out.2;omega) hlt (by rw[HA2.out];simp) h1 h2)
    have HNX:=lhd (show(A'++j::pre (parS S) S.length f j)++zkL (parS S) S.length f pa (j+1)=A++PL by
     rw[←HA.out,HPF.out];simp)
    clear hR;gi_wp2
    refine HR.out.mono ?_;rintro e W3 ⟨rfl,hj3,hk3⟩;have HJ3:=lhd hj3;have HS3:=lhd (KpO.old HSA.out hk3);clear hj3 hk3 hy d2;gi_wp2
    refine⟨trivial,?_⟩;have HW:=lhd (HIH.out W3 (by rw[List.length_append];exact HJ3.out) HS3.out);unfold WkP at HW;refine(callsIn_wide.2 (callsIn_wide.1 HW.out)).mono ?_;rintro e W4 ⟨rfl,hj4,hs4⟩
    have HJ4:=lhd (show J (A'++j::pre (parS S) S.length f j).length W4 by
     rw[List.length_append,List.length_singleton]at hj4;rw[List.length_append,List.length_cons,show A'.length+((pre (parS S) S.length f j).length+1)=A'.length+1+(pre (parS S) S.length f j).length by omega];exact hj4)
    have HS4:=lhd hs4;clear hj4 hs4;gi_wp2
    go_roundw;case rel=>exact⟨j+1,_,by go_num,by omega,by omega,HNX.out,HJ4.out,HS4.out⟩
    case measure=>simp[intOf];omega
   ·have hne:(pa==p)=false:=by simpa using hpa
    rw[if_neg hpa,List.nil_append]at HPF;have HNX:=lhd (show A'++zkL (parS S) S.length f p (j+1)=A++PL by rw[←HPF.out];exact HA.out);clear hpa;gi_wp2
    refine⟨fun _ _=>trivial,?_⟩;gi_wp2
    all_goals (try exact(zpI (by assumption)).elim)
    refine⟨trivial,?_⟩;gi_wp2
    go_roundw;case rel=>exact⟨j+1,A',by go_num,by omega,by omega,HNX.out,HJK.out,HSA.out⟩
    case measure=>simp[intOf];omega
  ·have HE:=lhd (show A'.length=A.length+PL.length by
    have:=HA.out;rw[zkM (by omega),List.append_nil]at this;rw[this,List.length_append])
   gi_wp2
   go_ret;exact⟨rfl,HE.out▸HJK.out,HSA.out⟩
open Go.RowKit Go.WideMaps
theorem zru (w:World):(zeroValue 4).run Tryz.prog w=.ok (.bool false) w:=by kernel_rfl
theorem zf1 (s:Sc) (w:World):Calls Tryz.prog 215 #[scV s] w fun e w'=>e=.returned (zcA (zl5 s))∧Below w.heap.size w w':=by
 obtain⟨nm,ty,pa⟩:=s;go_enter Tryz.func215,Tryz.ntmps215;go_wp2_with fail;refine bodyPost_ret (v:=zcA (pa,nm)) (by simp[results,Tryz.results215,go_sem,zcA]) rfl ⟨rfl,((Below.refl _ _).alloc (Nat.le_refl _) _).alloc (by simp) _⟩
theorem zf6 (x:Vr) (w:World):Calls Tryz.prog 217 #[vrV x] w fun e w'=>e=.returned (zeg (zqE x))∧Below w.heap.size w w':=by
 obtain⟨nm,ty,sc,sg,rg,mb,lb⟩:=x;go_enter Tryz.func217,Tryz.ntmps217;go_wp2_with fail;refine bodyPost_ret (v:=zeg (sc,nm,rg,mb,lb)) (by simp[results,Tryz.results217,go_sem,zeg]) rfl ⟨rfl,((Below.refl _ _).alloc (Nat.le_refl _) _).alloc (by simp) _⟩
open Classical in
noncomputable def zmp {κ:Type} (L:List κ) (x:κ):Option Value:=if x∈L then some (.bool true)else none
open Classical in
noncomputable def inB {κ:Type} (L:List κ) (x:κ):Bool:=decide (x∈L)
theorem zmr {κ:Type} [DecidableEq κ] (L:List κ) (x y:κ):(if y=x then some (.bool true)else zmp L y)=zmp (L++ [x]) y:=by
 unfold zmp;by_cases h:y=x
 ·subst h;simp
 ·rw[if_neg h];simp[h]
open Classical in
theorem zge {κ:Type} {L:List κ} {x:κ}:inB L x=true↔x∈L:=by
 unfold inB;exact⟨of_decide_eq_true,decide_eq_true⟩
theorem zmq {κ:Type} (L:List κ) (x:κ):(zmp L x).getD (.bool false)=.bool (inB L x):=by
 unfold zmp inB;split<;>simp[*]
theorem ziQ {κ:Type} {L:List κ} {x:κ}:(L++ [x]).Nodup↔L.Nodup∧x∉L:=by
 rw[List.nodup_append];constructor
 ·rintro⟨h1,-,h3⟩;exact⟨h1,fun h=>h3 x h x (by simp) rfl⟩
 ·rintro⟨h1,h2⟩;exact⟨h1,by simp,fun a ha b hb e=>by rw[List.mem_singleton]at hb;subst hb e;exact h2 ha⟩
theorem zf3 (v:Value) (L:List Sc) (w:World) (hs:SlR w v L.length (scs L)) (hl:L.length≤1000) (hd:∀x∈L,(Lit.int .i64 x.2.2).wf=true∧x.1.length≤maxLen):
 Calls Tryz.prog 214 #[v,(.func (.func 215) #[] #[])] w fun e w'=>e=.returned (.bool (uniq zl5 L))∧Below w.heap.size w w':=by
 obtain⟨a,cap,rfl,-,-⟩:=hs.shape;have HS:=lhd hs;have HD:=lhd (show ∀x∈L,(zcz).dom (zl5 x)from hd);have HM0:=lhd (KMap.made zcz w);have HB0:=lhd (show Below w.heap.size w (w.alloc (.map #[] 0))from(Below.refl _ _).alloc (Nat.le_refl _) _);obtain⟨R,hR⟩:∃R,R=uniq zl5 L:=⟨_,rfl⟩;rw[←hR];have HR:=lhd hR;clear hs hd hR;have hmm:= @run_makeMap Tryz.prog;go_enter Tryz.func214,Tryz.ntmps214;go_wp2_with fail;clear hmm;go_loopw [11] (fun i wr=>∃k:Nat,k≤L.length∧i=.int .i64 k∧((L.take k).map zl5).Nodup∧KMap zcz wr w.heap.size k (zmp ((L.take k).map zl5))∧Below w.heap.size w wr) (fun i _=>L.length-(intOf i).toNat)
 case atStart=>exact⟨0,Nat.zero_le _,rfl,by simp,HM0.out,HB0.out⟩
 case round=>
  obtain⟨k,hk,rfl,hnd,hm,hb⟩:=hrel;have HND:=lhd hnd;have HM:=lhd hm;have HB:=lhd hb;clear hnd hm hb;by_cases hlt:k<L.length
  ·obtain⟨b,o,rfl,hcell⟩:=(HS.out.below HB.out).scs hlt;have HTK:=lhd (show(L.take (k+1)).map zl5=(L.take k).map zl5++ [zl5 L[k]]by rw[List.take_succ_eq_append_getElem hlt,List.map_append];rfl);have HDK:=lhd (HD.out L[k] (List.getElem_mem hlt))
   have HNO:=lhd (fun(hin:zl5 L[k]∈(L.take k).map zl5)=>(show R=false by
    rw[HR.out,←Bool.not_eq_true,zpJ];intro hall;rw[←List.take_append_drop (k+1) L,List.map_append,HTK.out,List.nodup_append]at hall;exact(ziQ.1 hall.1).2 hin))
   have HKY:=lhd (fun W=>zf1 L[k] W);generalize hxk:L[k]=x at*;clear hxk;generalize hseen:(L.take k).map zl5=seen at*;clear hseen;obtain⟨kx,hkx⟩:∃kx,zl5 x=kx:=⟨_,rfl⟩;have HKV:=lhd (show ∀W,Calls Tryz.prog 215 #[scV x] W fun e w'=>e=.returned (zcA kx)∧Below W.heap.size W w' by rw[←hkx];exact HKY.out);rw[hkx]at HTK HDK HNO;clear HKY hkx
   have HLK:=lhd (fun(W:World) (hW:Below wr.heap.size wr W)=>(show(Instr.lookup 270 (.map (some w.heap.size)) (zcA kx) false).run Tryz.prog W=.ok (.bool (inB seen kx)) W by
    have:=(HM.out.below hW HM.out.lt).look1 (t:=270) Tryz.underlying270 (zru W) kx HDK.out;rw[zmq]at this;exact this))
   have HIN:=lhd (show ∀b,inB seen kx=b→(b=true→kx∈seen)∧(b=false→kx∉seen)by
    rintro b rfl;exact⟨zge.1,fun h hm=>by rw[zge.2 hm]at h;cases h⟩)
   have HMB:=lhd (fun(W:World) (hW:Below wr.heap.size wr W)=>HM.out.below hW HM.out.lt);obtain⟨nm,ty,pa⟩:=x;have d0:wr.cell? ⟨b,o+k*3,none⟩=some (.string (bsB nm)):=hcell 0 _ rfl;have d1:wr.cell? ⟨b,o+k*3+1,none⟩=some (.int .i64 ty):=hcell 1 _ rfl;have d2:wr.cell? ⟨b,o+k*3+2,none⟩=some (.int .i64 pa):=hcell 2 _ rfl;clear hcell;go_wp2_with fail;refine(HKV.out _).mono ?_;rintro e w1 ⟨rfl,hb1⟩;have HX1:=lhd ((zas.fresh wr #[.string (bsB nm),.int .i64 ty,.int .i64 pa] 55).below hb1 (by simp));have hb2:=zeF hb1;have hlk:=HLK.out _ hb2;have HB2:=lhd hb2;obtain⟨q0,q1⟩:=HIN.out _ rfl;have QQ:=lhd (And.intro q0 q1);clear hb1 hb2 q0 q1;cases hin:inB seen kx
   ·rw[hin]at hlk QQ;clear hin;have z0:=HX1.out.cell (j:=0) rfl;have z1:=HX1.out.cell (j:=1) rfl;have z2:=HX1.out.cell (j:=2) rfl;have HNI:=lhd (QQ.out.2 rfl);go_wp2_with fail;refine(HKV.out _).mono ?_;rintro e w2 ⟨rfl,hb3⟩;have HB3:=lhd (zeG HB2.out hb3);have HM3:=lhd (HMB.out _ HB3.out);clear hb3 hlk;go_wp2_with (refine zrr _ rfl _ _ _ 270 rfl 4 Tryz.underlying270 w.heap.size k _ rfl HM3.out (by unfold maxLen;omega) kx (.bool true) rfl rfl HDK.out ?_;intro w3 hm3 hg3)
    have HM4:=lhd (hm3.ext (fun s=>zmr seen kx s));have HB4:=lhd ((HB.out.trans (HB3.out.mono HB.out.size)).grown hg3 (by have:=HB.out.size;have:=HB3.out.size;omega) (fun j ej=>by injection ej with ej;omega));clear hm3 hg3;go_wp2_with fail;go_roundw;case rel=>exact⟨k+1,hlt,by go_num,by rw[HTK.out];exact ziQ.2 ⟨HND.out,HNI.out⟩,by rw[HTK.out];exact HM4.out,HB4.out⟩
    case measure=>simp[intOf];omega
   ·rw[hin]at hlk QQ;clear hin;have HRF:=lhd (show R=false from HNO.out (QQ.out.1 rfl));go_wp2_with fail;go_ret;exact⟨zlE HRF.out.symm,HB.out.trans (HB2.out.mono HB.out.size)⟩
  ·obtain rfl:k=L.length:=by omega
   have HRT:=lhd (show R=true by
    rw[HR.out,zpJ];have:=HND.out;rwa [List.take_of_length_le (Nat.le_refl _)]at this)
   clear hlt;go_wp2_with fail;go_ret;exact⟨zlE HRT.out.symm,HB.out⟩
theorem zf4 (v:Value) (L:List Vr) (w:World) (hs:SlR w v L.length (vrs L)) (hl:L.length≤1000) (hd:∀x∈L,((Lit.int .i64 x.sc).wf=true∧x.nm.length≤maxLen)∧(Lit.int .i64 x.mb).wf=true∧(Lit.int .i64 x.lb).wf=true):
 Calls Tryz.prog 216 #[v,(.func (.func 217) #[] #[])] w fun e w'=>e=.returned (.bool (uniq zqE L))∧Below w.heap.size w w':=by
 obtain⟨a,cap,rfl,-,-⟩:=hs.shape;have HS:=lhd hs;have HD:=lhd (show ∀x∈L,(zef).dom (zqE x)from hd);have HM0:=lhd (KMap.made zef w);have HB0:=lhd (show Below w.heap.size w (w.alloc (.map #[] 0))from(Below.refl _ _).alloc (Nat.le_refl _) _);obtain⟨R,hR⟩:∃R,R=uniq zqE L:=⟨_,rfl⟩;rw[←hR];have HR:=lhd hR;clear hs hd hR;have hmm:= @run_makeMap Tryz.prog;go_enter Tryz.func216,Tryz.ntmps216;go_wp2_with fail;clear hmm;go_loopw [11] (fun i wr=>∃k:Nat,k≤L.length∧i=.int .i64 k∧((L.take k).map zqE).Nodup∧KMap zef wr w.heap.size k (zmp ((L.take k).map zqE))∧Below w.heap.size w wr) (fun i _=>L.length-(intOf i).toNat)
 case atStart=>exact⟨0,Nat.zero_le _,rfl,by simp,HM0.out,HB0.out⟩
 case round=>
  obtain⟨k,hk,rfl,hnd,hm,hb⟩:=hrel;have HND:=lhd hnd;have HM:=lhd hm;have HB:=lhd hb;clear hnd hm hb;by_cases hlt:k<L.length
  ·obtain⟨b,o,rfl,hcell⟩:=(HS.out.below HB.out).vrs hlt;have HTK:=lhd (show(L.take (k+1)).map zqE=(L.take k).map zqE++ [zqE L[k]]by rw[List.take_succ_eq_append_getElem hlt,List.map_append];rfl);have HDK:=lhd (HD.out L[k] (List.getElem_mem hlt))
   have HNO:=lhd (fun(hin:zqE L[k]∈(L.take k).map zqE)=>(show R=false by
    rw[HR.out,←Bool.not_eq_true,zpJ];intro hall;rw[←List.take_append_drop (k+1) L,List.map_append,HTK.out,List.nodup_append]at hall;exact(ziQ.1 hall.1).2 hin))
   have HKY:=lhd (fun W=>zf6 L[k] W);generalize hxk:L[k]=x at*;clear hxk;generalize hseen:(L.take k).map zqE=seen at*;clear hseen;obtain⟨kx,hkx⟩:∃kx,zqE x=kx:=⟨_,rfl⟩;have HKV:=lhd (show ∀W,Calls Tryz.prog 217 #[vrV x] W fun e w'=>e=.returned (zeg kx)∧Below W.heap.size W w' by rw[←hkx];exact HKY.out);rw[hkx]at HTK HDK HNO;clear HKY hkx
   have HLK:=lhd (fun(W:World) (hW:Below wr.heap.size wr W)=>(show(Instr.lookup 271 (.map (some w.heap.size)) (zeg kx) false).run Tryz.prog W=.ok (.bool (inB seen kx)) W by
    have:=(HM.out.below hW HM.out.lt).look1 (t:=271) Tryz.underlying271 (zru W) kx HDK.out;rw[zmq]at this;exact this))
   have HIN:=lhd (show ∀b,inB seen kx=b→(b=true→kx∈seen)∧(b=false→kx∉seen)by
    rintro b rfl;exact⟨zge.1,fun h hm=>by rw[zge.2 hm]at h;cases h⟩)
   have HMB:=lhd (fun(W:World) (hW:Below wr.heap.size wr W)=>HM.out.below hW HM.out.lt);obtain⟨nm,ty,sc,sg,rg,mb,lb⟩:=x;have d0:wr.cell? ⟨b,o+k*7,none⟩=some (.string (bsB nm)):=hcell 0 _ rfl;have d1:wr.cell? ⟨b,o+k*7+1,none⟩=some (.int .i64 ty):=hcell 1 _ rfl;have d2:wr.cell? ⟨b,o+k*7+2,none⟩=some (.int .i64 sc):=hcell 2 _ rfl;have d3:wr.cell? ⟨b,o+k*7+3,none⟩=some (.int .i64 sg):=hcell 3 _ rfl;have d4:wr.cell? ⟨b,o+k*7+4,none⟩=some (.bool rg):=hcell 4 _ rfl;have d5:wr.cell? ⟨b,o+k*7+5,none⟩=some (.int .i64 mb):=hcell 5 _ rfl;have d6:wr.cell? ⟨b,o+k*7+6,none⟩=some (.int .i64 lb):=hcell 6 _ rfl;clear hcell;go_wp2_with fail;refine(HKV.out _).mono ?_;rintro e w1 ⟨rfl,hb1⟩;have HX1:=lhd ((zas.fresh wr #[.string (bsB nm),.int .i64 ty,.int .i64 sc,.int .i64 sg,.bool rg,.int .i64 mb,.int .i64 lb] 42).below hb1 (by simp));have hb2:=zeF hb1;have hlk:=HLK.out _ hb2;have HB2:=lhd hb2;obtain⟨q0,q1⟩:=HIN.out _ rfl;have QQ:=lhd (And.intro q0 q1);clear hb1 hb2 q0 q1;cases hin:inB seen kx
   ·rw[hin]at hlk QQ;clear hin;have z0:=HX1.out.cell (j:=0) rfl;have z1:=HX1.out.cell (j:=1) rfl;have z2:=HX1.out.cell (j:=2) rfl;have z3:=HX1.out.cell (j:=3) rfl;have z4:=HX1.out.cell (j:=4) rfl;have z5:=HX1.out.cell (j:=5) rfl;have z6:=HX1.out.cell (j:=6) rfl;have HNI:=lhd (QQ.out.2 rfl);go_wp2_with fail;refine(HKV.out _).mono ?_;rintro e w2 ⟨rfl,hb3⟩;have HB3:=lhd (zeG HB2.out hb3);have HM3:=lhd (HMB.out _ HB3.out);clear hb3 hlk;go_wp2_with (refine zrr _ rfl _ _ _ 271 rfl 4 Tryz.underlying271 w.heap.size k _ rfl HM3.out (by unfold maxLen;omega) kx (.bool true) rfl rfl HDK.out ?_;intro w3 hm3 hg3)
    have HM4:=lhd (hm3.ext (fun s=>zmr seen kx s));have HB4:=lhd ((HB.out.trans (HB3.out.mono HB.out.size)).grown hg3 (by have:=HB.out.size;have:=HB3.out.size;omega) (fun j ej=>by injection ej with ej;omega));clear hm3 hg3;go_wp2_with fail;go_roundw;case rel=>exact⟨k+1,hlt,by go_num,by rw[HTK.out];exact ziQ.2 ⟨HND.out,HNI.out⟩,by rw[HTK.out];exact HM4.out,HB4.out⟩
    case measure=>simp[intOf];omega
   ·rw[hin]at hlk QQ;clear hin;have HRF:=lhd (show R=false from HNO.out (QQ.out.1 rfl));go_wp2_with fail;go_ret;exact⟨zlE HRF.out.symm,HB.out.trans (HB2.out.mono HB.out.size)⟩
  ·obtain rfl:k=L.length:=by omega
   have HRT:=lhd (show R=true by
    rw[HR.out,zpJ];have:=HND.out;rwa [List.take_of_length_le (Nat.le_refl _)]at this)
   clear hlt;go_wp2_with fail;go_ret;exact⟨zlE HRT.out.symm,HB.out⟩
def fewH (S:List Sc) (V:List Vr):Bool:=S.all (fun s=>decide (s.1.length≤60))&&V.all (fun v=>decide (v.nm.length≤60))&&(decide (S.length≤40)&&decide (V.length≤140))
theorem zlJ (v v2:Value) (S:List Sc) (V:List Vr) (w:World) (hs:SlR w v S.length (scs S)) (hv:SlR w v2 V.length (vrs V)):
 Calls Tryz.prog 50 #[v,v2] w fun e w'=>e=.returned (.bool (fewH S V))∧w'=w:=by
 obtain⟨a,cap,rfl,hc,hm⟩:=hs.shape;obtain⟨a2,cap2,rfl,hc2,hm2⟩:=hv.shape;unfold maxLen at hm hm2;have HS:=lhd hs;have HV:=lhd hv;clear hs hv;go_enter Tryz.func50,Tryz.ntmps50;go_wp2_with fail;go_loopw [5] (fun i wr=>∃k:Nat,k≤S.length∧i=.int .i64 k∧(S.take k).all (fun s=>decide (s.1.length≤60))=true∧wr=w) (fun i _=>S.length-(intOf i).toNat)
 case atStart=>exact⟨0,Nat.zero_le _,rfl,rfl,rfl⟩
 case round=>
  obtain⟨k,hk,rfl,hal,rfl⟩:=hrel;have HA:=lhd hal;clear hal;by_cases hlt:k<S.length
  ·obtain⟨b,o,rfl,hcell⟩:=HS.out.scs hlt
   have HTK:=lhd (show(S.take (k+1)).all (fun s=>decide (s.1.length≤60))=((S.take k).all (fun s=>decide (s.1.length≤60))&&decide (S[k].1.length≤60))by
    rw[List.take_succ_eq_append_getElem hlt,List.all_append];simp)
   have HMM:=lhd (List.getElem_mem hlt);generalize S[k]=x at*;obtain⟨nm,ty,pa⟩:=x;have d0:wr.cell? ⟨b,o+k*3,none⟩=some (.string (bsB nm)):=hcell 0 _ rfl;have hsz:(bsB nm).size=nm.length:=rfl;clear hcell;dsimp only at HTK;by_cases hx:nm.length≤60
   ·have bx:¬(60:Int)<((bsB nm).size:Int):=by rw[hsz];omega
    have HA2:=lhd (show(S.take (k+1)).all (fun s=>decide (s.1.length≤60))=true by rw[HTK.out,HA.out,decide_eq_true hx];rfl);clear hx hsz;go_wp2_with fail;go_roundw;case rel=>exact⟨k+1,hlt,by go_num,HA2.out,by trivial⟩
    case measure=>simp[intOf];omega
   ·have bx:(60:Int)<((bsB nm).size:Int):=by rw[hsz];omega
    have HR:=lhd (show false=fewH S V by
     unfold fewH
     have:S.all (fun s=>decide (s.1.length≤60))=false:=by
      rw[List.all_eq_false];exact⟨_,HMM.out,by simpa using hx⟩
     rw[this];rfl)
    clear hx hsz;go_wp2_with fail;go_ret;exact⟨zlE HR.out,rfl⟩
  ·obtain rfl:k=S.length:=by omega
   have hal:=HA.out;rw[List.take_length]at hal;have HA1:=lhd hal;clear hal hlt;go_wp2_with fail;go_loopw [6] (fun i wq=>∃k:Nat,k≤V.length∧i=.int .i64 k∧(V.take k).all (fun v=>decide (v.nm.length≤60))=true∧wq=wr) (fun i _=>V.length-(intOf i).toNat)
   case atStart=>exact⟨0,Nat.zero_le _,rfl,rfl,rfl⟩
   case round=>
    obtain⟨k,hk,rfl,hal,rfl⟩:=hrel;have HA:=lhd hal;clear hal;by_cases hlt:k<V.length
    ·obtain⟨b,o,rfl,hcell⟩:=HV.out.vrs hlt
     have HTK:=lhd (show(V.take (k+1)).all (fun v=>decide (v.nm.length≤60))=((V.take k).all (fun v=>decide (v.nm.length≤60))&&decide (V[k].nm.length≤60))by
      rw[List.take_succ_eq_append_getElem hlt,List.all_append];simp)
     have HMM:=lhd (List.getElem_mem hlt);generalize V[k]=x at*;obtain⟨nm,ty,sc,sg,rg,mb,lb⟩:=x;have d0:wr.cell? ⟨b,o+k*7,none⟩=some (.string (bsB nm)):=hcell 0 _ rfl;have hsz:(bsB nm).size=nm.length:=rfl;clear hcell;dsimp only at HTK;by_cases hx:nm.length≤60
     ·have bx:¬(60:Int)<((bsB nm).size:Int):=by rw[hsz];omega
      have HA2:=lhd (show(V.take (k+1)).all (fun v=>decide (v.nm.length≤60))=true by rw[HTK.out,HA.out,decide_eq_true hx];rfl);clear hx hsz;go_wp2_with fail;go_roundw;case rel=>exact⟨k+1,hlt,by go_num,HA2.out,by trivial⟩
      case measure=>simp[intOf];omega
     ·have bx:(60:Int)<((bsB nm).size:Int):=by rw[hsz];omega
      have HR:=lhd (show false=fewH S V by
       unfold fewH
       have:V.all (fun v=>decide (v.nm.length≤60))=false:=by
        rw[List.all_eq_false];exact⟨_,HMM.out,by simpa using hx⟩
       rw[this,Bool.and_false];rfl)
      clear hx hsz;go_wp2_with fail;go_ret;exact⟨zlE HR.out,rfl⟩
    ·obtain rfl:k=V.length:=by omega
     have hal:=HA.out;rw[List.take_length]at hal;have HR:=lhd (show(decide (S.length≤40)&&decide (V.length≤140))=fewH S V by unfold fewH;rw[HA1.out,hal];rfl);clear hal hlt;by_cases h1:S.length≤40
     ·have b1:(S.length:Int)≤40:=by omega
      by_cases h2:V.length≤140
      ·have b2:(V.length:Int)≤140:=by omega
       have HR2:=lhd (show true=fewH S V by rw[←HR.out,decide_eq_true h1,decide_eq_true h2];rfl);clear h1 h2;go_wp2_with fail;go_ret;exact⟨zlE HR2.out,rfl⟩
      ·have b2:¬(V.length:Int)≤140:=by omega
       have HR2:=lhd (show false=fewH S V by rw[←HR.out,decide_eq_false h2,Bool.and_false]);clear h1 h2;go_wp2_with fail;go_ret;exact⟨zlE HR2.out,rfl⟩
     ·have b1:¬(S.length:Int)≤40:=by omega
      have HR2:=lhd (show false=fewH S V by rw[←HR.out,decide_eq_false h1];rfl);clear h1;go_wp2_with fail;go_ret;exact⟨zlE HR2.out,rfl⟩
end Go.Proofs.YtbiadennhnokhaaGreatDoor
