import Derived.Test.YtfppgpamkdkckaaGreatDoorZ00
import Derived.Test.YtfppgpamkdkckaaGreatDoorZ05
import Derived.Test.YtfppgpamkdkckaaGreatDoorZ09
import Derived.Test.YtfppgpamkdkckaaGreatDoorZ11
set_option maxRecDepth 100000
set_option maxHeartbeats 16000000
namespace Go.Proofs.YtfppgpamkdkckaaGreatDoor
open Go.RowKit
set_option linter.unusedSimpArgs false
def recC (r:Rc):List Value:=[.int .i64 r.1,.int .i64 r.2.1,.string (bsB r.2.2.1),.string (bsB r.2.2.2)]
def recs (l:List Rc):List Value:=l.flatMap recC
theorem zm4 (l m:List Rc):recs (l++m)=recs l++recs m:=by simp[recs]
theorem zm6 (x:Rc) (l:List Rc):recs (x::l)=recC x++recs l:=rfl
theorem zm9 (l:List Rc) (x:Rc):recs (l++ [x])=recs l++recC x:=by rw[zm4];simp[recs]
theorem zm5:∀(l:List Rc) (k:Nat) (h:k<l.length),(recs l)[4*k]? =some (.int .i64 l[k].1)∧(recs l)[4*k+1]? =some (.int .i64 l[k].2.1)∧(recs l)[4*k+2]? =some (.string (bsB l[k].2.2.1))∧(recs l)[4*k+3]? =some (.string (bsB l[k].2.2.2))
 |x::l,0,_=>⟨rfl,rfl,rfl,rfl⟩
 |x::l,k+1,h=>by
  have:=zm5 l k (by simpa using h);rw[zm6,show 4*(k+1)=4*k+1+1+1+1 by omega];simpa[recC] using this
theorem SlR.recs {w:World} {a:Option Addr} {cap:Nat} {l:List Rc} (h:SlR w (.slice a l.length cap) l.length (recs l)) {k:Nat} (hk:k<l.length):
 ∃b o,a=some ⟨b,o,none⟩∧w.cell? ⟨b,o+k*4,none⟩=some (.int .i64 l[k].1)∧w.cell? ⟨b,o+k*4+1,none⟩=some (.int .i64 l[k].2.1)∧w.cell? ⟨b,o+k*4+2,none⟩=some (.string (bsB l[k].2.2.1))∧w.cell? ⟨b,o+k*4+3,none⟩=some (.string (bsB l[k].2.2.2)):=by
 obtain⟨b,o,cap',hv,-,-,hcell⟩:=h.at (by omega);injection hv with e1 _ _;obtain⟨h0,h1,h2,h3⟩:=zm5 l k hk;refine⟨b,o,e1,?_,?_,?_,?_⟩
 ·have:=hcell _ _ h0;rwa [Nat.mul_comm 4 k]at this
 ·have:=hcell _ _ h1;rwa [Nat.mul_comm 4 k,←Nat.add_assoc]at this
 ·have:=hcell _ _ h2;rwa [Nat.mul_comm 4 k,←Nat.add_assoc]at this
 ·have:=hcell _ _ h3;rwa [Nat.mul_comm 4 k,←Nat.add_assoc]at this
theorem zm0:(Tryz.prog.info? 47).map (fun i=>(i.zero,i.size,i.bytes))=some (some (.agg #[.int .i64 0,.int .i64 0,.string ⟨#[]⟩,.string ⟨#[]⟩]),4,48):=by kernel_rfl
structure Dcl where
 nm:Bs
 ty:Int
 sc:Int
 sg:Int
 rg:Bool
 mb:Int
 lb:Int
 code:Bs
 kind:Int
 width:Int
def Dcl.dc (d:Dcl):Dc:=(d.code,d.kind,d.width)
def dclC (d:Dcl):List Value:=[.string (bsB d.nm),.int .i64 d.ty,.int .i64 d.sc,.int .i64 d.sg,.bool d.rg,.int .i64 d.mb,.int .i64 d.lb,.string (bsB d.code),.int .i64 d.kind,.int .i64 d.width]
abbrev dclV (d:Dcl):Value:=.agg #[.string (bsB d.nm),.int .i64 d.ty,.int .i64 d.sc,.int .i64 d.sg,.bool d.rg,.int .i64 d.mb,.int .i64 d.lb,.string (bsB d.code),.int .i64 d.kind,.int .i64 d.width]
abbrev dclZ:Value:=.agg #[.string ⟨#[]⟩,.int .i64 0,.int .i64 0,.int .i64 0,.bool false,.int .i64 0,.int .i64 0,.string ⟨#[]⟩,.int .i64 0,.int .i64 0]
def dcls (l:List Dcl):List Value:=l.flatMap dclC
theorem zdC (l m:List Dcl):dcls (l++m)=dcls l++dcls m:=by simp[dcls]
theorem zdE (x:Dcl) (l:List Dcl):dcls (x::l)=dclC x++dcls l:=rfl
theorem zdD:∀(l:List Dcl) (k:Nat) (h:k<l.length) (j:Nat),j<10→(dcls l)[10*k+j]? =(dclC l[k])[j]?
 |x::l,0,_,j,hj=>by
  rw[zdE,List.getElem?_append_left (by simp[dclC];omega)];simp
 |x::l,k+1,h,j,hj=>by
  have:=zdD l k (by simpa using h) j hj;rw[zdE,List.getElem?_append_right (by simp[dclC];omega)];rw[show 10*(k+1)+j-(dclC x).length=10*k+j by simp[dclC];omega];simpa using this
theorem SlR.dcls {w:World} {a:Option Addr} {cap:Nat} {l:List Dcl} (h:SlR w (.slice a l.length cap) l.length (dcls l)) {k:Nat} (hk:k<l.length):
 ∃b o,a=some ⟨b,o,none⟩∧∀(j:Nat) (u:Value),(dclC l[k])[j]? =some u→w.cell? ⟨b,o+k*10+j,none⟩=some u:=by
 obtain⟨b,o,cap',hv,-,-,hcell⟩:=h.at (by omega);injection hv with e1 _ _;refine⟨b,o,e1,fun j u hj=>?_⟩;have hj10:j<10:=by have:=(List.getElem?_eq_some_iff.1 hj).1;simpa[dclC] using this
 have:=hcell _ _ ((zdD l k hk j hj10).trans hj);rwa [Nat.mul_comm 10 k,←Nat.add_assoc]at this
def knF (L:List Dcl) (c:Bs):Option Dcl:=L.find? fun x=>cnt cv x.dc&&decide (x.code=c)
theorem zh4 (L:List Dcl) (c:Bs):knL cv (L.map Dcl.dc) c=(knF L c).map Dcl.dc:=by
 unfold knL knF;rw[List.find?_map];rfl
def sigF (L:List Dcl) (c:Bs):Option Value:=(knF L c).map fun d=>dclV d
theorem zlB {w:World} {B B' e e' size size' n n':Nat} {v v':Value} {xs xs':List Value} (h:w.ownsRow B e size v n xs) (h':w.ownsRow B' e' size' v' n' xs') (hne:e≠e'):v.ownBlock=none∨v.ownBlock≠v'.ownBlock:=by
 rcases h.2 with⟨rfl,_⟩|⟨g,cap,cur,rfl,_,hgg,_⟩
 ·exact .inl rfl
 ·rcases h'.2 with⟨rfl,_⟩|⟨g',cap',cur',rfl,_,hgg',_⟩
  ·exact .inr (by simp[Value.ownBlock])
  ·refine .inr fun he=>?_;simp only[Value.ownBlock,Option.some.injEq]at he;subst he;rw[hgg]at hgg';simp only[Option.some.injEq,Obj.cells.injEq]at hgg';exact hne hgg'.2.1
theorem zan.same {W V:World} {b:Nat} {xs:List Value} (h:zan W b xs) (hb:V.heap[b]? =W.heap[b]?):zan V b xs:=fun j v hj=>by
 have:=h j v hj;refine⟨?_,?_⟩
 ·rw[←this.1];simp[World.cell?,hb]
 ·rw[←this.2];simp[World.frozen?,hb]
structure PC where
 wk:World
 w0:World
 B:Nat
 mb:Nat
 kb:Nat
 n:Nat
 m:Nat
 F:BsM→Option Value
 G:BsM→Option Value
 wa:Option Addr
 wn:Nat
 wc:Nat
theorem zln {W W':World} {B e size n:Nat} {v:Value} {xs:List Value} (h:W.ownsRow B e size v n xs) (hb:RowKit.Below W.heap.size W W'):W'.ownsRow B e size v n xs:=
 h.kept (row:=none) ⟨hb.os,hb.tape,hb.output,hb.size,fun i hi _=>hb.block i hi⟩ (by cases v.ownBlock<;>simp)
def PC.from (c:PC) (V:World):PC:={c with wk:=V}
def dz:Dcl:=⟨[],0,0,0,false,0,0,[],0,0⟩
theorem zt5 (w:World):(zeroValue 68).run Tryz.prog w=.ok dclZ w:=by kernel_rfl
theorem zo2 (o:Option Dcl):(o.map fun d=>dclV d).getD dclZ=dclV (o.getD dz):=by cases o<;>rfl
theorem zo6 (o:Option Dcl):(o.map fun d=>dclV d).isSome=o.isSome:=by cases o<;>rfl
theorem zo1 (c:Ch) (t:Int) (w:World):
 Calls Tryz.prog 202 #[.agg #[.int .i64 c.1,.string c.2],.int .i64 t] w fun e w'=>e=.returned (.int .i64 (Lib.compareInt c.1 t))∧Below w.heap.size w w':=by
 go_enter Tryz.func202,Tryz.ntmps202;go_wp2_with fail;refine(Tryz.cmp_Compare_int _ _ _).mono ?_;rintro e w1 ⟨rfl,hw⟩;have hw':=hw.symm;subst hw';go_wp2_with fail;go_ret;exact⟨rfl,(Below.refl _ _).alloc (Nat.le_refl _) _⟩
def Sorted (l:List Ch):Prop:=∀i j (hi:i<l.length) (hj:j<l.length),i<j→l[i].1<l[j].1
def lo (l:List Ch) (t:Int):Nat:=(l.takeWhile (fun c=>decide (c.1<t))).length
theorem ziD (l:List Ch) (t:Int):lo l t≤l.length:=List.Sublist.length_le (List.takeWhile_sublist _)
theorem ziE (l:List Ch) (t:Int) (hs:Sorted l) (h:Nat) (hh:h<l.length):l[h].1<t↔h<lo l t:=by
 constructor
 ·intro h1;rcases Nat.lt_or_ge h (lo l t)with h2|h2
  ·exact h2
  ·exfalso
   have hlt:lo l t<l.length:=by omega
   have:=zqk (fun c:Ch=>decide (c.1<t)) l l[lo l t] (List.getElem?_eq_getElem hlt);simp at this;rcases Nat.lt_or_ge (lo l t) h with h3|h3
   ·have:=hs _ _ hlt hh h3;omega
   ·obtain rfl:h=lo l t:=by omega
    omega
 ·intro h1;obtain⟨x,hx,hp⟩:=zqj (fun c:Ch=>decide (c.1<t)) l h h1;rw[List.getElem?_eq_getElem hh]at hx;rw[Option.some.inj hx];simpa using hp
theorem zbd (v:Value) (l:List Ch) (t:Int) (w:World) (hs:SlR w v l.length (chs l)) (hl:l.length≤1000000) (hst:Sorted l):
 Calls Tryz.prog 201 #[v,.int .i64 t,.func (.func 202) #[] #[]] w fun e w'=>(∃b,e=.returned (.tuple #[.int .i64 (lo l t),.bool b]))∧Below w.heap.size w w':=by
 obtain⟨a,cap,rfl,hc,hm⟩:=hs.shape;unfold maxLen at hm;have HS:=lhd hs;have HT:=lhd hst;clear hs hst;go_enter Tryz.func201,Tryz.ntmps201;go_wp2_with fail
 go_loopw [9,10,11] (fun i_ j_ _ wr=>∃(i j:Nat),i_=.int .i64 i∧j_=.int .i64 j∧i≤lo l t∧lo l t≤j∧j≤l.length∧Below w.heap.size w wr)
  (fun i_ j_ _ _=>(intOf j_).toNat-(intOf i_).toNat)
 case atStart=>exact⟨0,l.length,rfl,rfl,Nat.zero_le _,ziD _ _,Nat.le_refl _,Below.refl _ _⟩
 case round=>
  obtain⟨i,j,rfl,rfl,h1,h2,h3,hb⟩:=hrel;by_cases hlt:i<j
  ·have hh:(i+j)/2<l.length:=by omega
   obtain⟨b,o,rfl,d0,d1⟩:=(HS.out.below hb).ch hh;have HLO:=lhd (ziE l t HT.out _ hh);generalize l[(i+j)/2]=c at d0 d1 HLO;go_wp2_with fail;refine(zo1 c t _).mono ?_;rintro e w3 ⟨rfl,hb3⟩;by_cases hct:c.1<t
   ·have hcmp:Lib.compareInt c.1 t= -1:=by unfold Lib.compareInt;rw[if_pos hct]
    have hil:=(HLO.out).1 hct;rw[hcmp];clear hcmp;go_wp2_with fail;go_roundw;case rel=>exact⟨(i+j)/2+1,j,by go_num,rfl,by omega,h2,h3,zfj hb hb3⟩
    case measure=>simp[intOf];omega
   ·have hcmp:0≤Lib.compareInt c.1 t:=by unfold Lib.compareInt;rw[if_neg hct];split<;>decide
    have hil:lo l t≤(i+j)/2:=by
     rcases Nat.lt_or_ge ((i+j)/2) (lo l t)with h|h
     ·exact absurd (HLO.out.2 h) hct
     ·exact h
    go_wp2_with fail;go_roundw;case rel=>exact⟨i,(i+j)/2,rfl,by go_num,h1,hil,by omega,zfj hb hb3⟩
    case measure=>simp[intOf];omega
  ·obtain rfl:i=lo l t:=by omega
   by_cases hlo:lo l t<l.length
   ·obtain⟨b,o,rfl,d0,d1⟩:=(HS.out.below hb).ch hlo;generalize l[lo l t]=c at d0 d1;go_wp2_with fail;refine(zo1 c t _).mono ?_;rintro e w3 ⟨rfl,hb3⟩;go_wp2_with fail;go_ret2
    exact⟨⟨_,rfl⟩,zfj hb hb3⟩
   ·go_wp2_with fail;go_ret2
    exact⟨⟨_,rfl⟩,hb⟩
theorem zo0 (k n:Int) (v:Value) (l:List Ch) (t:Int) (w:World) (hs:SlR w v l.length (chs l)) (hl:l.length≤1000000) (hst:Sorted l):
 Calls Tryz.prog 151 #[.agg #[.int .i64 k,.int .i64 n,v],.int .i64 t] w fun e w'=>e=.returned (.int .i64 (lo l t))∧Below w.heap.size w w':=by
 obtain⟨a,cap,rfl,hc,hm⟩:=hs.shape;have HB:=lhd (zbd _ l t _ (hs.below ((Below.refl _ w).alloc (Nat.le_refl _) (.cells #[.int .i64 k,.int .i64 n,.slice a l.length cap] 60))) hl hst);clear hs hst;go_enter Tryz.func151,Tryz.ntmps151;go_wp2_with fail;refine HB.out.mono ?_;rintro e w1 ⟨⟨b,rfl⟩,hb⟩;go_wp2_with fail;go_ret;exact⟨rfl,zfg hb⟩
def zrR (k n:Int) (l:List Ch) (t:Int):ByteArray:=if k=3 then vi k n else match lo l (t+1)with|0=>vi k n|j+1=>(l.getD j (0,⟨#[]⟩)).2
theorem zoZ (k n:Int) (v:Value) (l:List Ch) (t:Int) (w:World) (hs:SlR w v l.length (chs l)) (hl:l.length≤1000000) (hst:Sorted l) (ht0: -1000000000000000≤t) (ht1:t≤1000000000000000):
 Calls Tryz.prog 199 #[.agg #[.int .i64 k,.int .i64 n,v],.int .i64 t] w fun e w'=>e=.returned (.string (zrR k n l t))∧Below w.heap.size w w':=by
 obtain⟨a,cap,rfl,hc,hm⟩:=hs.shape;unfold maxLen at hm;have hbw:Below w.heap.size w (w.alloc (.cells #[.int .i64 k,.int .i64 n,.slice a l.length cap] 60)):=(Below.refl _ w).alloc (Nat.le_refl _) _;have HF:=lhd (zo0 k n _ l (t+1) _ (hs.below hbw) hl hst);have HS:=lhd hs;have hlo:=ziD l (t+1);clear hs hst hbw;by_cases hk:k=3
 ·have HV:=lhd (show zrR k n l t=vi k n by unfold zrR;rw[if_pos hk]);subst hk;go_enter Tryz.func199,Tryz.ntmps199;go_wp2_with fail;refine HF.out.mono ?_;rintro e w1 ⟨rfl,hb⟩;obtain⟨c0,c1,c2⟩:=box3 hb;go_wp2_with fail;refine(zr1 _ _ _).mono ?_;rintro e w2 ⟨rfl,hb2⟩;go_wp2_with fail;go_ret;exact⟨znf HV.out.symm,zfj (zfg hb) hb2⟩
 have hk3:(k==3)=false:=by rw[beq_eq_false_iff_ne];exact hk
 cases hq:lo l (t+1)with
 |zero=>
  have HV:=lhd (show zrR k n l t=vi k n by unfold zrR;rw[if_neg hk,hq]);have HQ:=lhd hq;clear hk hq;go_enter Tryz.func199,Tryz.ntmps199;go_wp2_with fail;refine HF.out.mono ?_;rintro e w1 ⟨rfl,hb⟩;rw[HQ.out];obtain⟨c0,c1,c2⟩:=box3 hb;go_wp2_with fail;refine(zr1 _ _ _).mono ?_;rintro e w2 ⟨rfl,hb2⟩;go_wp2_with fail;go_ret;exact⟨znf HV.out.symm,zfj (zfg hb) hb2⟩
 |succ j=>
  have hj:j<l.length:=by omega
  have HV:=lhd (show zrR k n l t=l[j].2 by
   unfold zrR;rw[if_neg hk,hq];simp only[List.getD_eq_getElem?_getD,List.getElem?_eq_getElem hj,Option.getD_some])
  have HQ:=lhd hq;clear hk hq;have hne:(((j+1:Nat):Int)==0)=false:=by rw[beq_eq_false_iff_ne];omega
  go_enter Tryz.func199,Tryz.ntmps199;go_wp2_with fail;refine HF.out.mono ?_;rintro e w1 ⟨rfl,hb⟩;rw[HQ.out];obtain⟨c0,c1,c2⟩:=box3 hb;obtain⟨b,o,rfl,d0,d1⟩:=(HS.out.below (zfg hb)).ch hj;generalize l[j]=c at d0 d1 HV;go_wp2_with fail;go_ret;exact⟨znf HV.out.symm,zfg hb⟩
theorem zp5 (k n:Int):∀(l:List Ch) (a:Int) (v:ByteArray),svGo k n a v l=true→(∀j (hj:j<l.length),a<l[j].1∧l[j].1≤1099511627776∧vv k n l[j].2=true)∧Sorted l
 | [],a,v,_=>⟨fun j hj=>by simp at hj,fun i j hi=>by simp at hi⟩
 |c::l,a,v,h=>by
  unfold svGo at h;split at h
  ·cases h
  ·rename_i h1
   split at h
   ·cases h
   ·rename_i h2
    split at h
    ·cases h
    ·obtain⟨h3,h4⟩:=zp5 k n l c.1 c.2 h;refine⟨fun j hj=>?_,fun i j hi hj hij=>?_⟩
     ·cases j with
      |zero=>exact⟨by simp;omega,by simp;omega,by simpa using h2⟩
      |succ j=>
       have:=h3 j (by simpa using hj);simp only[List.getElem_cons_succ];exact⟨by omega,this.2⟩
     ·cases j with
      |zero=>omega
      |succ j=>
       cases i with
       |zero=>simpa using (h3 j (by simpa using hj)).1
       |succ i=>simpa using h4 i j (by simpa using hi) (by simpa using hj) (by omega)
theorem zp9 {k n:Int} {l:List Ch} (h:sv k n l=true):Sorted l∧l.length≤4096∧vt k n=true∧∀j (hj:j<l.length),0≤l[j].1∧l[j].1≤1099511627776∧vv k n l[j].2=true:=by
 unfold sv at h;rw[Bool.and_eq_true,Bool.and_eq_true,decide_eq_true_iff]at h;obtain⟨⟨h1,h2⟩,h3⟩:=h;obtain⟨h4,h5⟩:=zp5 k n l _ _ h3;exact⟨h5,h2,h1,fun j hj=>by have:=h4 j hj;exact⟨by omega,this.2⟩⟩
def atR (k n:Int) (l:List Ch) (t:Int):ByteArray×Int:=if sv k n l=false then(⟨#[]⟩,1)else if t<0∨1099511627776<t then(⟨#[]⟩,2)else(zrR k n l t,0)
theorem zoU (k n:Int) (v:Value) (l:List Ch) (t:Int) (w:World) (hg:Glob w) (hs:SlR w v l.length (chs l)) (hf:Fit l):
 Calls Tryz.prog 148 #[.agg #[.int .i64 k,.int .i64 n,v],.int .i64 t] w fun e w'=>e=.returned (.tuple #[.string (atR k n l t).1,.int .i64 (atR k n l t).2])∧Below w.heap.size w w':=by
 obtain⟨a,cap,rfl,hc,hm⟩:=hs.shape;have hbw:Below w.heap.size w (w.alloc (.cells #[.int .i64 k,.int .i64 n,.slice a l.length cap] 60)):=(Below.refl _ _).alloc (Nat.le_refl _) _;have HV:=lhd (zoX k n _ l _ (hg.below hbw) (hs.below hbw) hf);have HS:=lhd hs;have hln:=hf.1;unfold maxLen at hm;clear hg hs hf hbw;cases hv:sv k n l
 ·have HR:=lhd (show atR k n l t=(⟨#[]⟩,1)by unfold atR;rw[if_pos hv]);go_enter Tryz.func148,Tryz.ntmps148;go_wp2_with fail;refine HV.out.mono ?_;rintro e w1 ⟨rfl,hb⟩;rw[hv];clear hv;go_wp2_with fail;go_ret2
  exact⟨zng HR.out.symm,zfg hb⟩
 obtain⟨hst,-,-,-⟩:=zp9 hv;by_cases ht:t<0∨1099511627776<t
 ·have HR:=lhd (show atR k n l t=(⟨#[]⟩,2)by unfold atR;rw[if_neg (by rw[hv];simp),if_pos ht]);clear hst;go_enter Tryz.func148,Tryz.ntmps148;go_wp2_with fail;refine HV.out.mono ?_;rintro e w1 ⟨rfl,hb⟩;rw[hv];clear hv;rcases ht with ht|ht
  all_goals
   go_wp2_with fail
  all_goals
   go_ret2
   exact⟨zng HR.out.symm,zfg hb⟩
 ·have HR:=lhd (show atR k n l t=(zrR k n l t,0)by unfold atR;rw[if_neg (by rw[hv];simp),if_neg ht]);obtain⟨ht0,ht1⟩:0≤t∧t≤1099511627776:=by omega
  have HST:=lhd hst;clear hst ht;go_enter Tryz.func148,Tryz.ntmps148;go_wp2_with fail;refine HV.out.mono ?_;rintro e w1 ⟨rfl,hb⟩;obtain⟨c0,c1,c2⟩:=box3 hb;rw[hv];have HS1:=lhd (HS.out.below (zfg hb));clear hv;go_wp2_with fail;refine(zoZ k n _ l t _ HS1.out hln HST.out (by omega) (by omega)).mono ?_;rintro e w2 ⟨rfl,hb2⟩;go_wp2_with fail;go_ret2
  exact⟨zng HR.out.symm,zfj (zfg hb) hb2⟩
def winR (k n:Int) (l:List Ch) (from_ to_:Int):List Ch:=if sv k n l=false then []else if to_<from_ then []else(l.take (lo l (min to_ 1099511627776+1))).drop (lo l from_)
def zaC (r:List Ch) (w:World) (e:Ending) (w':World):Prop:=∃v',e=.returned v'∧SlR w' v' r.length (chs r)∧Below w.heap.size w w'
theorem zaC.nil {w W:World} (h:Below w.heap.size w W):zaC [] w (.returned (.slice none 0 0)) W:=⟨_,rfl,SlR.nil _,h⟩
theorem SlR.part {w:World} {b o cap:Nat} {l:List Ch} (h:SlR w (.slice (some ⟨b,o,none⟩) l.length cap) l.length (chs l)) (i j:Nat) (hij:i<j) (hj:j≤l.length):
 SlR w (.slice (some ⟨b,o+i*2,none⟩) (j-i) (cap-i)) ((l.take j).drop i).length (chs ((l.take j).drop i)):=by
 obtain⟨b',o',cap',hv,h1,h2,hc⟩:=h.at (by omega);injection hv with e1 _ e3;injection e1 with e1;injection e1 with e1 e2 _;subst e1 e2 e3;have hl:((l.take j).drop i).length=j-i:=by simp;omega
 rw[hl];refine⟨_,_,rfl,by omega,by omega,fun h=>by simp at h,fun _=>⟨b,o+i*2,rfl,fun x u hx=>?_⟩⟩
 have hs:chs l=chs (l.take i)++(chs ((l.take j).drop i)++chs (l.drop j)):=by
  rw[←zcf,←zcf];congr 1
  have h3:l.take i=(l.take j).take i:=by rw[List.take_take,Nat.min_eq_left (by omega)]
  rw[h3,←List.append_assoc,List.take_append_drop,List.take_append_drop]
 have hx':=(List.getElem?_eq_some_iff.1 hx).1;have h4:(chs (l.take i)).length=i*2:=by rw[zcj];simp;omega
 have:=hc (i*2+x) u (by
  rw[hs,List.getElem?_append_right (by omega),h4,Nat.add_sub_cancel_left,List.getElem?_append_left hx'];exact hx)
 rwa [←Nat.add_assoc]at this
theorem zoY (k n:Int) (v:Value) (l:List Ch) (from_ to_:Int) (w:World) (hg:Glob w) (hs:SlR w v l.length (chs l)) (hf:Fit l) (hto: -9223372036854775808≤to_) (hto':to_≤9223372036854775807):
 Calls Tryz.prog 88 #[.agg #[.int .i64 k,.int .i64 n,v],.int .i64 from_,.int .i64 to_] w (zaC (winR k n l from_ to_) w):=by
 obtain⟨a,cap,rfl,hc,hm⟩:=hs.shape;have hbw:Below w.heap.size w (w.alloc (.cells #[.int .i64 k,.int .i64 n,.slice a l.length cap] 60)):=(Below.refl _ _).alloc (Nat.le_refl _) _;have HV:=lhd (zoX k n _ l _ (hg.below hbw) (hs.below hbw) hf);have HS:=lhd hs;have hln:=hf.1;unfold maxLen at hm;clear hg hs hf hbw;cases hv:sv k n l
 ·have HR:=lhd (show winR k n l from_ to_=[]by unfold winR;rw[if_pos hv]);go_enter Tryz.func88,Tryz.ntmps88;go_wp2_with fail;refine HV.out.mono ?_;rintro e w1 ⟨rfl,hb⟩;rw[hv];clear hv;go_wp2_with fail;go_ret;rw[HR.out];exact zaC.nil (zfg hb)
 obtain⟨hst,-,-,-⟩:=zp9 hv;by_cases hft:to_<from_
 ·have HR:=lhd (show winR k n l from_ to_=[]by unfold winR;rw[if_neg (by rw[hv];simp),if_pos hft]);clear hst;go_enter Tryz.func88,Tryz.ntmps88;go_wp2_with fail;refine HV.out.mono ?_;rintro e w1 ⟨rfl,hb⟩;rw[hv];clear hv;go_wp2_with fail;go_ret;rw[HR.out];exact zaC.nil (zfg hb)
 have HR:=lhd (show winR k n l from_ to_=(l.take (lo l (min to_ 1099511627776+1))).drop (lo l from_)by unfold winR;rw[if_neg (by rw[hv];simp),if_neg hft]);have hle:from_≤to_:=by omega
 have HST:=lhd hst;have hwrap:IntKind.i64.wrap (min to_ 1099511627776+1)=min to_ 1099511627776+1:=IntWalk.i64_in _ (by omega);have hlo1:=ziD l from_;have hlo2:=ziD l (min to_ 1099511627776+1);clear hst hft;go_enter Tryz.func88,Tryz.ntmps88;go_wp2_with fail;refine HV.out.mono ?_;rintro e w1 ⟨rfl,hb⟩;obtain⟨c0,c1,c2⟩:=box3 hb;rw[hv];have HS1:=lhd (HS.out.below (zfg hb));have HB0:=lhd (zfg hb);clear hv hb;go_upto_region 3 with fail
 go_region_held3 (fun w'=>w'.cell? ⟨w.heap.size,0,none⟩=some (.int .i64 k)∧w'.cell? ⟨w.heap.size,1,none⟩=some (.int .i64 n)∧w'.cell? ⟨w.heap.size,2,none⟩=some (.slice a l.length cap)) (first|exact⟨r0,r1,r2⟩|exact⟨s0,s1,s2⟩|go_keep)
  (first
    |(go_at_call 151;(with_reducible refine(zo0 k n _ l _ w1.drew ?_ hln HST.out).mono ?_);(exact HS1.out);rintro e w2 ⟨rfl,hb2⟩;have s0:=(hb2.cell (p:=⟨w.heap.size,0,none⟩) (zbU c0)).trans c0;have s1:=(hb2.cell (p:=⟨w.heap.size,1,none⟩) (zbU c0)).trans c1;have s2:=(hb2.cell (p:=⟨w.heap.size,2,none⟩) (zbU c0)).trans c2;have HB2:=lhd hb2;clear hb2)
    |(go_at_call 151;(with_reducible refine(zo0 k n _ l _ _ ?_ hln HST.out).mono ?_);(exact SlR.below (w:=w1.drew) HS1.out HB2.out);rintro e w3 ⟨rfl,hb3⟩;have hb23:=zfj HB2.out hb3;have r0:=(hb23.cell (p:=⟨w.heap.size,0,none⟩) (zbU c0)).trans c0;have r1:=(hb23.cell (p:=⟨w.heap.size,1,none⟩) (zbU c0)).trans c1;have r2:=(hb23.cell (p:=⟨w.heap.size,2,none⟩) (zbU c0)).trans c2;have HB3:=lhd hb23;clear hb23 hb3))
 all_goals
  by_cases hab:lo l from_<lo l (min to_ 1099511627776+1)
  ·obtain⟨b,o,cap',hv',-,-,-⟩:=HS.out.at (by omega);injection hv' with e1 e2 e3;subst e1;clear e2 e3;have hne:cap≠lo l from_:=by omega
   have HP:=lhd ((HS.out.below (zfj HB0.out.drew HB3.out)).part _ _ hab hlo2);have hpl:((l.take (lo l (min to_ 1099511627776+1))).drop (lo l from_)).length=lo l (min to_ 1099511627776+1)-lo l from_:=by simp;omega
   have hpl2:((l.take (lo l (min to_ 1099511627776+1))).drop (lo l from_)).length≤1000000:=by omega
   have HPL:=lhd hpl;clear hpl;go_wp2_with fail;generalize (l.take (lo l (min to_ 1099511627776+1))).drop (lo l from_)=r at*;rw[←HPL.out]at HP⊢;refine(zco _ r _ HP.out hpl2).mono ?_;rintro e w4 ⟨v4,rfl,ho,hb4⟩;go_wp2_with fail;go_ret;exact⟨_,rfl,by rw[HR.out];exact SlR.of_own ho,zfj (zfj HB0.out.drew HB3.out) hb4⟩
  ·have HE:=lhd (show(l.take (lo l (min to_ 1099511627776+1))).drop (lo l from_)=[]by rw[List.drop_eq_nil_iff,List.length_take];omega);have hab':lo l (min to_ 1099511627776+1)≤lo l from_:=by omega
   clear hab;go_wp2_with fail;go_ret;rw[HR.out,HE.out];exact zaC.nil (zfj HB0.out.drew HB3.out)
end Go.Proofs.YtfppgpamkdkckaaGreatDoor
