import Derived.Test.YtbiadennhnokhaaGreatDoorZ00
import Derived.Test.YtbiadennhnokhaaGreatDoorZ06
import Derived.Test.YtbiadennhnokhaaGreatDoorZ15
set_option maxRecDepth 100000
set_option maxHeartbeats 16000000
namespace Go.Proofs.YtbiadennhnokhaaGreatDoor
open Go.RowKit
theorem znf (c:Ch) (t:Int) (w:World):
 Calls Tryz.prog 150 #[.agg #[.int .i64 c.1,.string c.2],.int .i64 t] w fun e w'=>e=.returned (.int .i64 (Lib.compareInt c.1 t))∧Below w.heap.size w w':=by
 go_enter Tryz.func150,Tryz.ntmps150;go_wp2_with fail;refine(Tryz.cmp_Compare_int _ _ _).mono ?_;rintro e w1 ⟨rfl,hw⟩;have hw':=hw.symm;subst hw';go_wp2_with fail;go_ret;exact⟨rfl,(Below.refl _ _).alloc (Nat.le_refl _) _⟩
def Sorted (l:List Ch):Prop:=∀i j (hi:i<l.length) (hj:j<l.length),i<j→l[i].1<l[j].1
def lo (l:List Ch) (t:Int):Nat:=(l.takeWhile (fun c=>decide (c.1<t))).length
theorem zhf (l:List Ch) (t:Int):lo l t≤l.length:=List.Sublist.length_le (List.takeWhile_sublist _)
theorem zhg (l:List Ch) (t:Int) (hs:Sorted l) (h:Nat) (hh:h<l.length):l[h].1<t↔h<lo l t:=by
 constructor
 ·intro h1;rcases Nat.lt_or_ge h (lo l t)with h2|h2
  ·exact h2
  ·exfalso
   have hlt:lo l t<l.length:=by omega
   have:=zov (fun c:Ch=>decide (c.1<t)) l l[lo l t] (List.getElem?_eq_getElem hlt);simp at this;rcases Nat.lt_or_ge (lo l t) h with h3|h3
   ·have:=hs _ _ hlt hh h3;omega
   ·obtain rfl:h=lo l t:=by omega
    omega
 ·intro h1;obtain⟨x,hx,hp⟩:=zou (fun c:Ch=>decide (c.1<t)) l h h1;rw[List.getElem?_eq_getElem hh]at hx;rw[Option.some.inj hx];simpa using hp
theorem zbf (v:Value) (l:List Ch) (t:Int) (w:World) (hs:SlR w v l.length (chs l)) (hl:l.length≤1000000) (hst:Sorted l):
 Calls Tryz.prog 149 #[v,.int .i64 t,.func (.func 150) #[] #[]] w fun e w'=>(∃b,e=.returned (.tuple #[.int .i64 (lo l t),.bool b]))∧Below w.heap.size w w':=by
 obtain⟨a,cap,rfl,hc,hm⟩:=hs.shape;unfold maxLen at hm;have HS:=lhd hs;have HT:=lhd hst;clear hs hst;go_enter Tryz.func149,Tryz.ntmps149;go_wp2_with fail
 go_loopw [9,10,11] (fun i_ j_ _ wr=>∃(i j:Nat),i_=.int .i64 i∧j_=.int .i64 j∧i≤lo l t∧lo l t≤j∧j≤l.length∧Below w.heap.size w wr)
  (fun i_ j_ _ _=>(intOf j_).toNat-(intOf i_).toNat)
 case atStart=>exact⟨0,l.length,rfl,rfl,Nat.zero_le _,zhf _ _,Nat.le_refl _,Below.refl _ _⟩
 case round=>
  obtain⟨i,j,rfl,rfl,h1,h2,h3,hb⟩:=hrel;by_cases hlt:i<j
  ·have hh:(i+j)/2<l.length:=by omega
   obtain⟨b,o,rfl,d0,d1⟩:=(HS.out.below hb).ch hh;have HLO:=lhd (zhg l t HT.out _ hh);generalize l[(i+j)/2]=c at d0 d1 HLO;go_wp2_with fail;refine(znf c t _).mono ?_;rintro e w3 ⟨rfl,hb3⟩;by_cases hct:c.1<t
   ·have hcmp:Lib.compareInt c.1 t= -1:=by unfold Lib.compareInt;rw[if_pos hct]
    have hil:=(HLO.out).1 hct;rw[hcmp];clear hcmp;go_wp2_with fail;go_roundw;case rel=>exact⟨(i+j)/2+1,j,by go_num,rfl,by omega,h2,h3,zem hb hb3⟩
    case measure=>simp[intOf];omega
   ·have hcmp:0≤Lib.compareInt c.1 t:=by unfold Lib.compareInt;rw[if_neg hct];split<;>decide
    have hil:lo l t≤(i+j)/2:=by
     rcases Nat.lt_or_ge ((i+j)/2) (lo l t)with h|h
     ·exact absurd (HLO.out.2 h) hct
     ·exact h
    go_wp2_with fail;go_roundw;case rel=>exact⟨i,(i+j)/2,rfl,by go_num,h1,hil,by omega,zem hb hb3⟩
    case measure=>simp[intOf];omega
  ·obtain rfl:i=lo l t:=by omega
   by_cases hlo:lo l t<l.length
   ·obtain⟨b,o,rfl,d0,d1⟩:=(HS.out.below hb).ch hlo;generalize l[lo l t]=c at d0 d1;go_wp2_with fail;refine(znf c t _).mono ?_;rintro e w3 ⟨rfl,hb3⟩;go_wp2_with fail;go_ret2
    exact⟨⟨_,rfl⟩,zem hb hb3⟩
   ·go_wp2_with fail;go_ret2
    exact⟨⟨_,rfl⟩,hb⟩
theorem zne (k n:Int) (v:Value) (l:List Ch) (t:Int) (w:World) (hs:SlR w v l.length (chs l)) (hl:l.length≤1000000) (hst:Sorted l):
 Calls Tryz.prog 98 #[.agg #[.int .i64 k,.int .i64 n,v],.int .i64 t] w fun e w'=>e=.returned (.int .i64 (lo l t))∧Below w.heap.size w w':=by
 obtain⟨a,cap,rfl,hc,hm⟩:=hs.shape;have HB:=lhd (zbf _ l t _ (hs.below ((Below.refl _ w).alloc (Nat.le_refl _) (.cells #[.int .i64 k,.int .i64 n,.slice a l.length cap] 45))) hl hst);clear hs hst;go_enter Tryz.func98,Tryz.ntmps98;go_wp2_with fail;refine HB.out.mono ?_;rintro e w1 ⟨⟨b,rfl⟩,hb⟩;go_wp2_with fail;go_ret;exact⟨rfl,zel hb⟩
def zpx (k n:Int) (l:List Ch) (t:Int):ByteArray:=if k=3 then vi k n else match lo l (t+1)with|0=>vi k n|j+1=>(l.getD j (0,⟨#[]⟩)).2
theorem znd (k n:Int) (v:Value) (l:List Ch) (t:Int) (w:World) (hs:SlR w v l.length (chs l)) (hl:l.length≤1000000) (hst:Sorted l) (ht0: -1000000000000000≤t) (ht1:t≤1000000000000000):
 Calls Tryz.prog 85 #[.agg #[.int .i64 k,.int .i64 n,v],.int .i64 t] w fun e w'=>e=.returned (.string (zpx k n l t))∧Below w.heap.size w w':=by
 obtain⟨a,cap,rfl,hc,hm⟩:=hs.shape;unfold maxLen at hm;have hbw:Below w.heap.size w (w.alloc (.cells #[.int .i64 k,.int .i64 n,.slice a l.length cap] 45)):=(Below.refl _ w).alloc (Nat.le_refl _) _;have HF:=lhd (zne k n _ l (t+1) _ (hs.below hbw) hl hst);have HS:=lhd hs;have hlo:=zhf l (t+1);clear hs hst hbw;by_cases hk:k=3
 ·have HV:=lhd (show zpx k n l t=vi k n by unfold zpx;rw[if_pos hk]);subst hk;go_enter Tryz.func85,Tryz.ntmps85;go_wp2_with fail;refine HF.out.mono ?_;rintro e w1 ⟨rfl,hb⟩;obtain⟨c0,c1,c2⟩:=box3 hb;go_wp2_with fail;refine(zpA _ _ _).mono ?_;rintro e w2 ⟨rfl,hb2⟩;go_wp2_with fail;go_ret;exact⟨zll HV.out.symm,zem (zel hb) hb2⟩
 have hk3:(k==3)=false:=by rw[beq_eq_false_iff_ne];exact hk
 cases hq:lo l (t+1)with
 |zero=>
  have HV:=lhd (show zpx k n l t=vi k n by unfold zpx;rw[if_neg hk,hq]);have HQ:=lhd hq;clear hk hq;go_enter Tryz.func85,Tryz.ntmps85;go_wp2_with fail;refine HF.out.mono ?_;rintro e w1 ⟨rfl,hb⟩;rw[HQ.out];obtain⟨c0,c1,c2⟩:=box3 hb;go_wp2_with fail;refine(zpA _ _ _).mono ?_;rintro e w2 ⟨rfl,hb2⟩;go_wp2_with fail;go_ret;exact⟨zll HV.out.symm,zem (zel hb) hb2⟩
 |succ j=>
  have hj:j<l.length:=by omega
  have HV:=lhd (show zpx k n l t=l[j].2 by
   unfold zpx;rw[if_neg hk,hq];simp only[List.getD_eq_getElem?_getD,List.getElem?_eq_getElem hj,Option.getD_some])
  have HQ:=lhd hq;clear hk hq;have hne:(((j+1:Nat):Int)==0)=false:=by rw[beq_eq_false_iff_ne];omega
  go_enter Tryz.func85,Tryz.ntmps85;go_wp2_with fail;refine HF.out.mono ?_;rintro e w1 ⟨rfl,hb⟩;rw[HQ.out];obtain⟨c0,c1,c2⟩:=box3 hb;obtain⟨b,o,rfl,d0,d1⟩:=(HS.out.below (zel hb)).ch hj;generalize l[j]=c at d0 d1 HV;go_wp2_with fail;go_ret;exact⟨zll HV.out.symm,zel hb⟩
theorem zod (k n:Int):∀(l:List Ch) (a:Int) (v:ByteArray),svGo k n a v l=true→(∀j (hj:j<l.length),a<l[j].1∧l[j].1≤1099511627776∧vv k n l[j].2=true)∧Sorted l
 | [],a,v,_=>⟨fun j hj=>by simp at hj,fun i j hi=>by simp at hi⟩
 |c::l,a,v,h=>by
  unfold svGo at h;split at h
  ·cases h
  ·rename_i h1
   split at h
   ·cases h
   ·rename_i h2
    split at h
    ·cases h
    ·obtain⟨h3,h4⟩:=zod k n l c.1 c.2 h;refine⟨fun j hj=>?_,fun i j hi hj hij=>?_⟩
     ·cases j with
      |zero=>exact⟨by simp;omega,by simp;omega,by simpa using h2⟩
      |succ j=>
       have:=h3 j (by simpa using hj);simp only[List.getElem_cons_succ];exact⟨by omega,this.2⟩
     ·cases j with
      |zero=>omega
      |succ j=>
       cases i with
       |zero=>simpa using (h3 j (by simpa using hj)).1
       |succ i=>simpa using h4 i j (by simpa using hi) (by simpa using hj) (by omega)
theorem zol {k n:Int} {l:List Ch} (h:sv k n l=true):Sorted l∧l.length≤4096∧vt k n=true∧∀j (hj:j<l.length),0≤l[j].1∧l[j].1≤1099511627776∧vv k n l[j].2=true:=by
 unfold sv at h;rw[Bool.and_eq_true,Bool.and_eq_true,decide_eq_true_iff]at h;obtain⟨⟨h1,h2⟩,h3⟩:=h;obtain⟨h4,h5⟩:=zod k n l _ _ h3;exact⟨h5,h2,h1,fun j hj=>by have:=h4 j hj;exact⟨by omega,this.2⟩⟩
theorem zrF {w W:World} {X:Obj} {x y:Value} {T:TypeId} (hb:Below ((w.alloc X).alloc (.cells #[x,y] T)).heap.size ((w.alloc X).alloc (.cells #[x,y] T)) W):
 W.cell? ⟨w.heap.size+1,0,none⟩=some x∧W.cell? ⟨w.heap.size+1,1,none⟩=some y∧W.frozen? ⟨w.heap.size+1,0,none⟩=false∧W.frozen? ⟨w.heap.size+1,1,none⟩=false:=by
 have h:=fun i=>boxN hb i;simp only[World.size_alloc]at h;exact⟨(h 0).1,(h 1).1,(h 0).2,(h 1).2⟩
def atR (k n:Int) (l:List Ch) (t:Int):ByteArray×Int:=if sv k n l=false then(⟨#[]⟩,1)else if t<0∨1099511627776<t then(⟨#[]⟩,2)else(zpx k n l t,0)
theorem zm9 (k n:Int) (v:Value) (l:List Ch) (t:Int) (w:World) (hg:Glob w) (hs:SlR w v l.length (chs l)) (hf:Fit l):
 Calls Tryz.prog 28 #[.agg #[.int .i64 k,.int .i64 n,v],.int .i64 t] w fun e w'=>e=.returned (.tuple #[.string (atR k n l t).1,.int .i64 (atR k n l t).2])∧Below w.heap.size w w':=by
 obtain⟨a,cap,rfl,hc,hm⟩:=hs.shape;have hbw:Below w.heap.size w (w.alloc (.cells #[.int .i64 k,.int .i64 n,.slice a l.length cap] 45)):=(Below.refl _ _).alloc (Nat.le_refl _) _;have HV:=lhd (znc k n _ l _ (hg.below hbw) (hs.below hbw) hf);have HS:=lhd hs;have hln:=hf.1;unfold maxLen at hm;clear hg hs hf hbw;cases hv:sv k n l
 ·have HR:=lhd (show atR k n l t=(⟨#[]⟩,1)by unfold atR;rw[if_pos hv]);go_enter Tryz.func28,Tryz.ntmps28;go_wp2_with fail;refine HV.out.mono ?_;rintro e w1 ⟨rfl,hb⟩;rw[hv];clear hv;go_wp2_with fail;go_ret2
  exact⟨zlm HR.out.symm,zel hb⟩
 obtain⟨hst,-,-,-⟩:=zol hv;by_cases ht:t<0∨1099511627776<t
 ·have HR:=lhd (show atR k n l t=(⟨#[]⟩,2)by unfold atR;rw[if_neg (by rw[hv];simp),if_pos ht]);clear hst;go_enter Tryz.func28,Tryz.ntmps28;go_wp2_with fail;refine HV.out.mono ?_;rintro e w1 ⟨rfl,hb⟩;rw[hv];clear hv;rcases ht with ht|ht
  all_goals
   go_wp2_with fail
  all_goals
   go_ret2
   exact⟨zlm HR.out.symm,zel hb⟩
 ·have HR:=lhd (show atR k n l t=(zpx k n l t,0)by unfold atR;rw[if_neg (by rw[hv];simp),if_neg ht]);obtain⟨ht0,ht1⟩:0≤t∧t≤1099511627776:=by omega
  have HST:=lhd hst;clear hst ht;go_enter Tryz.func28,Tryz.ntmps28;go_wp2_with fail;refine HV.out.mono ?_;rintro e w1 ⟨rfl,hb⟩;obtain⟨c0,c1,c2⟩:=box3 hb;rw[hv];have HS1:=lhd (HS.out.below (zel hb));clear hv;go_wp2_with fail;refine(znd k n _ l t _ HS1.out hln HST.out (by omega) (by omega)).mono ?_;rintro e w2 ⟨rfl,hb2⟩;go_wp2_with fail;go_ret2
  exact⟨zlm HR.out.symm,zem (zel hb) hb2⟩
theorem zbX:(Tryz.prog.info? 53).map (fun i=>(i.zero,i.size,i.bytes))=some (some (.agg #[.int .i64 0,.string ⟨#[]⟩]),2,24):=by kernel_rfl
theorem zcq (l:List Ch):∀u∈chs l,u.oneCell'=true:=by
 induction l with
 |nil=>intro u hu;simp[chs]at hu
 |cons c l ih=>
  intro u hu;rw[zcm]at hu;rcases List.mem_cons.1 hu with rfl|hu
  ·rfl
  rcases List.mem_cons.1 hu with rfl|hu
  ·rfl
  ·exact ih u hu
theorem SlR.news {w:World} {ad:Addr} {n cap:Nat} {xs:List Value} (h:SlR w (.slice (some ad) n cap) n xs) (hx:n=0→xs=[]):∀j u,xs[j]? =some u→w.cell? (ad.add j)=some u:=by
 intro j u hj;rcases Nat.eq_zero_or_pos n with h0|h0
 ·rw[hx h0]at hj;simp at hj
 ·obtain⟨b,o,cap',hv,-,-,hc⟩:=h.at h0;injection hv with e1 _ _;injection e1 with e1;subst e1;rw[zaF];exact hc j u hj
theorem zcp (l:List Ch) (h:l.length=0):chs l=[]:=by rw[List.length_eq_zero_iff.1 h];rfl
theorem zrN (v:Value) (l:List Ch) (w:World) (hs:SlR w v l.length (chs l)) (hn:l.length≤1000000):
 Calls Tryz.prog 99 #[v] w fun e w'=>∃v',e=.returned v'∧w'.ownsRow w.heap.size 53 2 v' l.length (chs l)∧Below w.heap.size w w':=by
 obtain⟨a,cap,rfl,hc,hm,hz,hat⟩:=hs;have hs:SlR w (.slice a l.length cap) l.length (chs l):=⟨a,cap,rfl,hc,hm,hz,hat⟩;cases a with
 |none=>
  have hcap:=hz rfl;subst hcap;have hq:=Lib.run_eql_slice_nil (P:=Tryz.prog) w 43 53 none l.length 0 0 0 Tryz.underlying43;have h0:l.length=0:=by omega
  have HL:=lhd (zcp l h0);have H0:=lhd h0;clear hs hz hat h0;go_enter Tryz.func99,Tryz.ntmps99;go_wp2_with fail;go_ret;exact⟨_,rfl,by rw[HL.out,H0.out];exact World.ownsRow_nil _ _ _ _,Below.refl _ _⟩
 |some ad=>
  have hq:=Lib.run_eql_slice_nil (P:=Tryz.prog) w 43 53 (some ad) l.length cap 0 0 Tryz.underlying43;obtain⟨i0,hi,iz0,iz1,iz2⟩:=info_parts (P:=Tryz.prog) zbX;have hbw:Below w.heap.size w (w.alloc (.cells #[] 53)):=(Below.refl _ _).alloc (Nat.le_refl _) _;have HN:=lhd ((hs.below hbw).news (zcp l));have hown:(w.alloc (.cells #[] 53)).ownsRow w.heap.size 53 2 (.slice (some ⟨w.heap.size,0,none⟩) 0 0) 0 []:=World.ownsRow_lit w #[] 0 (Nat.le_refl _) (by simp[maxLen]) (by simp);have HOWN:=lhd hown;clear hs hz hat hbw hown;go_enter Tryz.func99,Tryz.ntmps99;go_wp2_with (at_builtin;refine wpList_append_own _ rfl _ _ 43 rfl w.heap.size 53 i0 (.agg #[.int .i64 0,.string ⟨#[]⟩]) 2 24 Tryz.underlying43 hi iz0 iz1 iz2 rfl (by decide) _ _ _ rfl HOWN.out ad l.length cap (chs l) rfl (by rw[zco];omega) HN.out (zcq l) (by unfold maxLen;omega) (by omega) (by simp) ?_)
  intro v' w' ho hg _;have HO:=lhd ho;have HG:=lhd hg;clear ho hg;go_wp2_with fail;go_ret;exact⟨_,rfl,by have:=HO.out;simpa using this,((Below.refl _ _).alloc (Nat.le_refl _) _).grown HG.out (by simp) (by intro k hk;simp[Value.ownBlock]at hk;omega)⟩
def fewV (l:List Ch):Bool:=l.all fun c=>decide (c.2.size≤200)
def few (l:List Ch) (n:Int):Bool:=fewV l&&decide ((l.length:Int)≤n)
theorem zkS (v:Value) (l:List Ch) (n:Int) (w:World) (hs:SlR w v l.length (chs l)):
 Calls Tryz.prog 51 #[v,.int .i64 n] w fun e w'=>e=.returned (.bool (few l n))∧w'=w:=by
 obtain⟨a,cap,rfl,hc,hm⟩:=hs.shape;unfold maxLen at hm;have HS:=lhd hs;clear hs;go_enter Tryz.func51,Tryz.ntmps51;go_wp2_with fail
 go_loopw [5] (fun i wr=>∃(j:Nat),j≤l.length∧i=.int .i64 j∧fewV (l.drop j)=fewV l∧wr=w)
  (fun i _=>l.length-(intOf i).toNat)
 case atStart=>exact⟨0,Nat.zero_le _,rfl,rfl,rfl⟩
 case round=>
  obtain⟨j,hj,rfl,hgo,rfl⟩:=hrel;have HGO:=lhd hgo;clear hgo;by_cases hlt:j<l.length
  ·obtain⟨b,o,rfl,d0,d1⟩:=HS.out.ch hlt
   have HGO2:Hid ((decide (l[j].2.size≤200)&&fewV (l.drop (j+1)))=fewV l):=lhd (by
    have:=HGO.out;rw[List.drop_eq_getElem_cons hlt,fewV,List.all_cons]at this;exact this)
   generalize l[j]=c at d0 d1 HGO2;obtain⟨t,s⟩:=c;simp only at d0 d1;by_cases hA:s.size≤200
   ·have HGO3:Hid (fewV (l.drop (j+1))=fewV l):=lhd (by rw[←HGO2.out];simp[hA]);have hw:IntKind.i64.wrap ((j:Int)+1)=(j:Int)+1:=IntWalk.i64_in _ (by omega);go_wp2_with fail;go_roundw;case rel=>exact⟨j+1,by omega,by go_num,HGO3.out,trivial⟩
    case measure=>simp[intOf];omega
   ·have e:fewV l=false:=by rw[←HGO2.out];simp[hA]
    have E2:=lhd (show few l n=false by simp[few,e]);clear e;have hA':200<s.size:=by omega
    clear hA;go_wp2_with fail;go_ret;exact⟨zli E2.out.symm,rfl⟩
  ·have e:fewV l=true:=by rw[←HGO.out,List.drop_eq_nil_iff.2 (by omega)];rfl
   have E2:=lhd (show few l n=decide ((l.length:Int)≤n)by simp[few,e]);have hj':l.length=j:=by omega
   subst hj';clear e hlt;go_wp2_with fail;go_ret;exact⟨zli E2.out.symm,rfl⟩
def zl8 (l m:List Ch):Bool:=decide (l=m)
theorem zkZ (v u:Value) (l m:List Ch) (w:World) (hs:SlR w v l.length (chs l)) (ht:SlR w u m.length (chs m)):
 Calls Tryz.prog 35 #[v,u] w fun e w'=>e=.returned (.bool (zl8 l m))∧Below w.heap.size w w':=by
 obtain⟨a,cap,rfl,hc,hm⟩:=hs.shape;obtain⟨a2,cap2,rfl,hc2,hm2⟩:=ht.shape;unfold maxLen at hm hm2;have HS:=lhd hs;have HT:=lhd ht;clear hs ht;by_cases hne:l.length≠m.length
 ·have E:=lhd (show zl8 l m=false by unfold zl8;rw[decide_eq_false_iff_not];intro h;exact hne (by rw[h]));have hb:((l.length:Int) !=(m.length:Int))=true:=by rw[bne_iff_ne];omega
  clear hne;go_enter Tryz.func35,Tryz.ntmps35;go_wp2_with fail;go_ret;exact⟨zli E.out.symm,Below.refl _ _⟩
 have hlen:l.length=m.length:=by omega
 have E:=lhd (show zl8 l m=decide (l=m)from rfl);have hb:((l.length:Int) !=(m.length:Int))=false:=by rw[hlen];simp
 clear hne;go_enter Tryz.func35,Tryz.ntmps35;go_wp2_with fail
 go_loopw [5] (fun i wr=>∃(j:Nat),j≤l.length∧i=.int .i64 j∧l.take j=m.take j∧Below w.heap.size w wr)
  (fun i _=>l.length-(intOf i).toNat)
 case atStart=>exact⟨0,Nat.zero_le _,rfl,rfl,Below.refl _ _⟩
 case round=>
  obtain⟨j,hj,rfl,hgo,hbw⟩:=hrel;have HGO:=lhd hgo;have HB:=lhd hbw;clear hgo hbw;by_cases hlt:j<l.length
  ·obtain⟨b,o,rfl,d0,d1⟩:=(HS.out.below HB.out).ch hlt;obtain⟨b2,o2,rfl,g0,g1⟩:=(HT.out.below HB.out).ch (show j<m.length by omega);have hlt2:j<m.length:=by omega
   have q1:(0:Int)≤(j:Int):=by omega
   have q2:(j:Int)<(l.length:Int):=by omega
   have q3:(j:Int)<(m.length:Int):=by omega
   have hw:IntKind.i64.wrap ((j:Int)+1)=(j:Int)+1:=IntWalk.i64_in _ (by omega);by_cases he:l[j]=m[j]
   ·have HGO2:Hid (l.take (j+1)=m.take (j+1)):=lhd (by rw[List.take_succ_eq_append_getElem hlt,List.take_succ_eq_append_getElem hlt2,HGO.out,he]);rw[←he]at g0 g1;generalize l[j]=c at d0 d1 g0 g1;clear he;obtain⟨t,s⟩:=c;simp only at d0 d1 g0 g1;go_wp2_with fail;go_quiet (fail);go_wp2_with fail;go_roundw;case rel=>exact⟨j+1,by omega,by go_num,HGO2.out,za6 HB.out _⟩
    case measure=>simp[intOf];omega
   ·have E2:=lhd (show zl8 l m=false by unfold zl8;rw[decide_eq_false_iff_not];intro h;subst h;exact he rfl);have hne:¬(l[j].1=m[j].1∧l[j].2=m[j].2):=fun h=>he (Prod.ext h.1 h.2);generalize l[j]=c at d0 d1 hne;generalize m[j]=c' at g0 g1 hne;clear he;obtain⟨t,s⟩:=c;obtain⟨t',s'⟩:=c';simp only at d0 d1 g0 g1 hne;by_cases htt:t=t'
    ·subst htt;have hss:=za1 (fun h=>hne ⟨rfl,h⟩:s≠s');clear hne;go_wp2_with fail;go_quiet (fail);go_wp2_with fail;go_ret;exact⟨zli E2.out.symm,za6 HB.out _⟩
    ·have htb:(t==t')=false:=by rw[beq_eq_false_iff_ne];exact htt
     clear hne;go_wp2_with fail;go_quiet (fail);go_wp2_with fail;go_ret;exact⟨zli E2.out.symm,za6 HB.out _⟩
  ·have hj':j=l.length:=by omega
   subst hj';have E2:=lhd (show zl8 l m=true by unfold zl8;rw[decide_eq_true_iff];have:=HGO.out;rwa [List.take_length,hlen,List.take_length]at this);clear hlt;go_wp2_with fail;go_ret;exact⟨zli E2.out.symm,HB.out⟩
set_option linter.unusedSimpArgs false
theorem zbv {s t:Bs} (h:s≠t):bsB s≠bsB t:=fun e=>h (by have:=congrArg (fun b=>b.data.toList) e;simpa[bsB] using this)
theorem zd1 (v u:Value) (l m:List (Sc)) (w:World) (hs:SlR w v l.length (scs l)) (ht:SlR w u m.length (scs m)):
 Calls Tryz.prog 73 #[v,u] w fun e w'=>e=.returned (.bool (decide (l=m)))∧Below w.heap.size w w':=by
 obtain⟨a,cap,rfl,hc,hm⟩:=hs.shape;obtain⟨a2,cap2,rfl,hc2,hm2⟩:=ht.shape;unfold maxLen at hm hm2;have HS:=lhd hs;have HT:=lhd ht;clear hs ht;obtain⟨R,hR⟩:∃R,R=decide (l=m):=⟨_,rfl⟩;rw[←hR];by_cases hne:l.length≠m.length
 ·have E:=lhd (show R=false by rw[hR,decide_eq_false_iff_not];intro h;exact hne (by rw[h]));have hb:((l.length:Int) !=(m.length:Int))=true:=by rw[bne_iff_ne];omega
  clear hne hR;go_enter Tryz.func73,Tryz.ntmps73;go_wp2_with fail;go_ret;exact⟨zli E.out.symm,Below.refl _ _⟩
 have hlen:l.length=m.length:=by omega
 have HLEN:=lhd hlen;have HR:=lhd hR;have hb:((l.length:Int) !=(m.length:Int))=false:=by rw[hlen];simp
 clear hne hlen hR;go_enter Tryz.func73,Tryz.ntmps73;go_wp2_with fail
 go_loopw [13] (fun i wr=>∃(j:Nat),j≤l.length∧i=.int .i64 j∧l.take j=m.take j∧Below w.heap.size w wr)
  (fun i _=>l.length-(intOf i).toNat)
 case atStart=>exact⟨0,Nat.zero_le _,rfl,rfl,Below.refl _ _⟩
 case round=>
  obtain⟨j,hj,rfl,hgo,hbw⟩:=hrel;have HGO:=lhd hgo;have HB:=lhd hbw;clear hgo hbw;by_cases hlt:j<l.length
  ·have hlt2:j<m.length:=by have:=HLEN.out;omega
   obtain⟨b,o,rfl,hcell⟩:=(HS.out.below HB.out).scs hlt;obtain⟨b2,o2,rfl,hcell2⟩:=(HT.out.below HB.out).scs hlt2;have q1:(0:Int)≤(j:Int):=by omega
   have q2:(j:Int)<(l.length:Int):=by omega
   have q3:(j:Int)<(m.length:Int):=by omega
   have hw:IntKind.i64.wrap ((j:Int)+1)=(j:Int)+1:=IntWalk.i64_in _ (by omega);by_cases he:l[j]=m[j]
   ·have HGO2:Hid (l.take (j+1)=m.take (j+1)):=lhd (by rw[List.take_succ_eq_append_getElem hlt,List.take_succ_eq_append_getElem hlt2,HGO.out,he]);rw[←he]at hcell2;generalize l[j]=c at hcell hcell2;obtain⟨c2,hc2⟩:∃c2,c2=c:=⟨_,rfl⟩;rw[←hc2]at hcell2;clear he;obtain⟨nm,ty,sc⟩:=c;obtain⟨nm2,ty2,sc2⟩:=c2;have d0:wr.cell? ⟨b,o+j*3,none⟩=some (.string (bsB nm)):=hcell 0 _ rfl;have d1:wr.cell? ⟨b,o+j*3+1,none⟩=some (.int .i64 ty):=hcell 1 _ rfl;have d2:wr.cell? ⟨b,o+j*3+2,none⟩=some (.int .i64 sc):=hcell 2 _ rfl;have g0:wr.cell? ⟨b2,o2+j*3,none⟩=some (.string (bsB nm2)):=hcell2 0 _ rfl;have g1:wr.cell? ⟨b2,o2+j*3+1,none⟩=some (.int .i64 ty2):=hcell2 1 _ rfl;have g2:wr.cell? ⟨b2,o2+j*3+2,none⟩=some (.int .i64 sc2):=hcell2 2 _ rfl;cases hc2
    clear hcell hcell2;go_wp2_with fail;go_quiet (fail);go_wp2_with fail;go_roundw;case rel=>exact⟨j+1,by omega,by go_num,HGO2.out,za6 HB.out _⟩
    case measure=>simp[intOf];omega
   ·have E2:=lhd (show R=false by rw[HR.out,decide_eq_false_iff_not];intro h;subst h;exact he rfl);generalize l[j]=c at hcell he;generalize m[j]=c2 at hcell2 he;have hne:=he;clear he;obtain⟨nm,ty,sc⟩:=c;obtain⟨nm2,ty2,sc2⟩:=c2;have d0:wr.cell? ⟨b,o+j*3,none⟩=some (.string (bsB nm)):=hcell 0 _ rfl;have d1:wr.cell? ⟨b,o+j*3+1,none⟩=some (.int .i64 ty):=hcell 1 _ rfl;have d2:wr.cell? ⟨b,o+j*3+2,none⟩=some (.int .i64 sc):=hcell 2 _ rfl;have g0:wr.cell? ⟨b2,o2+j*3,none⟩=some (.string (bsB nm2)):=hcell2 0 _ rfl;have g1:wr.cell? ⟨b2,o2+j*3+1,none⟩=some (.int .i64 ty2):=hcell2 1 _ rfl;have g2:wr.cell? ⟨b2,o2+j*3+2,none⟩=some (.int .i64 sc2):=hcell2 2 _ rfl;clear hcell hcell2;by_cases h0:nm=nm2
    rotate_left
    ·have hss:=za1 (zbv h0);clear h0 hne;go_wp2_with fail;go_quiet (fail);go_wp2_with fail;go_ret;exact⟨zli E2.out.symm,za6 HB.out _⟩
    subst h0;by_cases h1:ty=ty2
    rotate_left
    ·skip
     have hnb:(ty==ty2)=false:=by rw[beq_eq_false_iff_ne];assumption
     clear h1 hne;go_wp2_with fail;go_quiet (fail);go_wp2_with fail;go_ret;exact⟨zli E2.out.symm,za6 HB.out _⟩
    subst h1;by_cases h2:sc=sc2
    rotate_left
    ·skip
     have hnb:(sc==sc2)=false:=by rw[beq_eq_false_iff_ne];assumption
     clear h2 hne;go_wp2_with fail;go_quiet (fail);go_wp2_with fail;go_ret;exact⟨zli E2.out.symm,za6 HB.out _⟩
    subst h2;exact absurd rfl hne
  ·have hj':j=l.length:=by omega
   subst hj';have E2:=lhd (show R=true by rw[HR.out,decide_eq_true_iff];have:=HGO.out;rwa [List.take_length,HLEN.out,List.take_length]at this);clear hlt;go_wp2_with fail;go_ret;exact⟨zli E2.out.symm,HB.out⟩
theorem zd2 (v u:Value) (l m:List (Vr)) (w:World) (hs:SlR w v l.length (vrs l)) (ht:SlR w u m.length (vrs m)):
 Calls Tryz.prog 74 #[v,u] w fun e w'=>e=.returned (.bool (decide (l=m)))∧Below w.heap.size w w':=by
 obtain⟨a,cap,rfl,hc,hm⟩:=hs.shape;obtain⟨a2,cap2,rfl,hc2,hm2⟩:=ht.shape;unfold maxLen at hm hm2;have HS:=lhd hs;have HT:=lhd ht;clear hs ht;obtain⟨R,hR⟩:∃R,R=decide (l=m):=⟨_,rfl⟩;rw[←hR];by_cases hne:l.length≠m.length
 ·have E:=lhd (show R=false by rw[hR,decide_eq_false_iff_not];intro h;exact hne (by rw[h]));have hb:((l.length:Int) !=(m.length:Int))=true:=by rw[bne_iff_ne];omega
  clear hne hR;go_enter Tryz.func74,Tryz.ntmps74;go_wp2_with fail;go_ret;exact⟨zli E.out.symm,Below.refl _ _⟩
 have hlen:l.length=m.length:=by omega
 have HLEN:=lhd hlen;have HR:=lhd hR;have hb:((l.length:Int) !=(m.length:Int))=false:=by rw[hlen];simp
 clear hne hlen hR;go_enter Tryz.func74,Tryz.ntmps74;go_wp2_with fail
 go_loopw [13] (fun i wr=>∃(j:Nat),j≤l.length∧i=.int .i64 j∧l.take j=m.take j∧Below w.heap.size w wr)
  (fun i _=>l.length-(intOf i).toNat)
 case atStart=>exact⟨0,Nat.zero_le _,rfl,rfl,Below.refl _ _⟩
 case round=>
  obtain⟨j,hj,rfl,hgo,hbw⟩:=hrel;have HGO:=lhd hgo;have HB:=lhd hbw;clear hgo hbw;by_cases hlt:j<l.length
  ·have hlt2:j<m.length:=by have:=HLEN.out;omega
   obtain⟨b,o,rfl,hcell⟩:=(HS.out.below HB.out).vrs hlt;obtain⟨b2,o2,rfl,hcell2⟩:=(HT.out.below HB.out).vrs hlt2;have q1:(0:Int)≤(j:Int):=by omega
   have q2:(j:Int)<(l.length:Int):=by omega
   have q3:(j:Int)<(m.length:Int):=by omega
   have hw:IntKind.i64.wrap ((j:Int)+1)=(j:Int)+1:=IntWalk.i64_in _ (by omega);by_cases he:l[j]=m[j]
   ·have HGO2:Hid (l.take (j+1)=m.take (j+1)):=lhd (by rw[List.take_succ_eq_append_getElem hlt,List.take_succ_eq_append_getElem hlt2,HGO.out,he]);rw[←he]at hcell2;generalize l[j]=c at hcell hcell2;obtain⟨c2,hc2⟩:∃c2,c2=c:=⟨_,rfl⟩;rw[←hc2]at hcell2;clear he;obtain⟨nm,ty,sc,sg,rg,mb,lb⟩:=c;obtain⟨nm2,ty2,sc2,sg2,rg2,mb2,lb2⟩:=c2;have d0:wr.cell? ⟨b,o+j*7,none⟩=some (.string (bsB nm)):=hcell 0 _ rfl;have d1:wr.cell? ⟨b,o+j*7+1,none⟩=some (.int .i64 ty):=hcell 1 _ rfl;have d2:wr.cell? ⟨b,o+j*7+2,none⟩=some (.int .i64 sc):=hcell 2 _ rfl;have d3:wr.cell? ⟨b,o+j*7+3,none⟩=some (.int .i64 sg):=hcell 3 _ rfl;have d4:wr.cell? ⟨b,o+j*7+4,none⟩=some (.bool rg):=hcell 4 _ rfl;have d5:wr.cell? ⟨b,o+j*7+5,none⟩=some (.int .i64 mb):=hcell 5 _ rfl;have d6:wr.cell? ⟨b,o+j*7+6,none⟩=some (.int .i64 lb):=hcell 6 _ rfl;have g0:wr.cell? ⟨b2,o2+j*7,none⟩=some (.string (bsB nm2)):=hcell2 0 _ rfl;have g1:wr.cell? ⟨b2,o2+j*7+1,none⟩=some (.int .i64 ty2):=hcell2 1 _ rfl;have g2:wr.cell? ⟨b2,o2+j*7+2,none⟩=some (.int .i64 sc2):=hcell2 2 _ rfl;have g3:wr.cell? ⟨b2,o2+j*7+3,none⟩=some (.int .i64 sg2):=hcell2 3 _ rfl;have g4:wr.cell? ⟨b2,o2+j*7+4,none⟩=some (.bool rg2):=hcell2 4 _ rfl;have g5:wr.cell? ⟨b2,o2+j*7+5,none⟩=some (.int .i64 mb2):=hcell2 5 _ rfl;have g6:wr.cell? ⟨b2,o2+j*7+6,none⟩=some (.int .i64 lb2):=hcell2 6 _ rfl;cases hc2
    clear hcell hcell2;go_wp2_with fail;go_quiet (fail);go_wp2_with fail;go_roundw;case rel=>exact⟨j+1,by omega,by go_num,HGO2.out,za6 HB.out _⟩
    case measure=>simp[intOf];omega
   ·have E2:=lhd (show R=false by rw[HR.out,decide_eq_false_iff_not];intro h;subst h;exact he rfl);generalize l[j]=c at hcell he;generalize m[j]=c2 at hcell2 he;have hne:=he;clear he;obtain⟨nm,ty,sc,sg,rg,mb,lb⟩:=c;obtain⟨nm2,ty2,sc2,sg2,rg2,mb2,lb2⟩:=c2;have d0:wr.cell? ⟨b,o+j*7,none⟩=some (.string (bsB nm)):=hcell 0 _ rfl;have d1:wr.cell? ⟨b,o+j*7+1,none⟩=some (.int .i64 ty):=hcell 1 _ rfl;have d2:wr.cell? ⟨b,o+j*7+2,none⟩=some (.int .i64 sc):=hcell 2 _ rfl;have d3:wr.cell? ⟨b,o+j*7+3,none⟩=some (.int .i64 sg):=hcell 3 _ rfl;have d4:wr.cell? ⟨b,o+j*7+4,none⟩=some (.bool rg):=hcell 4 _ rfl;have d5:wr.cell? ⟨b,o+j*7+5,none⟩=some (.int .i64 mb):=hcell 5 _ rfl;have d6:wr.cell? ⟨b,o+j*7+6,none⟩=some (.int .i64 lb):=hcell 6 _ rfl;have g0:wr.cell? ⟨b2,o2+j*7,none⟩=some (.string (bsB nm2)):=hcell2 0 _ rfl;have g1:wr.cell? ⟨b2,o2+j*7+1,none⟩=some (.int .i64 ty2):=hcell2 1 _ rfl;have g2:wr.cell? ⟨b2,o2+j*7+2,none⟩=some (.int .i64 sc2):=hcell2 2 _ rfl;have g3:wr.cell? ⟨b2,o2+j*7+3,none⟩=some (.int .i64 sg2):=hcell2 3 _ rfl;have g4:wr.cell? ⟨b2,o2+j*7+4,none⟩=some (.bool rg2):=hcell2 4 _ rfl;have g5:wr.cell? ⟨b2,o2+j*7+5,none⟩=some (.int .i64 mb2):=hcell2 5 _ rfl;have g6:wr.cell? ⟨b2,o2+j*7+6,none⟩=some (.int .i64 lb2):=hcell2 6 _ rfl;clear hcell hcell2;by_cases h0:nm=nm2
    rotate_left
    ·have hss:=za1 (zbv h0);clear h0 hne;go_wp2_with fail;go_quiet (fail);go_wp2_with fail;go_ret;exact⟨zli E2.out.symm,za6 HB.out _⟩
    subst h0;by_cases h1:ty=ty2
    rotate_left
    ·skip
     have hnb:(ty==ty2)=false:=by rw[beq_eq_false_iff_ne];assumption
     clear h1 hne;go_wp2_with fail;go_quiet (fail);go_wp2_with fail;go_ret;exact⟨zli E2.out.symm,za6 HB.out _⟩
    subst h1;by_cases h2:sc=sc2
    rotate_left
    ·skip
     have hnb:(sc==sc2)=false:=by rw[beq_eq_false_iff_ne];assumption
     clear h2 hne;go_wp2_with fail;go_quiet (fail);go_wp2_with fail;go_ret;exact⟨zli E2.out.symm,za6 HB.out _⟩
    subst h2;by_cases h3:sg=sg2
    rotate_left
    ·skip
     have hnb:(sg==sg2)=false:=by rw[beq_eq_false_iff_ne];assumption
     clear h3 hne;go_wp2_with fail;go_quiet (fail);go_wp2_with fail;go_ret;exact⟨zli E2.out.symm,za6 HB.out _⟩
    subst h3;by_cases h4:rg=rg2
    rotate_left
    ·skip
     have hnb:(rg==rg2)=false:=by rw[beq_eq_false_iff_ne];assumption
     clear h4 hne;go_wp2_with fail;go_quiet (fail);go_wp2_with fail;go_ret;exact⟨zli E2.out.symm,za6 HB.out _⟩
    subst h4;by_cases h5:mb=mb2
    rotate_left
    ·skip
     have hnb:(mb==mb2)=false:=by rw[beq_eq_false_iff_ne];assumption
     clear h5 hne;go_wp2_with fail;go_quiet (fail);go_wp2_with fail;go_ret;exact⟨zli E2.out.symm,za6 HB.out _⟩
    subst h5;by_cases h6:lb=lb2
    rotate_left
    ·skip
     have hnb:(lb==lb2)=false:=by rw[beq_eq_false_iff_ne];assumption
     clear h6 hne;go_wp2_with fail;go_quiet (fail);go_wp2_with fail;go_ret;exact⟨zli E2.out.symm,za6 HB.out _⟩
    subst h6;exact absurd rfl hne
  ·have hj':j=l.length:=by omega
   subst hj';have E2:=lhd (show R=true by rw[HR.out,decide_eq_true_iff];have:=HGO.out;rwa [List.take_length,HLEN.out,List.take_length]at this);clear hlt;go_wp2_with fail;go_ret;exact⟨zli E2.out.symm,HB.out⟩
theorem zd0 (v u:Value) (l m:List (Int×Int)) (w:World) (hs:SlR w v l.length (gps l)) (ht:SlR w u m.length (gps m)):
 Calls Tryz.prog 32 #[v,u] w fun e w'=>e=.returned (.bool (decide (l=m)))∧Below w.heap.size w w':=by
 obtain⟨a,cap,rfl,hc,hm⟩:=hs.shape;obtain⟨a2,cap2,rfl,hc2,hm2⟩:=ht.shape;unfold maxLen at hm hm2;have HS:=lhd hs;have HT:=lhd ht;clear hs ht;obtain⟨R,hR⟩:∃R,R=decide (l=m):=⟨_,rfl⟩;rw[←hR];by_cases hne:l.length≠m.length
 ·have E:=lhd (show R=false by rw[hR,decide_eq_false_iff_not];intro h;exact hne (by rw[h]));have hb:((l.length:Int) !=(m.length:Int))=true:=by rw[bne_iff_ne];omega
  clear hne hR;go_enter Tryz.func32,Tryz.ntmps32;go_wp2_with fail;go_ret;exact⟨zli E.out.symm,Below.refl _ _⟩
 have hlen:l.length=m.length:=by omega
 have HLEN:=lhd hlen;have HR:=lhd hR;have hb:((l.length:Int) !=(m.length:Int))=false:=by rw[hlen];simp
 clear hne hlen hR;go_enter Tryz.func32,Tryz.ntmps32;go_wp2_with fail
 go_loopw [13] (fun i wr=>∃(j:Nat),j≤l.length∧i=.int .i64 j∧l.take j=m.take j∧Below w.heap.size w wr)
  (fun i _=>l.length-(intOf i).toNat)
 case atStart=>exact⟨0,Nat.zero_le _,rfl,rfl,Below.refl _ _⟩
 case round=>
  obtain⟨j,hj,rfl,hgo,hbw⟩:=hrel;have HGO:=lhd hgo;have HB:=lhd hbw;clear hgo hbw;by_cases hlt:j<l.length
  ·have hlt2:j<m.length:=by have:=HLEN.out;omega
   obtain⟨b,o,rfl,hcell⟩:=(HS.out.below HB.out).gps hlt;obtain⟨b2,o2,rfl,hcell2⟩:=(HT.out.below HB.out).gps hlt2;have q1:(0:Int)≤(j:Int):=by omega
   have q2:(j:Int)<(l.length:Int):=by omega
   have q3:(j:Int)<(m.length:Int):=by omega
   have hw:IntKind.i64.wrap ((j:Int)+1)=(j:Int)+1:=IntWalk.i64_in _ (by omega);by_cases he:l[j]=m[j]
   ·have HGO2:Hid (l.take (j+1)=m.take (j+1)):=lhd (by rw[List.take_succ_eq_append_getElem hlt,List.take_succ_eq_append_getElem hlt2,HGO.out,he]);rw[←he]at hcell2;generalize l[j]=c at hcell hcell2;obtain⟨c2,hc2⟩:∃c2,c2=c:=⟨_,rfl⟩;rw[←hc2]at hcell2;clear he;obtain⟨ty,sc⟩:=c;obtain⟨ty2,sc2⟩:=c2;have d0:wr.cell? ⟨b,o+j*2,none⟩=some (.int .i64 ty):=hcell 0 _ rfl;have d1:wr.cell? ⟨b,o+j*2+1,none⟩=some (.int .i64 sc):=hcell 1 _ rfl;have g0:wr.cell? ⟨b2,o2+j*2,none⟩=some (.int .i64 ty2):=hcell2 0 _ rfl;have g1:wr.cell? ⟨b2,o2+j*2+1,none⟩=some (.int .i64 sc2):=hcell2 1 _ rfl;cases hc2
    clear hcell hcell2;go_wp2_with fail;go_quiet (fail);go_wp2_with fail;go_roundw;case rel=>exact⟨j+1,by omega,by go_num,HGO2.out,za6 HB.out _⟩
    case measure=>simp[intOf];omega
   ·have E2:=lhd (show R=false by rw[HR.out,decide_eq_false_iff_not];intro h;subst h;exact he rfl);generalize l[j]=c at hcell he;generalize m[j]=c2 at hcell2 he;have hne:=he;clear he;obtain⟨ty,sc⟩:=c;obtain⟨ty2,sc2⟩:=c2;have d0:wr.cell? ⟨b,o+j*2,none⟩=some (.int .i64 ty):=hcell 0 _ rfl;have d1:wr.cell? ⟨b,o+j*2+1,none⟩=some (.int .i64 sc):=hcell 1 _ rfl;have g0:wr.cell? ⟨b2,o2+j*2,none⟩=some (.int .i64 ty2):=hcell2 0 _ rfl;have g1:wr.cell? ⟨b2,o2+j*2+1,none⟩=some (.int .i64 sc2):=hcell2 1 _ rfl;clear hcell hcell2;by_cases h1:ty=ty2
    rotate_left
    ·skip
     have hnb:(ty==ty2)=false:=by rw[beq_eq_false_iff_ne];assumption
     clear h1 hne;go_wp2_with fail;go_quiet (fail);go_wp2_with fail;go_ret;exact⟨zli E2.out.symm,za6 HB.out _⟩
    subst h1;by_cases h2:sc=sc2
    rotate_left
    ·skip
     have hnb:(sc==sc2)=false:=by rw[beq_eq_false_iff_ne];assumption
     clear h2 hne;go_wp2_with fail;go_quiet (fail);go_wp2_with fail;go_ret;exact⟨zli E2.out.symm,za6 HB.out _⟩
    subst h2;exact absurd rfl hne
  ·have hj':j=l.length:=by omega
   subst hj';have E2:=lhd (show R=true by rw[HR.out,decide_eq_true_iff];have:=HGO.out;rwa [List.take_length,HLEN.out,List.take_length]at this);clear hlt;go_wp2_with fail;go_ret;exact⟨zli E2.out.symm,HB.out⟩
end Go.Proofs.YtbiadennhnokhaaGreatDoor
