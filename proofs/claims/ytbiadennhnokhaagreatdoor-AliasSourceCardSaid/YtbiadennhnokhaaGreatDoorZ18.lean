import Derived.Test.YtbiadennhnokhaaGreatDoorZ00
import Derived.Test.YtbiadennhnokhaaGreatDoorZ08
import Derived.Test.YtbiadennhnokhaaGreatDoorZ15
set_option maxRecDepth 100000
set_option maxHeartbeats 16000000
namespace Go.Proofs.YtbiadennhnokhaaGreatDoor
open Go.RowKit
theorem zm7 (c:Ch) (t:Int) (w:World):
 Calls Tryz.prog 150 #[.agg #[.int .i64 c.1,.string c.2],.int .i64 t] w fun e w'=>e=.returned (.int .i64 (Lib.compareInt c.1 t))∧Below w.heap.size w w':=by
 go_enter Tryz.func150,Tryz.ntmps150;go_wp2_with fail;refine(Tryz.cmp_Compare_int _ _ _).mono ?_;rintro e w1 ⟨rfl,hw⟩;have hw':=hw.symm;subst hw';go_wp2_with fail;go_ret;exact⟨rfl,(Below.refl _ _).alloc (Nat.le_refl _) _⟩
def Sorted (l:List Ch):Prop:=∀i j (hi:i<l.length) (hj:j<l.length),i<j→l[i].1<l[j].1
def lo (l:List Ch) (t:Int):Nat:=(l.takeWhile (fun c=>decide (c.1<t))).length
theorem zhN (l:List Ch) (t:Int):lo l t≤l.length:=List.Sublist.length_le (List.takeWhile_sublist _)
theorem zhO (l:List Ch) (t:Int) (hs:Sorted l) (h:Nat) (hh:h<l.length):l[h].1<t↔h<lo l t:=by
 constructor
 ·intro h1;rcases Nat.lt_or_ge h (lo l t)with h2|h2
  ·exact h2
  ·exfalso
   have hlt:lo l t<l.length:=by omega
   have:=zoY (fun c:Ch=>decide (c.1<t)) l l[lo l t] (List.getElem?_eq_getElem hlt);simp at this;rcases Nat.lt_or_ge (lo l t) h with h3|h3
   ·have:=hs _ _ hlt hh h3;omega
   ·obtain rfl:h=lo l t:=by omega
    omega
 ·intro h1;obtain⟨x,hx,hp⟩:=zoX (fun c:Ch=>decide (c.1<t)) l h h1;rw[List.getElem?_eq_getElem hh]at hx;rw[Option.some.inj hx];simpa using hp
theorem zbM (v:Value) (l:List Ch) (t:Int) (w:World) (hs:SlR w v l.length (chs l)) (hl:l.length≤1000000) (hst:Sorted l):
 Calls Tryz.prog 149 #[v,.int .i64 t,.func (.func 150) #[] #[]] w fun e w'=>(∃b,e=.returned (.tuple #[.int .i64 (lo l t),.bool b]))∧Below w.heap.size w w':=by
 obtain⟨a,cap,rfl,hc,hm⟩:=hs.shape;unfold maxLen at hm;have HS:=lhd hs;have HT:=lhd hst;clear hs hst;go_enter Tryz.func149,Tryz.ntmps149;go_wp2_with fail
 go_loopw [9,10,11] (fun i_ j_ _ wr=>∃(i j:Nat),i_=.int .i64 i∧j_=.int .i64 j∧i≤lo l t∧lo l t≤j∧j≤l.length∧Below w.heap.size w wr)
  (fun i_ j_ _ _=>(intOf j_).toNat-(intOf i_).toNat)
 case atStart=>exact⟨0,l.length,rfl,rfl,Nat.zero_le _,zhN _ _,Nat.le_refl _,Below.refl _ _⟩
 case round=>
  obtain⟨i,j,rfl,rfl,h1,h2,h3,hb⟩:=hrel;by_cases hlt:i<j
  ·have hh:(i+j)/2<l.length:=by omega
   obtain⟨b,o,rfl,d0,d1⟩:=(HS.out.below hb).ch hh;have HLO:=lhd (zhO l t HT.out _ hh);generalize l[(i+j)/2]=c at d0 d1 HLO;go_wp2_with fail;refine(zm7 c t _).mono ?_;rintro e w3 ⟨rfl,hb3⟩;by_cases hct:c.1<t
   ·have hcmp:Lib.compareInt c.1 t= -1:=by unfold Lib.compareInt;rw[if_pos hct]
    have hil:=(HLO.out).1 hct;rw[hcmp];clear hcmp;go_wp2_with fail;go_roundw;case rel=>exact⟨(i+j)/2+1,j,by go_num,rfl,by omega,h2,h3,zeG hb hb3⟩
    case measure=>simp[intOf];omega
   ·have hcmp:0≤Lib.compareInt c.1 t:=by unfold Lib.compareInt;rw[if_neg hct];split<;>decide
    have hil:lo l t≤(i+j)/2:=by
     rcases Nat.lt_or_ge ((i+j)/2) (lo l t)with h|h
     ·exact absurd (HLO.out.2 h) hct
     ·exact h
    go_wp2_with fail;go_roundw;case rel=>exact⟨i,(i+j)/2,rfl,by go_num,h1,hil,by omega,zeG hb hb3⟩
    case measure=>simp[intOf];omega
  ·obtain rfl:i=lo l t:=by omega
   by_cases hlo:lo l t<l.length
   ·obtain⟨b,o,rfl,d0,d1⟩:=(HS.out.below hb).ch hlo;generalize l[lo l t]=c at d0 d1;go_wp2_with fail;refine(zm7 c t _).mono ?_;rintro e w3 ⟨rfl,hb3⟩;go_wp2_with fail;go_ret2
    exact⟨⟨_,rfl⟩,zeG hb hb3⟩
   ·go_wp2_with fail;go_ret2
    exact⟨⟨_,rfl⟩,hb⟩
theorem zm6 (k n:Int) (v:Value) (l:List Ch) (t:Int) (w:World) (hs:SlR w v l.length (chs l)) (hl:l.length≤1000000) (hst:Sorted l):
 Calls Tryz.prog 98 #[.agg #[.int .i64 k,.int .i64 n,v],.int .i64 t] w fun e w'=>e=.returned (.int .i64 (lo l t))∧Below w.heap.size w w':=by
 obtain⟨a,cap,rfl,hc,hm⟩:=hs.shape;have HB:=lhd (zbM _ l t _ (hs.below ((Below.refl _ w).alloc (Nat.le_refl _) (.cells #[.int .i64 k,.int .i64 n,.slice a l.length cap] 45))) hl hst);clear hs hst;go_enter Tryz.func98,Tryz.ntmps98;go_wp2_with fail;refine HB.out.mono ?_;rintro e w1 ⟨⟨b,rfl⟩,hb⟩;go_wp2_with fail;go_ret;exact⟨rfl,zeF hb⟩
def zpQ (k n:Int) (l:List Ch) (t:Int):ByteArray:=if k=3 then vi k n else match lo l (t+1)with|0=>vi k n|j+1=>(l.getD j (0,⟨#[]⟩)).2
theorem zm0 (k n:Int) (v:Value) (l:List Ch) (t:Int) (w:World) (hs:SlR w v l.length (chs l)) (hl:l.length≤1000000) (hst:Sorted l) (ht0: -1000000000000000≤t) (ht1:t≤1000000000000000):
 Calls Tryz.prog 85 #[.agg #[.int .i64 k,.int .i64 n,v],.int .i64 t] w fun e w'=>e=.returned (.string (zpQ k n l t))∧Below w.heap.size w w':=by
 obtain⟨a,cap,rfl,hc,hm⟩:=hs.shape;unfold maxLen at hm;have hbw:Below w.heap.size w (w.alloc (.cells #[.int .i64 k,.int .i64 n,.slice a l.length cap] 45)):=(Below.refl _ w).alloc (Nat.le_refl _) _;have HF:=lhd (zm6 k n _ l (t+1) _ (hs.below hbw) hl hst);have HS:=lhd hs;have hlo:=zhN l (t+1);clear hs hst hbw;by_cases hk:k=3
 ·have HV:=lhd (show zpQ k n l t=vi k n by unfold zpQ;rw[if_pos hk]);subst hk;go_enter Tryz.func85,Tryz.ntmps85;go_wp2_with fail;refine HF.out.mono ?_;rintro e w1 ⟨rfl,hb⟩;obtain⟨c0,c1,c2⟩:=box3 hb;go_wp2_with fail;refine(zpT _ _ _).mono ?_;rintro e w2 ⟨rfl,hb2⟩;go_wp2_with fail;go_ret;exact⟨zlH HV.out.symm,zeG (zeF hb) hb2⟩
 have hk3:(k==3)=false:=by rw[beq_eq_false_iff_ne];exact hk
 cases hq:lo l (t+1)with
 |zero=>
  have HV:=lhd (show zpQ k n l t=vi k n by unfold zpQ;rw[if_neg hk,hq]);have HQ:=lhd hq;clear hk hq;go_enter Tryz.func85,Tryz.ntmps85;go_wp2_with fail;refine HF.out.mono ?_;rintro e w1 ⟨rfl,hb⟩;rw[HQ.out];obtain⟨c0,c1,c2⟩:=box3 hb;go_wp2_with fail;refine(zpT _ _ _).mono ?_;rintro e w2 ⟨rfl,hb2⟩;go_wp2_with fail;go_ret;exact⟨zlH HV.out.symm,zeG (zeF hb) hb2⟩
 |succ j=>
  have hj:j<l.length:=by omega
  have HV:=lhd (show zpQ k n l t=l[j].2 by
   unfold zpQ;rw[if_neg hk,hq];simp only[List.getD_eq_getElem?_getD,List.getElem?_eq_getElem hj,Option.getD_some])
  have HQ:=lhd hq;clear hk hq;have hne:(((j+1:Nat):Int)==0)=false:=by rw[beq_eq_false_iff_ne];omega
  go_enter Tryz.func85,Tryz.ntmps85;go_wp2_with fail;refine HF.out.mono ?_;rintro e w1 ⟨rfl,hb⟩;rw[HQ.out];obtain⟨c0,c1,c2⟩:=box3 hb;obtain⟨b,o,rfl,d0,d1⟩:=(HS.out.below (zeF hb)).ch hj;generalize l[j]=c at d0 d1 HV;go_wp2_with fail;go_ret;exact⟨zlH HV.out.symm,zeF hb⟩
def chR (l:List Ch) (k:Int):Ch×Int:=if k<0 then((0,⟨#[]⟩),6)else match l[k.toNat]? with|none=>((0,⟨#[]⟩),6)|some c=>(c,0)
def zac (r:Ch×Int) (w:World) (e:Ending) (w':World):Prop:=e=.returned (.tuple #[.agg #[.int .i64 r.1.1,.string r.1.2],.int .i64 r.2])∧Below w.heap.size w w'
theorem zm4 (k n:Int) (v:Value) (l:List Ch) (j:Int) (w:World) (hs:SlR w v l.length (chs l)):
 Calls Tryz.prog 97 #[.agg #[.int .i64 k,.int .i64 n,v],.int .i64 j] w (zac (chR l j) w):=by
 obtain⟨a,cap,rfl,hc,hm⟩:=hs.shape;unfold maxLen at hm;have HS:=lhd hs;clear hs;by_cases h0:j<0
 ·have HR:=lhd (show chR l j=((0,⟨#[]⟩),6)by unfold chR;rw[if_pos h0]);go_enter Tryz.func97,Tryz.ntmps97;go_wp2_with fail;refine bodyPost_ret (v:=.tuple #[.agg #[.int .i64 0,.string ⟨#[]⟩],.int .i64 6]) (by simp[results,Tryz.results97,go_sem]) rfl ⟨by rw[HR.out],?_⟩;exact((Below.refl _ _).alloc (Nat.le_refl _) _).alloc (by simp) _
 obtain⟨i,rfl⟩:=Int.eq_ofNat_of_zero_le (show 0≤j by omega);clear h0;by_cases h1:i<l.length
 ·have HR:=lhd (show chR l i=(l[i],0)by unfold chR;rw[if_neg (by omega),Int.toNat_natCast,List.getElem?_eq_getElem h1]);have hbw:Below w.heap.size w ((w.alloc (.cells #[.int .i64 k,.int .i64 n,.slice a l.length cap] 45)).alloc (.cells #[.int .i64 0,.string ⟨#[]⟩] 53)):=((Below.refl _ _).alloc (Nat.le_refl _) _).alloc (by simp) _;obtain⟨b,o,rfl,d0,d1⟩:=(HS.out.below hbw).ch h1;generalize l[i]=c at d0 d1 HR;obtain⟨t,s⟩:=c;clear hbw;go_enter Tryz.func97,Tryz.ntmps97;go_wp2_with fail;refine bodyPost_ret (v:=.tuple #[.agg #[.int .i64 t,.string s],.int .i64 0]) (by simp[results,Tryz.results97,go_sem]) rfl ⟨by rw[HR.out],?_⟩;exact((Below.refl _ _).alloc (Nat.le_refl _) _).alloc (by simp) _
 ·have HR:=lhd (show chR l i=((0,⟨#[]⟩),6)by unfold chR;rw[if_neg (by omega),Int.toNat_natCast,List.getElem?_eq_none (by omega)]);have hd:decide (i<l.length)=false:=by simpa using h1
  go_enter Tryz.func97,Tryz.ntmps97;go_wp2_with fail;refine bodyPost_ret (v:=.tuple #[.agg #[.int .i64 0,.string ⟨#[]⟩],.int .i64 6]) (by simp[results,Tryz.results97,go_sem]) rfl ⟨by rw[HR.out],?_⟩;exact((Below.refl _ _).alloc (Nat.le_refl _) _).alloc (by simp) _
theorem zoC (k n:Int):∀(l:List Ch) (a:Int) (v:ByteArray),svGo k n a v l=true→(∀j (hj:j<l.length),a<l[j].1∧l[j].1≤1099511627776∧vv k n l[j].2=true)∧Sorted l
 | [],a,v,_=>⟨fun j hj=>by simp at hj,fun i j hi=>by simp at hi⟩
 |c::l,a,v,h=>by
  unfold svGo at h;split at h
  ·cases h
  ·rename_i h1
   split at h
   ·cases h
   ·rename_i h2
    split at h
    ·cases h
    ·obtain⟨h3,h4⟩:=zoC k n l c.1 c.2 h;refine⟨fun j hj=>?_,fun i j hi hj hij=>?_⟩
     ·cases j with
      |zero=>exact⟨by simp;omega,by simp;omega,by simpa using h2⟩
      |succ j=>
       have:=h3 j (by simpa using hj);simp only[List.getElem_cons_succ];exact⟨by omega,this.2⟩
     ·cases j with
      |zero=>omega
      |succ j=>
       cases i with
       |zero=>simpa using (h3 j (by simpa using hj)).1
       |succ i=>simpa using h4 i j (by simpa using hi) (by simpa using hj) (by omega)
theorem zoM {k n:Int} {l:List Ch} (h:sv k n l=true):Sorted l∧l.length≤4096∧vt k n=true∧∀j (hj:j<l.length),0≤l[j].1∧l[j].1≤1099511627776∧vv k n l[j].2=true:=by
 unfold sv at h;rw[Bool.and_eq_true,Bool.and_eq_true,decide_eq_true_iff]at h;obtain⟨⟨h1,h2⟩,h3⟩:=h;obtain⟨h4,h5⟩:=zoC k n l _ _ h3;exact⟨h5,h2,h1,fun j hj=>by have:=h4 j hj;exact⟨by omega,this.2⟩⟩
theorem zbV {w W:World} {X:Obj} {x y:Value} {T:TypeId} (hb:Below ((w.alloc X).alloc (.cells #[x,y] T)).heap.size ((w.alloc X).alloc (.cells #[x,y] T)) W):
 W.cell? ⟨w.heap.size+1,0,none⟩=some x∧W.cell? ⟨w.heap.size+1,1,none⟩=some y∧W.frozen? ⟨w.heap.size+1,0,none⟩=false∧W.frozen? ⟨w.heap.size+1,1,none⟩=false:=by
 have h:=fun i=>boxN hb i;simp only[World.size_alloc]at h;exact⟨(h 0).1,(h 1).1,(h 0).2,(h 1).2⟩
def ziG (k n:Int) (l:List Ch) (t:Int):Ch×Int:=if sv k n l=false then((0,⟨#[]⟩),1)else if t< -1∨1099511627776<t then((0,⟨#[]⟩),2)else chR l (lo l (t+1))
theorem zmT (k n:Int) (v:Value) (l:List Ch) (t:Int) (w:World) (hg:Glob w) (hs:SlR w v l.length (chs l)) (hf:Fit l):
 Calls Tryz.prog 33 #[.agg #[.int .i64 k,.int .i64 n,v],.int .i64 t] w (zac (ziG k n l t) w):=by
 obtain⟨a,cap,rfl,hc,hm⟩:=hs.shape;have hbw:Below w.heap.size w ((w.alloc (.cells #[.int .i64 k,.int .i64 n,.slice a l.length cap] 45)).alloc (.cells #[.int .i64 0,.string ⟨#[]⟩] 53)):=((Below.refl _ _).alloc (Nat.le_refl _) _).alloc (by simp) _;have HV:=lhd (zmY k n _ l _ (hg.below hbw) (hs.below hbw) hf);have HS:=lhd hs;have hln:=hf.1;unfold maxLen at hm;clear hg hs hf hbw;cases hv:sv k n l
 ·have HR:=lhd (show ziG k n l t=((0,⟨#[]⟩),1)by unfold ziG;rw[if_pos hv]);go_enter Tryz.func33,Tryz.ntmps33;go_wp2_with fail;refine HV.out.mono ?_;rintro e w1 ⟨rfl,hb⟩;have hb0:Below (w.alloc (.cells #[.int .i64 k,.int .i64 n,.slice a l.length cap] 45)).heap.size (w.alloc (.cells #[.int .i64 k,.int .i64 n,.slice a l.length cap] 45)) w1:=zeF hb;obtain⟨c0,c1,c2⟩:=box3 hb0;obtain⟨p0,p1,q0,q1⟩:=zbV hb;rw[hv];clear hv;go_wp2_with fail;refine bodyPost_ret (v:=.tuple #[.agg #[.int .i64 0,.string ⟨#[]⟩],.int .i64 1]) (by simp[results,Tryz.results33,go_sem,p0,p1]) rfl ⟨by rw[HR.out],?_⟩;exact((zeF hb0).setCell (by simp) _).setCell (by simp) _
 ·obtain⟨hst,-,-,-⟩:=zoM hv;by_cases ht:t< -1∨1099511627776<t
  ·have HR:=lhd (show ziG k n l t=((0,⟨#[]⟩),2)by unfold ziG;rw[if_neg (by rw[hv];simp),if_pos ht]);clear hst;go_enter Tryz.func33,Tryz.ntmps33;go_wp2_with fail;refine HV.out.mono ?_;rintro e w1 ⟨rfl,hb⟩;have hb0:Below (w.alloc (.cells #[.int .i64 k,.int .i64 n,.slice a l.length cap] 45)).heap.size (w.alloc (.cells #[.int .i64 k,.int .i64 n,.slice a l.length cap] 45)) w1:=zeF hb;obtain⟨c0,c1,c2⟩:=box3 hb0;obtain⟨p0,p1,q0,q1⟩:=zbV hb;rw[hv];clear hv;rcases ht with ht|ht
   all_goals
    go_wp2_with fail
   all_goals
    refine bodyPost_ret (v:=.tuple #[.agg #[.int .i64 0,.string ⟨#[]⟩],.int .i64 2]) (by simp[results,Tryz.results33,go_sem,p0,p1]) rfl ⟨by rw[HR.out],?_⟩;exact((zeF hb0).setCell (by simp) _).setCell (by simp) _
  ·have HR:=lhd (show ziG k n l t=chR l (lo l (t+1))by unfold ziG;rw[if_neg (by rw[hv];simp),if_neg ht]);obtain⟨ht0,ht1⟩: -1≤t∧t≤1099511627776:=by omega
   have HST:=lhd hst;clear hst ht;go_enter Tryz.func33,Tryz.ntmps33;go_wp2_with fail;refine HV.out.mono ?_;rintro e w1 ⟨rfl,hb⟩;have hb0:Below (w.alloc (.cells #[.int .i64 k,.int .i64 n,.slice a l.length cap] 45)).heap.size (w.alloc (.cells #[.int .i64 k,.int .i64 n,.slice a l.length cap] 45)) w1:=zeF hb;obtain⟨c0,c1,c2⟩:=box3 hb0;obtain⟨p0,p1,q0,q1⟩:=zbV hb;rw[hv];have HS1:=lhd (HS.out.below (zeF hb0));have HB0:=lhd (zeF hb0);clear hv hb hb0;have hwrap:IntKind.i64.wrap (t+1)=t+1:=IntWalk.i64_in _ (by omega);go_upto_region 5 with fail
   go_region_held3 (fun w'=>w'.cell? ⟨w.heap.size,0,none⟩=some (.int .i64 k)∧w'.cell? ⟨w.heap.size,1,none⟩=some (.int .i64 n)∧w'.cell? ⟨w.heap.size,2,none⟩=some (.slice a l.length cap)) (first|exact⟨r0,r1,r2⟩|exact⟨s0,s1,s2⟩|go_keep)
    (first
      |(go_at_call 98;(with_reducible refine(zm6 k n _ l (t+1) _ ?_ hln HST.out).mono ?_);(exact HS1.out);rintro e w2 ⟨rfl,hb2⟩;have s0:=(hb2.cell (p:=⟨w.heap.size,0,none⟩) (zcn c0)).trans c0;have s1:=(hb2.cell (p:=⟨w.heap.size,1,none⟩) (zcn c0)).trans c1;have s2:=(hb2.cell (p:=⟨w.heap.size,2,none⟩) (zcn c0)).trans c2;have HB2:=lhd hb2;clear hb2)
      |(go_at_call 97;(with_reducible refine(zm4 k n _ l (lo l (t+1)) _ ?_).mono ?_);(exact SlR.below (w:=w1.drew) HS1.out HB2.out);rintro e w3 ⟨rfl,hb3⟩;have hb23:=zeG HB2.out hb3;have r0:=(hb23.cell (p:=⟨w.heap.size,0,none⟩) (zcn c0)).trans c0;have r1:=(hb23.cell (p:=⟨w.heap.size,1,none⟩) (zcn c0)).trans c1;have r2:=(hb23.cell (p:=⟨w.heap.size,2,none⟩) (zcn c0)).trans c2;have p0':=(hb23.cell (p:=⟨w.heap.size+1,0,none⟩) (zcn p0)).trans p0;have p1':=(hb23.cell (p:=⟨w.heap.size+1,1,none⟩) (zcn p0)).trans p1;have q0':=(hb23.frozen (p:=⟨w.heap.size+1,0,none⟩) (zcn p0)).trans q0;have q1':=(hb23.frozen (p:=⟨w.heap.size+1,1,none⟩) (zcn p0)).trans q1;have HB3:=lhd hb23;clear hb23 hb3))
   go_wp2_with fail;refine bodyPost_ret (v:=.tuple #[.agg #[.int .i64 (chR l (lo l (t+1))).1.1,.string (chR l (lo l (t+1))).1.2],.int .i64 (chR l (lo l (t+1))).2]) (by simp[results,Tryz.results33,go_sem,p0',p1']) rfl ⟨by rw[HR.out],?_⟩;exact((zeG HB0.out.drew HB3.out).setCell (by simp) _).setCell (by simp) _
def zk9 (k n:Int) (l:List Ch) (t:Int):Ch×Int:=if sv k n l=false then((0,⟨#[]⟩),1)else if t<0∨1099511627777<t then((0,⟨#[]⟩),2)else chR l ((lo l t:Int)-1)
theorem zmV (k n:Int) (v:Value) (l:List Ch) (t:Int) (w:World) (hg:Glob w) (hs:SlR w v l.length (chs l)) (hf:Fit l):
 Calls Tryz.prog 34 #[.agg #[.int .i64 k,.int .i64 n,v],.int .i64 t] w (zac (zk9 k n l t) w):=by
 obtain⟨a,cap,rfl,hc,hm⟩:=hs.shape;have hbw:Below w.heap.size w ((w.alloc (.cells #[.int .i64 k,.int .i64 n,.slice a l.length cap] 45)).alloc (.cells #[.int .i64 0,.string ⟨#[]⟩] 53)):=((Below.refl _ _).alloc (Nat.le_refl _) _).alloc (by simp) _;have HV:=lhd (zmY k n _ l _ (hg.below hbw) (hs.below hbw) hf);have HS:=lhd hs;have hln:=hf.1;unfold maxLen at hm;clear hg hs hf hbw;cases hv:sv k n l
 ·have HR:=lhd (show zk9 k n l t=((0,⟨#[]⟩),1)by unfold zk9;rw[if_pos hv]);go_enter Tryz.func34,Tryz.ntmps34;go_wp2_with fail;refine HV.out.mono ?_;rintro e w1 ⟨rfl,hb⟩;have hb0:Below (w.alloc (.cells #[.int .i64 k,.int .i64 n,.slice a l.length cap] 45)).heap.size (w.alloc (.cells #[.int .i64 k,.int .i64 n,.slice a l.length cap] 45)) w1:=zeF hb;obtain⟨c0,c1,c2⟩:=box3 hb0;obtain⟨p0,p1,q0,q1⟩:=zbV hb;rw[hv];clear hv;go_wp2_with fail;refine bodyPost_ret (v:=.tuple #[.agg #[.int .i64 0,.string ⟨#[]⟩],.int .i64 1]) (by simp[results,Tryz.results34,go_sem,p0,p1]) rfl ⟨by rw[HR.out],?_⟩;exact((zeF hb0).setCell (by simp) _).setCell (by simp) _
 ·obtain⟨hst,-,-,-⟩:=zoM hv;by_cases ht:t<0∨1099511627777<t
  ·have HR:=lhd (show zk9 k n l t=((0,⟨#[]⟩),2)by unfold zk9;rw[if_neg (by rw[hv];simp),if_pos ht]);clear hst;go_enter Tryz.func34,Tryz.ntmps34;go_wp2_with fail;refine HV.out.mono ?_;rintro e w1 ⟨rfl,hb⟩;have hb0:Below (w.alloc (.cells #[.int .i64 k,.int .i64 n,.slice a l.length cap] 45)).heap.size (w.alloc (.cells #[.int .i64 k,.int .i64 n,.slice a l.length cap] 45)) w1:=zeF hb;obtain⟨c0,c1,c2⟩:=box3 hb0;obtain⟨p0,p1,q0,q1⟩:=zbV hb;rw[hv];clear hv;rcases ht with ht|ht
   all_goals
    go_wp2_with fail
   all_goals
    refine bodyPost_ret (v:=.tuple #[.agg #[.int .i64 0,.string ⟨#[]⟩],.int .i64 2]) (by simp[results,Tryz.results34,go_sem,p0,p1]) rfl ⟨by rw[HR.out],?_⟩;exact((zeF hb0).setCell (by simp) _).setCell (by simp) _
  ·have HR:=lhd (show zk9 k n l t=chR l ((lo l t:Int)-1)by unfold zk9;rw[if_neg (by rw[hv];simp),if_neg ht]);obtain⟨ht0,ht1⟩:0≤t∧t≤1099511627777:=by omega
   have HST:=lhd hst;clear hst ht;go_enter Tryz.func34,Tryz.ntmps34;go_wp2_with fail;refine HV.out.mono ?_;rintro e w1 ⟨rfl,hb⟩;have hb0:Below (w.alloc (.cells #[.int .i64 k,.int .i64 n,.slice a l.length cap] 45)).heap.size (w.alloc (.cells #[.int .i64 k,.int .i64 n,.slice a l.length cap] 45)) w1:=zeF hb;obtain⟨c0,c1,c2⟩:=box3 hb0;obtain⟨p0,p1,q0,q1⟩:=zbV hb;rw[hv];have HS1:=lhd (HS.out.below (zeF hb0));have HB0:=lhd (zeF hb0);clear hv hb hb0;have hwrap:IntKind.i64.wrap ((lo l t:Int)-1)=(lo l t:Int)-1:=IntWalk.i64_in _ (by have:=zhN l t;omega);go_upto_region 5 with fail
   go_region_held3 (fun w'=>w'.cell? ⟨w.heap.size,0,none⟩=some (.int .i64 k)∧w'.cell? ⟨w.heap.size,1,none⟩=some (.int .i64 n)∧w'.cell? ⟨w.heap.size,2,none⟩=some (.slice a l.length cap)) (first|exact⟨r0,r1,r2⟩|exact⟨s0,s1,s2⟩|go_keep)
    (first
      |(go_at_call 98;(with_reducible refine(zm6 k n _ l t _ ?_ hln HST.out).mono ?_);(exact HS1.out);rintro e w2 ⟨rfl,hb2⟩;have s0:=(hb2.cell (p:=⟨w.heap.size,0,none⟩) (zcn c0)).trans c0;have s1:=(hb2.cell (p:=⟨w.heap.size,1,none⟩) (zcn c0)).trans c1;have s2:=(hb2.cell (p:=⟨w.heap.size,2,none⟩) (zcn c0)).trans c2;have HB2:=lhd hb2;clear hb2)
      |(go_at_call 97;(with_reducible refine(zm4 k n _ l ((lo l t:Int)-1) _ ?_).mono ?_);(exact SlR.below (w:=w1.drew) HS1.out HB2.out);rintro e w3 ⟨rfl,hb3⟩;have hb23:=zeG HB2.out hb3;have r0:=(hb23.cell (p:=⟨w.heap.size,0,none⟩) (zcn c0)).trans c0;have r1:=(hb23.cell (p:=⟨w.heap.size,1,none⟩) (zcn c0)).trans c1;have r2:=(hb23.cell (p:=⟨w.heap.size,2,none⟩) (zcn c0)).trans c2;have p0':=(hb23.cell (p:=⟨w.heap.size+1,0,none⟩) (zcn p0)).trans p0;have p1':=(hb23.cell (p:=⟨w.heap.size+1,1,none⟩) (zcn p0)).trans p1;have q0':=(hb23.frozen (p:=⟨w.heap.size+1,0,none⟩) (zcn p0)).trans q0;have q1':=(hb23.frozen (p:=⟨w.heap.size+1,1,none⟩) (zcn p0)).trans q1;have HB3:=lhd hb23;clear hb23 hb3))
   go_wp2_with fail;refine bodyPost_ret (v:=.tuple #[.agg #[.int .i64 (chR l ((lo l t:Int)-1)).1.1,.string (chR l ((lo l t:Int)-1)).1.2],.int .i64 (chR l ((lo l t:Int)-1)).2]) (by simp[results,Tryz.results34,go_sem,p0',p1']) rfl ⟨by rw[HR.out],?_⟩;exact((zeG HB0.out.drew HB3.out).setCell (by simp) _).setCell (by simp) _
def atR (k n:Int) (l:List Ch) (t:Int):ByteArray×Int:=if sv k n l=false then(⟨#[]⟩,1)else if t<0∨1099511627776<t then(⟨#[]⟩,2)else(zpQ k n l t,0)
theorem zmQ (k n:Int) (v:Value) (l:List Ch) (t:Int) (w:World) (hg:Glob w) (hs:SlR w v l.length (chs l)) (hf:Fit l):
 Calls Tryz.prog 28 #[.agg #[.int .i64 k,.int .i64 n,v],.int .i64 t] w fun e w'=>e=.returned (.tuple #[.string (atR k n l t).1,.int .i64 (atR k n l t).2])∧Below w.heap.size w w':=by
 obtain⟨a,cap,rfl,hc,hm⟩:=hs.shape;have hbw:Below w.heap.size w (w.alloc (.cells #[.int .i64 k,.int .i64 n,.slice a l.length cap] 45)):=(Below.refl _ _).alloc (Nat.le_refl _) _;have HV:=lhd (zmY k n _ l _ (hg.below hbw) (hs.below hbw) hf);have HS:=lhd hs;have hln:=hf.1;unfold maxLen at hm;clear hg hs hf hbw;cases hv:sv k n l
 ·have HR:=lhd (show atR k n l t=(⟨#[]⟩,1)by unfold atR;rw[if_pos hv]);go_enter Tryz.func28,Tryz.ntmps28;go_wp2_with fail;refine HV.out.mono ?_;rintro e w1 ⟨rfl,hb⟩;rw[hv];clear hv;go_wp2_with fail;go_ret2
  exact⟨zlI HR.out.symm,zeF hb⟩
 obtain⟨hst,-,-,-⟩:=zoM hv;by_cases ht:t<0∨1099511627776<t
 ·have HR:=lhd (show atR k n l t=(⟨#[]⟩,2)by unfold atR;rw[if_neg (by rw[hv];simp),if_pos ht]);clear hst;go_enter Tryz.func28,Tryz.ntmps28;go_wp2_with fail;refine HV.out.mono ?_;rintro e w1 ⟨rfl,hb⟩;rw[hv];clear hv;rcases ht with ht|ht
  all_goals
   go_wp2_with fail
  all_goals
   go_ret2
   exact⟨zlI HR.out.symm,zeF hb⟩
 ·have HR:=lhd (show atR k n l t=(zpQ k n l t,0)by unfold atR;rw[if_neg (by rw[hv];simp),if_neg ht]);obtain⟨ht0,ht1⟩:0≤t∧t≤1099511627776:=by omega
  have HST:=lhd hst;clear hst ht;go_enter Tryz.func28,Tryz.ntmps28;go_wp2_with fail;refine HV.out.mono ?_;rintro e w1 ⟨rfl,hb⟩;obtain⟨c0,c1,c2⟩:=box3 hb;rw[hv];have HS1:=lhd (HS.out.below (zeF hb));clear hv;go_wp2_with fail;refine(zm0 k n _ l t _ HS1.out hln HST.out (by omega) (by omega)).mono ?_;rintro e w2 ⟨rfl,hb2⟩;go_wp2_with fail;go_ret2
  exact⟨zlI HR.out.symm,zeG (zeF hb) hb2⟩
theorem zcv:(Tryz.prog.info? 53).map (fun i=>(i.zero,i.size,i.bytes))=some (some (.agg #[.int .i64 0,.string ⟨#[]⟩]),2,24):=by kernel_rfl
theorem zcM (l:List Ch):∀u∈chs l,u.oneCell'=true:=by
 induction l with
 |nil=>intro u hu;simp[chs]at hu
 |cons c l ih=>
  intro u hu;rw[zcI]at hu;rcases List.mem_cons.1 hu with rfl|hu
  ·rfl
  rcases List.mem_cons.1 hu with rfl|hu
  ·rfl
  ·exact ih u hu
theorem SlR.news {w:World} {ad:Addr} {n cap:Nat} {xs:List Value} (h:SlR w (.slice (some ad) n cap) n xs) (hx:n=0→xs=[]):∀j u,xs[j]? =some u→w.cell? (ad.add j)=some u:=by
 intro j u hj;rcases Nat.eq_zero_or_pos n with h0|h0
 ·rw[hx h0]at hj;simp at hj
 ·obtain⟨b,o,cap',hv,-,-,hc⟩:=h.at h0;injection hv with e1 _ _;injection e1 with e1;subst e1;rw[zaJ];exact hc j u hj
theorem zcL (l:List Ch) (h:l.length=0):chs l=[]:=by rw[List.length_eq_zero_iff.1 h];rfl
theorem zcQ (v:Value) (l:List Ch) (w:World) (hs:SlR w v l.length (chs l)) (hn:l.length≤1000000):
 Calls Tryz.prog 99 #[v] w fun e w'=>∃v',e=.returned v'∧w'.ownsRow w.heap.size 53 2 v' l.length (chs l)∧Below w.heap.size w w':=by
 obtain⟨a,cap,rfl,hc,hm,hz,hat⟩:=hs;have hs:SlR w (.slice a l.length cap) l.length (chs l):=⟨a,cap,rfl,hc,hm,hz,hat⟩;cases a with
 |none=>
  have hcap:=hz rfl;subst hcap;have hq:=Lib.run_eql_slice_nil (P:=Tryz.prog) w 43 53 none l.length 0 0 0 Tryz.underlying43;have h0:l.length=0:=by omega
  have HL:=lhd (zcL l h0);have H0:=lhd h0;clear hs hz hat h0;go_enter Tryz.func99,Tryz.ntmps99;go_wp2_with fail;go_ret;exact⟨_,rfl,by rw[HL.out,H0.out];exact World.ownsRow_nil _ _ _ _,Below.refl _ _⟩
 |some ad=>
  have hq:=Lib.run_eql_slice_nil (P:=Tryz.prog) w 43 53 (some ad) l.length cap 0 0 Tryz.underlying43;obtain⟨i0,hi,iz0,iz1,iz2⟩:=info_parts (P:=Tryz.prog) zcv;have hbw:Below w.heap.size w (w.alloc (.cells #[] 53)):=(Below.refl _ _).alloc (Nat.le_refl _) _;have HN:=lhd ((hs.below hbw).news (zcL l));have hown:(w.alloc (.cells #[] 53)).ownsRow w.heap.size 53 2 (.slice (some ⟨w.heap.size,0,none⟩) 0 0) 0 []:=World.ownsRow_lit w #[] 0 (Nat.le_refl _) (by simp[maxLen]) (by simp);have HOWN:=lhd hown;clear hs hz hat hbw hown;go_enter Tryz.func99,Tryz.ntmps99;go_wp2_with (at_builtin;refine wpList_append_own _ rfl _ _ 43 rfl w.heap.size 53 i0 (.agg #[.int .i64 0,.string ⟨#[]⟩]) 2 24 Tryz.underlying43 hi iz0 iz1 iz2 rfl (by decide) _ _ _ rfl HOWN.out ad l.length cap (chs l) rfl (by rw[zcK];omega) HN.out (zcM l) (by unfold maxLen;omega) (by omega) (by simp) ?_)
  intro v' w' ho hg _;have HO:=lhd ho;have HG:=lhd hg;clear ho hg;go_wp2_with fail;go_ret;exact⟨_,rfl,by have:=HO.out;simpa using this,((Below.refl _ _).alloc (Nat.le_refl _) _).grown HG.out (by simp) (by intro k hk;simp[Value.ownBlock]at hk;omega)⟩
def ziS (k:Int) (v:ByteArray):List Ch→List Ch
 | []=> []
 |c::l=>if(∃d∈l.head?,d.1=c.1)∨(k≠3∧c.2=v)then ziS k v l else c::ziS k c.2 l
def zi2 (k n:Int) (l:List Ch):List Ch:=ziS k (vi k n) l
theorem ziV (k:Int):∀(l:List Ch) (v:ByteArray),(ziS k v l).length≤l.length
 | [],_=>Nat.le_refl _
 |c::l,v=>by
  unfold ziS;split
  ·have:=ziV k l v;simp;omega
  ·have:=ziV k l c.2;simp;omega
theorem zix (j:Nat) (h:j≤1000000000):IntKind.i64.wrap ((j:Int)+1)=(j:Int)+1:=IntWalk.i64_in _ (by omega)
theorem zfK (w:World) (o o':Obj):((w.alloc o).alloc o').heap[w.heap.size+1]? =some o':=by
 have:=heap_alloc_new (w.alloc o) o';rwa [World.size_alloc]at this
theorem zm9 (k n:Int) (v:Value) (l:List Ch) (w:World) (hs:SlR w v l.length (chs l)) (hl:l.length≤1000000):
 Calls Tryz.prog 143 #[.int .i64 k,.int .i64 n,v] w fun e w'=>∃v',e=.returned v'∧w'.ownsRow w.heap.size 53 2 v' (zi2 k n l).length (chs (zi2 k n l))∧Below w.heap.size w w':=by
 obtain⟨a,cap,rfl,hc,hm⟩:=hs.shape;have HS:=lhd hs;unfold maxLen at hm;obtain⟨i0,hi,iz0,iz1,iz2⟩:=info_parts (P:=Tryz.prog) zcv;clear hs;go_enter Tryz.func143,Tryz.ntmps143;go_wp2_with fail;refine(zpT k n _).mono ?_;rintro e w1 ⟨rfl,hb⟩;have HB:=lhd hb;clear hb;go_wp2_with fail
 go_loopw [7,8,9,16] (fun o_ v_ _ i wr=>∃(j:Nat) (v:ByteArray) (out:List Ch),j≤l.length∧i=.int .i64 j∧v_=.string v∧out.length≤j∧out++ziS k v (l.drop j)=zi2 k n l∧wr.ownsRow w.heap.size 53 2 o_ out.length (chs out)∧Below w.heap.size w wr)
  (fun _ _ _ i _=>l.length-(intOf i).toNat)
 case atStart=>exact⟨0,vi k n,[],Nat.zero_le _,rfl,rfl,Nat.le_refl _,rfl,World.ownsRow_nil _ _ _ _,HB.out⟩
 case round=>
  obtain⟨j,v,out,hj,rfl,rfl,hol,hn,ho,hb⟩:=hrel;obtain⟨ao,co,rfl,hco,hmo⟩:=(SlR.of_own ho).shape;have hsz:=hb.size;have HO:=lhd ho;have HB2:=lhd hb;have HN:=lhd hn;clear ho hb hn HB;by_cases hlt:j<l.length
  ·obtain⟨b,o,rfl,d0,d1⟩:=(HS.out.below HB2.out).ch hlt;have hblt:=zcn d0
   have HN2:Hid (out++(if(∃d∈(l.drop (j+1)).head?,d.1=l[j].1)∨(k≠3∧l[j].2=v)then ziS k v (l.drop (j+1))else l[j]::ziS k l[j].2 (l.drop (j+1)))=zi2 k n l):=lhd (by
    have:=HN.out;rw[List.drop_eq_getElem_cons hlt,ziS]at this;exact this)
   have hw1:=zix j (by omega);have hw2:(0:Int)≤(j:Int)+1:=by omega
   have hw3:((j:Int)+1).toNat=j+1:=by omega
   by_cases hnx:j+1<l.length
   ·obtain⟨b',o',he,x0,-⟩:=(HS.out.below HB2.out).ch hnx;injection he with he;injection he with he1 he2 _;subst he1 he2;have HH:Hid ((l.drop (j+1)).head? =some l[j+1]):=lhd (by rw[List.head?_drop,List.getElem?_eq_getElem hnx]);generalize hc0:l[j]=c at d0 d1 HN2;generalize l[j+1]=d at x0 HH;obtain⟨t,s⟩:=c;obtain⟨t',s'⟩:=d;simp only at d0 d1 x0;clear hc0;have hnx':decide ((j:Int)+1<(l.length:Int))=true:=by simp;omega
    by_cases hsame:t'=t
    ·have HNS:Hid (out++ziS k v (l.drop (j+1))=zi2 k n l):=lhd (by
      rw[←HN2.out,if_pos (.inl ⟨(t',s'),by rw[HH.out];rfl,hsame⟩)])
     have hsb:((t':Int)==t)=true:=by rw[beq_iff_eq];exact hsame
     clear hsame;go_wp2_with fail;go_quiet (fail);go_wp2_with fail;go_roundw;case rel=>exact⟨j+1,v,out,by omega,by go_num,rfl,by omega,HNS.out,HO.out.alloc _,zbz (HB2.out.alloc hsz _) _⟩
     case measure=>simp[intOf];omega
    ·have hnh:¬ ∃d∈(l.drop (j+1)).head?,d.1=t:=by rw[HH.out];rintro⟨d,hd,he⟩;obtain rfl:=Option.some.inj hd;exact hsame he
     have hsb:((t':Int)==t)=false:=by rw[beq_eq_false_iff_ne];exact hsame
     have HNH:=lhd hnh;clear hsame hnh;by_cases hk3:k=3
     ·have HNS:Hid ((out++ [(t,s)])++ziS k s (l.drop (j+1))=zi2 k n l):=lhd (by
       rw[←HN2.out,if_neg (fun h=>h.elim (fun h=>HNH.out h) (fun h=>h.1 hk3))];simp)
      have hkb:(k !=3)=false:=by rw[bne_eq_false_iff_eq];exact hk3
      clear hk3;have hnb:some wr.heap.size≠(Value.slice ao out.length co).ownBlock:=fun e=>by have:=HO.out.lt _ e.symm;omega
      go_wp2_with fail;go_quiet (fail);go_wp2_with fail
      go_region_held3 (fun w'=>w'.cell? ⟨wr.heap.size,0,none⟩=some (.int .i64 t)∧w'.cell? ⟨wr.heap.size,1,none⟩=some (.string s))
       (first
         |go_keep
         |(go_split_ands
           refine⟨?_,?_⟩
           ·(rw[hgrow.cell_far _ (by simp;omega) hnb];assumption)
           ·(rw[hgrow.cell_far _ (by simp;omega) hnb];assumption)))
       ((refine step_append_lies _ (by rfl) _ _ _ (by rfl) w.heap.size 53 i0 _ 2 24 Tryz.underlying43 hi iz0 iz1 iz2 rfl (by omega) (.slice ao out.length co) out.length (chs out) (by rfl) (by exact(HO.out.alloc _).alloc _)
          ⟨wr.heap.size+1,0,none⟩ 1 1 [.int .i64 t,.string s] (by rfl) (by rfl) (World.news_of_block (cs:=#[.int .i64 t,.string s]) (t:=53) (fr:=(0,0)) (by exact zfK wr _ _)) (by simp[Value.oneCell'])
          (by omega) (by unfold maxLen;omega) (by omega) (by simp;omega) (wr.heap.size+1+1) (by simp) ?_;intro gg cap9 w9 hown1 hgrow hat hlt9))
      go_wp2_with fail;go_roundw;case rel=>exact⟨j+1,s,out++ [(t,s)],by omega,by go_num,rfl,by simp;omega,HNS.out,by rw[zcG];simpa[chs,encC] using hown1,Below.grown (zbz ((HB2.out.alloc hsz _).alloc (by simp;omega) _) _) hgrow (by simp;omega) (fun q hq=>(HO.out.lt q hq).1)⟩
      case measure=>simp[intOf];omega
     ·have hkb:(k !=3)=true:=by rw[bne_iff_ne];exact hk3
      by_cases hsv:s=v
      ·have HNS:Hid (out++ziS k v (l.drop (j+1))=zi2 k n l):=lhd (by
        rw[←HN2.out,if_pos (.inr ⟨hk3,hsv⟩)])
       subst hsv;clear hk3;go_wp2_with fail;go_quiet (fail);go_wp2_with fail;go_roundw;case rel=>exact⟨j+1,s,out,by omega,by go_num,rfl,by omega,HNS.out,HO.out.alloc _,zbz (HB2.out.alloc hsz _) _⟩
       case measure=>simp[intOf];omega
      ·have HNS:Hid ((out++ [(t,s)])++ziS k s (l.drop (j+1))=zi2 k n l):=lhd (by
        rw[←HN2.out,if_neg (fun h=>h.elim (fun h=>HNH.out h) (fun h=>hsv h.2))];simp)
       have hsb:=zbo hsv;clear hk3 hsv;have hnb:some wr.heap.size≠(Value.slice ao out.length co).ownBlock:=fun e=>by have:=HO.out.lt _ e.symm;omega
       go_wp2_with fail;go_quiet (fail);go_wp2_with fail
       go_region_held3 (fun w'=>w'.cell? ⟨wr.heap.size,0,none⟩=some (.int .i64 t)∧w'.cell? ⟨wr.heap.size,1,none⟩=some (.string s))
        (first
          |go_keep
          |(go_split_ands
            refine⟨?_,?_⟩
            ·(rw[hgrow.cell_far _ (by simp;omega) hnb];assumption)
            ·(rw[hgrow.cell_far _ (by simp;omega) hnb];assumption)))
        ((refine step_append_lies _ (by rfl) _ _ _ (by rfl) w.heap.size 53 i0 _ 2 24 Tryz.underlying43 hi iz0 iz1 iz2 rfl (by omega) (.slice ao out.length co) out.length (chs out) (by rfl) (by exact(HO.out.alloc _).alloc _)
           ⟨wr.heap.size+1,0,none⟩ 1 1 [.int .i64 t,.string s] (by rfl) (by rfl) (World.news_of_block (cs:=#[.int .i64 t,.string s]) (t:=53) (fr:=(0,0)) (by exact zfK wr _ _)) (by simp[Value.oneCell'])
           (by omega) (by unfold maxLen;omega) (by omega) (by simp;omega) (wr.heap.size+1+1) (by simp) ?_;intro gg cap9 w9 hown1 hgrow hat hlt9))
       go_wp2_with fail;go_roundw;case rel=>exact⟨j+1,s,out++ [(t,s)],by omega,by go_num,rfl,by simp;omega,HNS.out,by rw[zcG];simpa[chs,encC] using hown1,Below.grown (zbz ((HB2.out.alloc hsz _).alloc (by simp;omega) _) _) hgrow (by simp;omega) (fun q hq=>(HO.out.lt q hq).1)⟩
       case measure=>simp[intOf];omega
   ·have hnh:¬ ∃d∈(l.drop (j+1)).head?,d.1=l[j].1:=by rw[List.drop_eq_nil_of_le (by omega)];rintro⟨d,hd,-⟩;cases hd
    generalize hc0:l[j]=c at d0 d1 HN2 hnh;obtain⟨t,s⟩:=c;simp only at d0 d1;have HNH:=lhd hnh;have hnx':decide ((j:Int)+1<(l.length:Int))=false:=by simp;omega
    clear hc0 hnh hnx;by_cases hk3:k=3
    ·have HNS:Hid ((out++ [(t,s)])++ziS k s (l.drop (j+1))=zi2 k n l):=lhd (by
      rw[←HN2.out,if_neg (fun h=>h.elim (fun h=>HNH.out h) (fun h=>h.1 hk3))];simp)
     have hkb:(k !=3)=false:=by rw[bne_eq_false_iff_eq];exact hk3
     clear hk3;have hnb:some wr.heap.size≠(Value.slice ao out.length co).ownBlock:=fun e=>by have:=HO.out.lt _ e.symm;omega
     go_wp2_with fail;go_quiet (fail);go_wp2_with fail
     go_region_held3 (fun w'=>w'.cell? ⟨wr.heap.size,0,none⟩=some (.int .i64 t)∧w'.cell? ⟨wr.heap.size,1,none⟩=some (.string s))
      (first
        |go_keep
        |(go_split_ands
          refine⟨?_,?_⟩
          ·(rw[hgrow.cell_far _ (by simp;omega) hnb];assumption)
          ·(rw[hgrow.cell_far _ (by simp;omega) hnb];assumption)))
      ((refine step_append_lies _ (by rfl) _ _ _ (by rfl) w.heap.size 53 i0 _ 2 24 Tryz.underlying43 hi iz0 iz1 iz2 rfl (by omega) (.slice ao out.length co) out.length (chs out) (by rfl) (by exact(HO.out.alloc _).alloc _)
         ⟨wr.heap.size+1,0,none⟩ 1 1 [.int .i64 t,.string s] (by rfl) (by rfl) (World.news_of_block (cs:=#[.int .i64 t,.string s]) (t:=53) (fr:=(0,0)) (by exact zfK wr _ _)) (by simp[Value.oneCell'])
         (by omega) (by unfold maxLen;omega) (by omega) (by simp;omega) (wr.heap.size+1+1) (by simp) ?_;intro gg cap9 w9 hown1 hgrow hat hlt9))
     go_wp2_with fail;go_roundw;case rel=>exact⟨j+1,s,out++ [(t,s)],by omega,by go_num,rfl,by simp;omega,HNS.out,by rw[zcG];simpa[chs,encC] using hown1,Below.grown (zbz ((HB2.out.alloc hsz _).alloc (by simp;omega) _) _) hgrow (by simp;omega) (fun q hq=>(HO.out.lt q hq).1)⟩
     case measure=>simp[intOf];omega
    ·have hkb:(k !=3)=true:=by rw[bne_iff_ne];exact hk3
     by_cases hsv:s=v
     ·have HNS:Hid (out++ziS k v (l.drop (j+1))=zi2 k n l):=lhd (by
       rw[←HN2.out,if_pos (.inr ⟨hk3,hsv⟩)])
      subst hsv;clear hk3;go_wp2_with fail;go_quiet (fail);go_wp2_with fail;go_roundw;case rel=>exact⟨j+1,s,out,by omega,by go_num,rfl,by omega,HNS.out,HO.out.alloc _,zbz (HB2.out.alloc hsz _) _⟩
      case measure=>simp[intOf];omega
     ·have HNS:Hid ((out++ [(t,s)])++ziS k s (l.drop (j+1))=zi2 k n l):=lhd (by
       rw[←HN2.out,if_neg (fun h=>h.elim (fun h=>HNH.out h) (fun h=>hsv h.2))];simp)
      have hsb:=zbo hsv;clear hk3 hsv;have hnb:some wr.heap.size≠(Value.slice ao out.length co).ownBlock:=fun e=>by have:=HO.out.lt _ e.symm;omega
      go_wp2_with fail;go_quiet (fail);go_wp2_with fail
      go_region_held3 (fun w'=>w'.cell? ⟨wr.heap.size,0,none⟩=some (.int .i64 t)∧w'.cell? ⟨wr.heap.size,1,none⟩=some (.string s))
       (first
         |go_keep
         |(go_split_ands
           refine⟨?_,?_⟩
           ·(rw[hgrow.cell_far _ (by simp;omega) hnb];assumption)
           ·(rw[hgrow.cell_far _ (by simp;omega) hnb];assumption)))
       ((refine step_append_lies _ (by rfl) _ _ _ (by rfl) w.heap.size 53 i0 _ 2 24 Tryz.underlying43 hi iz0 iz1 iz2 rfl (by omega) (.slice ao out.length co) out.length (chs out) (by rfl) (by exact(HO.out.alloc _).alloc _)
          ⟨wr.heap.size+1,0,none⟩ 1 1 [.int .i64 t,.string s] (by rfl) (by rfl) (World.news_of_block (cs:=#[.int .i64 t,.string s]) (t:=53) (fr:=(0,0)) (by exact zfK wr _ _)) (by simp[Value.oneCell'])
          (by omega) (by unfold maxLen;omega) (by omega) (by simp;omega) (wr.heap.size+1+1) (by simp) ?_;intro gg cap9 w9 hown1 hgrow hat hlt9))
      go_wp2_with fail;go_roundw;case rel=>exact⟨j+1,s,out++ [(t,s)],by omega,by go_num,rfl,by simp;omega,HNS.out,by rw[zcG];simpa[chs,encC] using hown1,Below.grown (zbz ((HB2.out.alloc hsz _).alloc (by simp;omega) _) _) hgrow (by simp;omega) (fun q hq=>(HO.out.lt q hq).1)⟩
      case measure=>simp[intOf];omega
  ·obtain rfl:j=l.length:=by omega
   have HE:=lhd (show out=zi2 k n l by have:=HN.out;rw[List.drop_length]at this;simpa[ziS] using this);go_wp2_with fail;go_ret;exact⟨_,rfl,by rw[←HE.out];exact HO.out,HB2.out⟩
theorem zrs {P:Program} (w:World) {o:Oper} {a:Act} {K:Act→World→Prop} {Q:Exit→Act→World→Prop} (s x:Operand) (t:TypeId)
 (ho:o.op=.call {callee:=.builtin .append,args:=#[s,x],argTypes:=#[t,t]})
 (base:Nat) (e:TypeId) (i:TypeInfo) (z:Value) (size bytes:Nat) (ht:P.underlying t=some (.slice e)) (hi:P.info? e=some i) (hz:i.zero=some z)
 (hsize:i.size=size) (hby:i.bytes=bytes) (hzs:z.cells.size=size) (hsz:0<size)
 (v:Value) (n:Nat) (xs:List Value) (hs:a.eval s=v) (hown:w.ownsRow base e size v n xs)
 (ad:Option Addr) (m c:Nat) (news:List Value) (hx:a.eval x=.slice ad m c) (hsl:SlR w (.slice ad m c) m news) (hl:news.length=m*size) (h1:∀u∈news,u.oneCell'=true)
 (h63:n+m≤maxLen) (hbytes:(n+m)*bytes≤140737488355328) (hbase:base≤w.heap.size)
 (h:∀a' c' w',w'.ownsRow base e size (.slice a' (n+m) c') (n+m) (xs++news)→w.grownBy w' v.ownBlock→K (a.put o.dst (.slice a' (n+m) c')) w'):o.wp P a w K Q:=by
 have h':∀v' w',w'.ownsRow base e size v' (n+m) (xs++news)→w.grownBy w' v.ownBlock→K (a.put o.dst v') w':=fun v' w' h2 h3=>by
  obtain⟨a',c',rfl,-,-⟩:=(SlR.of_own h2).shape;exact h a' c' w' h2 h3
 cases ad with
 |none=>
  obtain⟨a',cap',hv,hc1,hc2,hc3,-⟩:=hsl;injection hv with e1 _ e3;have h0:=hc3 e1.symm;have hm:m=0:=by omega
  have hc:c=0:=by omega
  subst hm hc;have hn:news=[]:=List.length_eq_zero_iff.1 (by omega);subst hn;have hrun:=run_append_owned_none (P:=P) (w:=w) base t o.type e i size ht hi v n xs hown;unfold Oper.wp;simp[execOp,ho,resolve,invoke,builtin,hs,hx,hrun,Result.andThen];exact h' v w (by simpa using hown) (World.grownBy.refl _ _)
 |some ad=>
  exact wp_append_own w s x t ho base e i z size bytes ht hi hz hsize hby hzs hsz v n xs hs hown ad m c news hx hl
   (hsl.news (fun h0=>by subst h0;exact List.length_eq_zero_iff.1 (by omega))) h1 h63 hbytes hbase (fun v' w' h2 h3 _=>h' v' w' h2 h3)
theorem zom {P:Program} (w:World) {ops:Array Oper} {o:Oper} {a:Act} {K:Act→World→Prop} {Q:Exit→Act→World→Prop} {E:Prop} (hgd:o.guard=none) (s x:Operand) (t:TypeId)
 (ho:o.op=.call {callee:=.builtin .append,args:=#[s,x],argTypes:=#[t,t]})
 (base:Nat) (e:TypeId) (i:TypeInfo) (z:Value) (size bytes:Nat) (ht:P.underlying t=some (.slice e)) (hi:P.info? e=some i) (hz:i.zero=some z)
 (hsize:i.size=size) (hby:i.bytes=bytes) (hzs:z.cells.size=size) (hsz:0<size)
 (v:Value) (n:Nat) (xs:List Value) (hs:a.eval s=v) (hown:w.ownsRow base e size v n xs)
 (ad:Option Addr) (m c:Nat) (news:List Value) (hx:a.eval x=.slice ad m c) (hsl:SlR w (.slice ad m c) m news) (hl:news.length=m*size) (h1:∀u∈news,u.oneCell'=true)
 (h63:n+m≤maxLen) (hbytes:(n+m)*bytes≤140737488355328) (hbase:base≤w.heap.size)
 (h:∀a' c' w',w'.ownsRow base e size (.slice a' (n+m) c') (n+m) (xs++news)→w.grownBy w' v.ownBlock→K (a.put o.dst (.slice a' (n+m) c')) w'):
 if Region.wanted o (yielded ops a.tmps)=true then Oper.wp P o a w K Q else E:=by
 have hw:Region.wanted o (yielded ops a.tmps)=true:=by simp[Region.wanted,hgd]
 rw[if_pos hw];exact zrs w s x t ho base e i z size bytes ht hi hz hsize hby hzs hsz v n xs hs hown ad m c news hx hsl hl h1 h63 hbytes hbase h
theorem zcJ (l:List Ch) (i j:Nat) (hij:i≤j):chs l=chs (l.take i)++(chs ((l.take j).drop i)++chs (l.drop j)):=by
 rw[←zcG,←zcG];congr 1
 have h3:l.take i=(l.take j).take i:=by rw[List.take_take,Nat.min_eq_left hij]
 rw[h3,←List.append_assoc,List.take_append_drop,List.take_append_drop]
theorem SlR.sub {w:World} {a:Option Addr} {cap:Nat} {l:List Ch} (h:SlR w (.slice a l.length cap) l.length (chs l)) (i j:Nat) (hij:i≤j) (hj:j≤l.length):
 SlR w (.slice (if cap=i then a else a.map (·.add (i*2))) ((l.take j).drop i).length (cap-i)) ((l.take j).drop i).length (chs ((l.take j).drop i)):=by
 obtain⟨a',cap',hv,h1,h2,h3,h4⟩:=h;injection hv with e1 _ e3;subst e1 e3;have hl:((l.take j).drop i).length=j-i:=by simp;omega
 refine⟨_,_,rfl,by omega,by omega,fun h=>?_,fun hn=>?_⟩
 ·by_cases hc:cap=i
  ·omega
  ·rw[if_neg hc]at h;have:=h3 (by simpa using h);omega
 ·obtain⟨b,o,rfl,hc⟩:=h4 (by omega);refine⟨b,o+i*2,by rw[if_neg (by omega)];show some ((⟨b,o,none⟩:Addr).add (i*2))=_;rw[zaJ],fun x u hx=>?_⟩;have hx':=(List.getElem?_eq_some_iff.1 hx).1;have h5:(chs (l.take i)).length=i*2:=by rw[zcK];simp;omega
  have:=hc (i*2+x) u (by
   rw[zcJ l i j hij,List.getElem?_append_right (by omega),h5,Nat.add_sub_cancel_left,List.getElem?_append_left hx'];exact hx)
  rwa [←Nat.add_assoc]at this
theorem SlR.rest {w:World} {a:Option Addr} {cap:Nat} {l:List Ch} (h:SlR w (.slice a l.length cap) l.length (chs l)) (i:Nat) (hi:i≤l.length):
 SlR w (.slice (if cap=i then a else a.map (·.add (i*2))) (l.length-i) (cap-i)) (l.length-i) (chs (l.drop i)):=by
 have:=h.sub i l.length hi (Nat.le_refl _);rw[List.take_length,List.length_drop]at this;exact this
theorem zct (w:World):(Go.sizeOf 53).run Tryz.prog w=.ok 2 w:=by kernel_rfl
theorem znm (a:Option Addr) (cap:Nat) (l:List Ch) (i:Nat) (hi:i≤l.length):
 ∃ad c,(∀w,(Instr.slice 43 (.slice a l.length cap) (some (.int .i64 (i:Int))) none none).run Tryz.prog w=.ok (.slice ad (l.drop i).length c) w)∧
  ∀W,SlR W (.slice a l.length cap) l.length (chs l)→SlR W (.slice ad (l.drop i).length c) (l.drop i).length (chs (l.drop i)):=by
 refine⟨if cap=i then a else a.map (·.add (i*2)),cap-i,fun w=>?_,fun W h=>?_⟩
 ·have ht:Tryz.prog.underlying 43=some (.slice 53):=Tryz.underlying43;have ht':Tryz.prog.underlying 43=some (.slice (Tryz.prog.elem 43)):=by simp[Program.elem,ht]
  have he:Tryz.prog.elem 43=53:=by simp[Program.elem,ht]
  rw[run_slice_l w 43 a l.length cap ht' .i64 _ (by omega) (by omega),he,zct];simp only[Result.andThen,sliced,List.length_drop,Int.toNat_natCast]
 ·have:=h.sub i l.length hi (Nat.le_refl _);rw[List.take_length]at this;exact this
def fewV (l:List Ch):Bool:=l.all fun c=>decide (c.2.size≤200)
def few (l:List Ch) (n:Int):Bool:=fewV l&&decide ((l.length:Int)≤n)
theorem zlr (v:Value) (l:List Ch) (n:Int) (w:World) (hs:SlR w v l.length (chs l)):
 Calls Tryz.prog 51 #[v,.int .i64 n] w fun e w'=>e=.returned (.bool (few l n))∧w'=w:=by
 obtain⟨a,cap,rfl,hc,hm⟩:=hs.shape;unfold maxLen at hm;have HS:=lhd hs;clear hs;go_enter Tryz.func51,Tryz.ntmps51;go_wp2_with fail
 go_loopw [5] (fun i wr=>∃(j:Nat),j≤l.length∧i=.int .i64 j∧fewV (l.drop j)=fewV l∧wr=w)
  (fun i _=>l.length-(intOf i).toNat)
 case atStart=>exact⟨0,Nat.zero_le _,rfl,rfl,rfl⟩
 case round=>
  obtain⟨j,hj,rfl,hgo,rfl⟩:=hrel;have HGO:=lhd hgo;clear hgo;by_cases hlt:j<l.length
  ·obtain⟨b,o,rfl,d0,d1⟩:=HS.out.ch hlt
   have HGO2:Hid ((decide (l[j].2.size≤200)&&fewV (l.drop (j+1)))=fewV l):=lhd (by
    have:=HGO.out;rw[List.drop_eq_getElem_cons hlt,fewV,List.all_cons]at this;exact this)
   generalize l[j]=c at d0 d1 HGO2;obtain⟨t,s⟩:=c;simp only at d0 d1;by_cases hA:s.size≤200
   ·have HGO3:Hid (fewV (l.drop (j+1))=fewV l):=lhd (by rw[←HGO2.out];simp[hA]);have hw:IntKind.i64.wrap ((j:Int)+1)=(j:Int)+1:=IntWalk.i64_in _ (by omega);go_wp2_with fail;go_roundw;case rel=>exact⟨j+1,by omega,by go_num,HGO3.out,trivial⟩
    case measure=>simp[intOf];omega
   ·have e:fewV l=false:=by rw[←HGO2.out];simp[hA]
    have E2:=lhd (show few l n=false by simp[few,e]);clear e;have hA':200<s.size:=by omega
    clear hA;go_wp2_with fail;go_ret;exact⟨zlE E2.out.symm,rfl⟩
  ·have e:fewV l=true:=by rw[←HGO.out,List.drop_eq_nil_iff.2 (by omega)];rfl
   have E2:=lhd (show few l n=decide ((l.length:Int)≤n)by simp[few,e]);have hj':l.length=j:=by omega
   subst hj';clear e hlt;go_wp2_with fail;go_ret;exact⟨zlE E2.out.symm,rfl⟩
def zlY (l m:List Ch):Bool:=decide (l=m)
theorem zlt (v u:Value) (l m:List Ch) (w:World) (hs:SlR w v l.length (chs l)) (ht:SlR w u m.length (chs m)):
 Calls Tryz.prog 35 #[v,u] w fun e w'=>e=.returned (.bool (zlY l m))∧Below w.heap.size w w':=by
 obtain⟨a,cap,rfl,hc,hm⟩:=hs.shape;obtain⟨a2,cap2,rfl,hc2,hm2⟩:=ht.shape;unfold maxLen at hm hm2;have HS:=lhd hs;have HT:=lhd ht;clear hs ht;by_cases hne:l.length≠m.length
 ·have E:=lhd (show zlY l m=false by unfold zlY;rw[decide_eq_false_iff_not];intro h;exact hne (by rw[h]));have hb:((l.length:Int) !=(m.length:Int))=true:=by rw[bne_iff_ne];omega
  clear hne;go_enter Tryz.func35,Tryz.ntmps35;go_wp2_with fail;go_ret;exact⟨zlE E.out.symm,Below.refl _ _⟩
 have hlen:l.length=m.length:=by omega
 have E:=lhd (show zlY l m=decide (l=m)from rfl);have hb:((l.length:Int) !=(m.length:Int))=false:=by rw[hlen];simp
 clear hne;go_enter Tryz.func35,Tryz.ntmps35;go_wp2_with fail
 go_loopw [5] (fun i wr=>∃(j:Nat),j≤l.length∧i=.int .i64 j∧l.take j=m.take j∧Below w.heap.size w wr)
  (fun i _=>l.length-(intOf i).toNat)
 case atStart=>exact⟨0,Nat.zero_le _,rfl,rfl,Below.refl _ _⟩
 case round=>
  obtain⟨j,hj,rfl,hgo,hbw⟩:=hrel;have HGO:=lhd hgo;have HB:=lhd hbw;clear hgo hbw;by_cases hlt:j<l.length
  ·obtain⟨b,o,rfl,d0,d1⟩:=(HS.out.below HB.out).ch hlt;obtain⟨b2,o2,rfl,g0,g1⟩:=(HT.out.below HB.out).ch (show j<m.length by omega);have hlt2:j<m.length:=by omega
   have q1:(0:Int)≤(j:Int):=by omega
   have q2:(j:Int)<(l.length:Int):=by omega
   have q3:(j:Int)<(m.length:Int):=by omega
   have hw:IntKind.i64.wrap ((j:Int)+1)=(j:Int)+1:=IntWalk.i64_in _ (by omega);by_cases he:l[j]=m[j]
   ·have HGO2:Hid (l.take (j+1)=m.take (j+1)):=lhd (by rw[List.take_succ_eq_append_getElem hlt,List.take_succ_eq_append_getElem hlt2,HGO.out,he]);rw[←he]at g0 g1;generalize l[j]=c at d0 d1 g0 g1;clear he;obtain⟨t,s⟩:=c;simp only at d0 d1 g0 g1;go_wp2_with fail;go_quiet (fail);go_wp2_with fail;go_roundw;case rel=>exact⟨j+1,by omega,by go_num,HGO2.out,zbz HB.out _⟩
    case measure=>simp[intOf];omega
   ·have E2:=lhd (show zlY l m=false by unfold zlY;rw[decide_eq_false_iff_not];intro h;subst h;exact he rfl);have hne:¬(l[j].1=m[j].1∧l[j].2=m[j].2):=fun h=>he (Prod.ext h.1 h.2);generalize l[j]=c at d0 d1 hne;generalize m[j]=c' at g0 g1 hne;clear he;obtain⟨t,s⟩:=c;obtain⟨t',s'⟩:=c';simp only at d0 d1 g0 g1 hne;by_cases htt:t=t'
    ·subst htt;have hss:=zbo (fun h=>hne ⟨rfl,h⟩:s≠s');clear hne;go_wp2_with fail;go_quiet (fail);go_wp2_with fail;go_ret;exact⟨zlE E2.out.symm,zbz HB.out _⟩
    ·have htb:(t==t')=false:=by rw[beq_eq_false_iff_ne];exact htt
     clear hne;go_wp2_with fail;go_quiet (fail);go_wp2_with fail;go_ret;exact⟨zlE E2.out.symm,zbz HB.out _⟩
  ·have hj':j=l.length:=by omega
   subst hj';have E2:=lhd (show zlY l m=true by unfold zlY;rw[decide_eq_true_iff];have:=HGO.out;rwa [List.take_length,hlen,List.take_length]at this);clear hlt;go_wp2_with fail;go_ret;exact⟨zlE E2.out.symm,HB.out⟩
theorem zem (v u:Value) (l m:List Ch) (w:World) (hs:SlR w v l.length (chs l)) (ht:SlR w u m.length (chs m)):
 Calls Tryz.prog 138 #[v,u] w fun e w'=>e=.returned (.bool (zlY l m))∧Below w.heap.size w w':=by
 obtain⟨a,cap,rfl,hc,hm⟩:=hs.shape;obtain⟨a2,cap2,rfl,hc2,hm2⟩:=ht.shape;unfold maxLen at hm hm2;have HS:=lhd hs;have HT:=lhd ht;clear hs ht;by_cases hne:l.length≠m.length
 ·have E:=lhd (show zlY l m=false by unfold zlY;rw[decide_eq_false_iff_not];intro h;exact hne (by rw[h]));have hb:((l.length:Int) !=(m.length:Int))=true:=by rw[bne_iff_ne];omega
  clear hne;go_enter Tryz.func138,Tryz.ntmps138;go_wp2_with fail;go_ret;exact⟨zlE E.out.symm,Below.refl _ _⟩
 have hlen:l.length=m.length:=by omega
 have HLEN:=lhd hlen;have E:=lhd (show zlY l m=decide (l=m)from rfl);have hb:((l.length:Int) !=(m.length:Int))=false:=by rw[hlen];simp
 clear hne hlen;go_enter Tryz.func138,Tryz.ntmps138;go_wp2_with fail
 go_loopw [13] (fun i wr=>∃(j:Nat),j≤l.length∧i=.int .i64 j∧l.take j=m.take j∧Below w.heap.size w wr)
  (fun i _=>l.length-(intOf i).toNat)
 case atStart=>exact⟨0,Nat.zero_le _,rfl,rfl,Below.refl _ _⟩
 case round=>
  obtain⟨j,hj,rfl,hgo,hbw⟩:=hrel;have HGO:=lhd hgo;have HB:=lhd hbw;clear hgo hbw;by_cases hlt:j<l.length
  ·have hlt2:j<m.length:=by have:=HLEN.out;omega
   obtain⟨b,o,rfl,d0,d1⟩:=(HS.out.below HB.out).ch hlt;obtain⟨b2,o2,rfl,g0,g1⟩:=(HT.out.below HB.out).ch hlt2;have q1:(0:Int)≤(j:Int):=by omega
   have q2:(j:Int)<(l.length:Int):=by omega
   have q3:(j:Int)<(m.length:Int):=by omega
   have hw:IntKind.i64.wrap ((j:Int)+1)=(j:Int)+1:=IntWalk.i64_in _ (by omega);by_cases he:l[j]=m[j]
   ·have HGO2:Hid (l.take (j+1)=m.take (j+1)):=lhd (by rw[List.take_succ_eq_append_getElem hlt,List.take_succ_eq_append_getElem hlt2,HGO.out,he]);rw[←he]at g0 g1;generalize l[j]=c at d0 d1 g0 g1;clear he;obtain⟨t,s⟩:=c;simp only at d0 d1 g0 g1;go_wp2_with fail;go_quiet (fail);go_wp2_with fail;go_roundw;case rel=>exact⟨j+1,by omega,by go_num,HGO2.out,zbz HB.out _⟩
    case measure=>simp[intOf];omega
   ·have E2:=lhd (show zlY l m=false by unfold zlY;rw[decide_eq_false_iff_not];intro h;subst h;exact he rfl);have hne:¬(l[j].1=m[j].1∧l[j].2=m[j].2):=fun h=>he (Prod.ext h.1 h.2);generalize l[j]=c at d0 d1 hne;generalize m[j]=c' at g0 g1 hne;clear he;obtain⟨t,s⟩:=c;obtain⟨t',s'⟩:=c';simp only at d0 d1 g0 g1 hne;by_cases htt:t=t'
    ·subst htt;have hss:=zbo (fun h=>hne ⟨rfl,h⟩:s≠s');clear hne;go_wp2_with fail;go_quiet (fail);go_wp2_with fail;go_ret;exact⟨zlE E2.out.symm,zbz HB.out _⟩
    ·have htb:(t==t')=false:=by rw[beq_eq_false_iff_ne];exact htt
     clear hne;go_wp2_with fail;go_quiet (fail);go_wp2_with fail;go_ret;exact⟨zlE E2.out.symm,zbz HB.out _⟩
  ·have hj':j=l.length:=by omega
   subst hj';have E2:=lhd (show zlY l m=true by unfold zlY;rw[decide_eq_true_iff];have:=HGO.out;rwa [List.take_length,HLEN.out,List.take_length]at this);clear hlt;go_wp2_with fail;go_ret;exact⟨zlE E2.out.symm,HB.out⟩
def sEq (k n:Int) (l:List Ch) (k2 n2:Int) (m:List Ch):Bool:=decide (k=k2)&&(decide (n=n2)&&zlY l m)
theorem zmR (k n k2 n2:Int) (v u:Value) (l m:List Ch) (w:World) (hs:SlR w v l.length (chs l)) (ht:SlR w u m.length (chs m)):
 Calls Tryz.prog 76 #[.agg #[.int .i64 k,.int .i64 n,v],.agg #[.int .i64 k2,.int .i64 n2,u]] w fun e w'=>e=.returned (.bool (sEq k n l k2 n2 m))∧Below w.heap.size w w':=by
 obtain⟨a,cap,rfl,hc,hm⟩:=hs.shape;obtain⟨a2,cap2,rfl,hc2,hm2⟩:=ht.shape;have hbw:Below w.heap.size w ((w.alloc (.cells #[.int .i64 k,.int .i64 n,.slice a l.length cap] 45)).alloc (.cells #[.int .i64 k2,.int .i64 n2,.slice a2 m.length cap2] 45)):=((Below.refl _ _).alloc (Nat.le_refl _) _).alloc (by simp) _;have HE:=lhd (zem _ _ l m _ (hs.below hbw) (ht.below hbw));have HB:=lhd hbw;clear hs ht hbw;by_cases hk:k=k2
 ·by_cases hn:n=n2
  ·have HR:=lhd (show sEq k n l k2 n2 m=zlY l m by simp[sEq,hk,hn]);subst hk hn;go_enter Tryz.func76,Tryz.ntmps76;go_wp2_with fail;refine HE.out.mono ?_;rintro e w1 ⟨rfl,hb⟩;go_wp2_with fail;go_ret;exact⟨zlE HR.out.symm,HB.out.trans (hb.mono HB.out.size)⟩
  ·have HR:=lhd (show sEq k n l k2 n2 m=false by simp[sEq,hk,hn]);have hnb:(n==n2)=false:=by rw[beq_eq_false_iff_ne];exact hn
   subst hk;clear hn;go_enter Tryz.func76,Tryz.ntmps76;go_wp2_with fail;go_ret;exact⟨zlE HR.out.symm,HB.out⟩
 ·have HR:=lhd (show sEq k n l k2 n2 m=false by simp[sEq,hk]);have hkb:(k==k2)=false:=by rw[beq_eq_false_iff_ne];exact hk
  clear hk;go_enter Tryz.func76,Tryz.ntmps76;go_wp2_with fail;go_ret;exact⟨zlE HR.out.symm,HB.out⟩
set_option linter.unusedSimpArgs false
theorem zb3 {s t:Bs} (h:s≠t):bsB s≠bsB t:=fun e=>h (by have:=congrArg (fun b=>b.data.toList) e;simpa[bsB] using this)
theorem zeo (v u:Value) (l m:List (Sc)) (w:World) (hs:SlR w v l.length (scs l)) (ht:SlR w u m.length (scs m)):
 Calls Tryz.prog 73 #[v,u] w fun e w'=>e=.returned (.bool (decide (l=m)))∧Below w.heap.size w w':=by
 obtain⟨a,cap,rfl,hc,hm⟩:=hs.shape;obtain⟨a2,cap2,rfl,hc2,hm2⟩:=ht.shape;unfold maxLen at hm hm2;have HS:=lhd hs;have HT:=lhd ht;clear hs ht;obtain⟨R,hR⟩:∃R,R=decide (l=m):=⟨_,rfl⟩;rw[←hR];by_cases hne:l.length≠m.length
 ·have E:=lhd (show R=false by rw[hR,decide_eq_false_iff_not];intro h;exact hne (by rw[h]));have hb:((l.length:Int) !=(m.length:Int))=true:=by rw[bne_iff_ne];omega
  clear hne hR;go_enter Tryz.func73,Tryz.ntmps73;go_wp2_with fail;go_ret;exact⟨zlE E.out.symm,Below.refl _ _⟩
 have hlen:l.length=m.length:=by omega
 have HLEN:=lhd hlen;have HR:=lhd hR;have hb:((l.length:Int) !=(m.length:Int))=false:=by rw[hlen];simp
 clear hne hlen hR;go_enter Tryz.func73,Tryz.ntmps73;go_wp2_with fail
 go_loopw [13] (fun i wr=>∃(j:Nat),j≤l.length∧i=.int .i64 j∧l.take j=m.take j∧Below w.heap.size w wr)
  (fun i _=>l.length-(intOf i).toNat)
 case atStart=>exact⟨0,Nat.zero_le _,rfl,rfl,Below.refl _ _⟩
 case round=>
  obtain⟨j,hj,rfl,hgo,hbw⟩:=hrel;have HGO:=lhd hgo;have HB:=lhd hbw;clear hgo hbw;by_cases hlt:j<l.length
  ·have hlt2:j<m.length:=by have:=HLEN.out;omega
   obtain⟨b,o,rfl,hcell⟩:=(HS.out.below HB.out).scs hlt;obtain⟨b2,o2,rfl,hcell2⟩:=(HT.out.below HB.out).scs hlt2;have q1:(0:Int)≤(j:Int):=by omega
   have q2:(j:Int)<(l.length:Int):=by omega
   have q3:(j:Int)<(m.length:Int):=by omega
   have hw:IntKind.i64.wrap ((j:Int)+1)=(j:Int)+1:=IntWalk.i64_in _ (by omega);by_cases he:l[j]=m[j]
   ·have HGO2:Hid (l.take (j+1)=m.take (j+1)):=lhd (by rw[List.take_succ_eq_append_getElem hlt,List.take_succ_eq_append_getElem hlt2,HGO.out,he]);rw[←he]at hcell2;generalize l[j]=c at hcell hcell2;obtain⟨c2,hc2⟩:∃c2,c2=c:=⟨_,rfl⟩;rw[←hc2]at hcell2;clear he;obtain⟨nm,ty,sc⟩:=c;obtain⟨nm2,ty2,sc2⟩:=c2;have d0:wr.cell? ⟨b,o+j*3,none⟩=some (.string (bsB nm)):=hcell 0 _ rfl;have d1:wr.cell? ⟨b,o+j*3+1,none⟩=some (.int .i64 ty):=hcell 1 _ rfl;have d2:wr.cell? ⟨b,o+j*3+2,none⟩=some (.int .i64 sc):=hcell 2 _ rfl;have g0:wr.cell? ⟨b2,o2+j*3,none⟩=some (.string (bsB nm2)):=hcell2 0 _ rfl;have g1:wr.cell? ⟨b2,o2+j*3+1,none⟩=some (.int .i64 ty2):=hcell2 1 _ rfl;have g2:wr.cell? ⟨b2,o2+j*3+2,none⟩=some (.int .i64 sc2):=hcell2 2 _ rfl;cases hc2
    clear hcell hcell2;go_wp2_with fail;go_quiet (fail);go_wp2_with fail;go_roundw;case rel=>exact⟨j+1,by omega,by go_num,HGO2.out,zbz HB.out _⟩
    case measure=>simp[intOf];omega
   ·have E2:=lhd (show R=false by rw[HR.out,decide_eq_false_iff_not];intro h;subst h;exact he rfl);generalize l[j]=c at hcell he;generalize m[j]=c2 at hcell2 he;have hne:=he;clear he;obtain⟨nm,ty,sc⟩:=c;obtain⟨nm2,ty2,sc2⟩:=c2;have d0:wr.cell? ⟨b,o+j*3,none⟩=some (.string (bsB nm)):=hcell 0 _ rfl;have d1:wr.cell? ⟨b,o+j*3+1,none⟩=some (.int .i64 ty):=hcell 1 _ rfl;have d2:wr.cell? ⟨b,o+j*3+2,none⟩=some (.int .i64 sc):=hcell 2 _ rfl;have g0:wr.cell? ⟨b2,o2+j*3,none⟩=some (.string (bsB nm2)):=hcell2 0 _ rfl;have g1:wr.cell? ⟨b2,o2+j*3+1,none⟩=some (.int .i64 ty2):=hcell2 1 _ rfl;have g2:wr.cell? ⟨b2,o2+j*3+2,none⟩=some (.int .i64 sc2):=hcell2 2 _ rfl;clear hcell hcell2;by_cases h0:nm=nm2
    rotate_left
    ·have hss:=zbo (zb3 h0);clear h0 hne;go_wp2_with fail;go_quiet (fail);go_wp2_with fail;go_ret;exact⟨zlE E2.out.symm,zbz HB.out _⟩
    subst h0;by_cases h1:ty=ty2
    rotate_left
    ·skip
     have hnb:(ty==ty2)=false:=by rw[beq_eq_false_iff_ne];assumption
     clear h1 hne;go_wp2_with fail;go_quiet (fail);go_wp2_with fail;go_ret;exact⟨zlE E2.out.symm,zbz HB.out _⟩
    subst h1;by_cases h2:sc=sc2
    rotate_left
    ·skip
     have hnb:(sc==sc2)=false:=by rw[beq_eq_false_iff_ne];assumption
     clear h2 hne;go_wp2_with fail;go_quiet (fail);go_wp2_with fail;go_ret;exact⟨zlE E2.out.symm,zbz HB.out _⟩
    subst h2;exact absurd rfl hne
  ·have hj':j=l.length:=by omega
   subst hj';have E2:=lhd (show R=true by rw[HR.out,decide_eq_true_iff];have:=HGO.out;rwa [List.take_length,HLEN.out,List.take_length]at this);clear hlt;go_wp2_with fail;go_ret;exact⟨zlE E2.out.symm,HB.out⟩
theorem zep (v u:Value) (l m:List (Vr)) (w:World) (hs:SlR w v l.length (vrs l)) (ht:SlR w u m.length (vrs m)):
 Calls Tryz.prog 74 #[v,u] w fun e w'=>e=.returned (.bool (decide (l=m)))∧Below w.heap.size w w':=by
 obtain⟨a,cap,rfl,hc,hm⟩:=hs.shape;obtain⟨a2,cap2,rfl,hc2,hm2⟩:=ht.shape;unfold maxLen at hm hm2;have HS:=lhd hs;have HT:=lhd ht;clear hs ht;obtain⟨R,hR⟩:∃R,R=decide (l=m):=⟨_,rfl⟩;rw[←hR];by_cases hne:l.length≠m.length
 ·have E:=lhd (show R=false by rw[hR,decide_eq_false_iff_not];intro h;exact hne (by rw[h]));have hb:((l.length:Int) !=(m.length:Int))=true:=by rw[bne_iff_ne];omega
  clear hne hR;go_enter Tryz.func74,Tryz.ntmps74;go_wp2_with fail;go_ret;exact⟨zlE E.out.symm,Below.refl _ _⟩
 have hlen:l.length=m.length:=by omega
 have HLEN:=lhd hlen;have HR:=lhd hR;have hb:((l.length:Int) !=(m.length:Int))=false:=by rw[hlen];simp
 clear hne hlen hR;go_enter Tryz.func74,Tryz.ntmps74;go_wp2_with fail
 go_loopw [13] (fun i wr=>∃(j:Nat),j≤l.length∧i=.int .i64 j∧l.take j=m.take j∧Below w.heap.size w wr)
  (fun i _=>l.length-(intOf i).toNat)
 case atStart=>exact⟨0,Nat.zero_le _,rfl,rfl,Below.refl _ _⟩
 case round=>
  obtain⟨j,hj,rfl,hgo,hbw⟩:=hrel;have HGO:=lhd hgo;have HB:=lhd hbw;clear hgo hbw;by_cases hlt:j<l.length
  ·have hlt2:j<m.length:=by have:=HLEN.out;omega
   obtain⟨b,o,rfl,hcell⟩:=(HS.out.below HB.out).vrs hlt;obtain⟨b2,o2,rfl,hcell2⟩:=(HT.out.below HB.out).vrs hlt2;have q1:(0:Int)≤(j:Int):=by omega
   have q2:(j:Int)<(l.length:Int):=by omega
   have q3:(j:Int)<(m.length:Int):=by omega
   have hw:IntKind.i64.wrap ((j:Int)+1)=(j:Int)+1:=IntWalk.i64_in _ (by omega);by_cases he:l[j]=m[j]
   ·have HGO2:Hid (l.take (j+1)=m.take (j+1)):=lhd (by rw[List.take_succ_eq_append_getElem hlt,List.take_succ_eq_append_getElem hlt2,HGO.out,he]);rw[←he]at hcell2;generalize l[j]=c at hcell hcell2;obtain⟨c2,hc2⟩:∃c2,c2=c:=⟨_,rfl⟩;rw[←hc2]at hcell2;clear he;obtain⟨nm,ty,sc,sg,rg,mb,lb⟩:=c;obtain⟨nm2,ty2,sc2,sg2,rg2,mb2,lb2⟩:=c2;have d0:wr.cell? ⟨b,o+j*7,none⟩=some (.string (bsB nm)):=hcell 0 _ rfl;have d1:wr.cell? ⟨b,o+j*7+1,none⟩=some (.int .i64 ty):=hcell 1 _ rfl;have d2:wr.cell? ⟨b,o+j*7+2,none⟩=some (.int .i64 sc):=hcell 2 _ rfl;have d3:wr.cell? ⟨b,o+j*7+3,none⟩=some (.int .i64 sg):=hcell 3 _ rfl;have d4:wr.cell? ⟨b,o+j*7+4,none⟩=some (.bool rg):=hcell 4 _ rfl;have d5:wr.cell? ⟨b,o+j*7+5,none⟩=some (.int .i64 mb):=hcell 5 _ rfl;have d6:wr.cell? ⟨b,o+j*7+6,none⟩=some (.int .i64 lb):=hcell 6 _ rfl;have g0:wr.cell? ⟨b2,o2+j*7,none⟩=some (.string (bsB nm2)):=hcell2 0 _ rfl;have g1:wr.cell? ⟨b2,o2+j*7+1,none⟩=some (.int .i64 ty2):=hcell2 1 _ rfl;have g2:wr.cell? ⟨b2,o2+j*7+2,none⟩=some (.int .i64 sc2):=hcell2 2 _ rfl;have g3:wr.cell? ⟨b2,o2+j*7+3,none⟩=some (.int .i64 sg2):=hcell2 3 _ rfl;have g4:wr.cell? ⟨b2,o2+j*7+4,none⟩=some (.bool rg2):=hcell2 4 _ rfl;have g5:wr.cell? ⟨b2,o2+j*7+5,none⟩=some (.int .i64 mb2):=hcell2 5 _ rfl;have g6:wr.cell? ⟨b2,o2+j*7+6,none⟩=some (.int .i64 lb2):=hcell2 6 _ rfl;cases hc2
    clear hcell hcell2;go_wp2_with fail;go_quiet (fail);go_wp2_with fail;go_roundw;case rel=>exact⟨j+1,by omega,by go_num,HGO2.out,zbz HB.out _⟩
    case measure=>simp[intOf];omega
   ·have E2:=lhd (show R=false by rw[HR.out,decide_eq_false_iff_not];intro h;subst h;exact he rfl);generalize l[j]=c at hcell he;generalize m[j]=c2 at hcell2 he;have hne:=he;clear he;obtain⟨nm,ty,sc,sg,rg,mb,lb⟩:=c;obtain⟨nm2,ty2,sc2,sg2,rg2,mb2,lb2⟩:=c2;have d0:wr.cell? ⟨b,o+j*7,none⟩=some (.string (bsB nm)):=hcell 0 _ rfl;have d1:wr.cell? ⟨b,o+j*7+1,none⟩=some (.int .i64 ty):=hcell 1 _ rfl;have d2:wr.cell? ⟨b,o+j*7+2,none⟩=some (.int .i64 sc):=hcell 2 _ rfl;have d3:wr.cell? ⟨b,o+j*7+3,none⟩=some (.int .i64 sg):=hcell 3 _ rfl;have d4:wr.cell? ⟨b,o+j*7+4,none⟩=some (.bool rg):=hcell 4 _ rfl;have d5:wr.cell? ⟨b,o+j*7+5,none⟩=some (.int .i64 mb):=hcell 5 _ rfl;have d6:wr.cell? ⟨b,o+j*7+6,none⟩=some (.int .i64 lb):=hcell 6 _ rfl;have g0:wr.cell? ⟨b2,o2+j*7,none⟩=some (.string (bsB nm2)):=hcell2 0 _ rfl;have g1:wr.cell? ⟨b2,o2+j*7+1,none⟩=some (.int .i64 ty2):=hcell2 1 _ rfl;have g2:wr.cell? ⟨b2,o2+j*7+2,none⟩=some (.int .i64 sc2):=hcell2 2 _ rfl;have g3:wr.cell? ⟨b2,o2+j*7+3,none⟩=some (.int .i64 sg2):=hcell2 3 _ rfl;have g4:wr.cell? ⟨b2,o2+j*7+4,none⟩=some (.bool rg2):=hcell2 4 _ rfl;have g5:wr.cell? ⟨b2,o2+j*7+5,none⟩=some (.int .i64 mb2):=hcell2 5 _ rfl;have g6:wr.cell? ⟨b2,o2+j*7+6,none⟩=some (.int .i64 lb2):=hcell2 6 _ rfl;clear hcell hcell2;by_cases h0:nm=nm2
    rotate_left
    ·have hss:=zbo (zb3 h0);clear h0 hne;go_wp2_with fail;go_quiet (fail);go_wp2_with fail;go_ret;exact⟨zlE E2.out.symm,zbz HB.out _⟩
    subst h0;by_cases h1:ty=ty2
    rotate_left
    ·skip
     have hnb:(ty==ty2)=false:=by rw[beq_eq_false_iff_ne];assumption
     clear h1 hne;go_wp2_with fail;go_quiet (fail);go_wp2_with fail;go_ret;exact⟨zlE E2.out.symm,zbz HB.out _⟩
    subst h1;by_cases h2:sc=sc2
    rotate_left
    ·skip
     have hnb:(sc==sc2)=false:=by rw[beq_eq_false_iff_ne];assumption
     clear h2 hne;go_wp2_with fail;go_quiet (fail);go_wp2_with fail;go_ret;exact⟨zlE E2.out.symm,zbz HB.out _⟩
    subst h2;by_cases h3:sg=sg2
    rotate_left
    ·skip
     have hnb:(sg==sg2)=false:=by rw[beq_eq_false_iff_ne];assumption
     clear h3 hne;go_wp2_with fail;go_quiet (fail);go_wp2_with fail;go_ret;exact⟨zlE E2.out.symm,zbz HB.out _⟩
    subst h3;by_cases h4:rg=rg2
    rotate_left
    ·skip
     have hnb:(rg==rg2)=false:=by rw[beq_eq_false_iff_ne];assumption
     clear h4 hne;go_wp2_with fail;go_quiet (fail);go_wp2_with fail;go_ret;exact⟨zlE E2.out.symm,zbz HB.out _⟩
    subst h4;by_cases h5:mb=mb2
    rotate_left
    ·skip
     have hnb:(mb==mb2)=false:=by rw[beq_eq_false_iff_ne];assumption
     clear h5 hne;go_wp2_with fail;go_quiet (fail);go_wp2_with fail;go_ret;exact⟨zlE E2.out.symm,zbz HB.out _⟩
    subst h5;by_cases h6:lb=lb2
    rotate_left
    ·skip
     have hnb:(lb==lb2)=false:=by rw[beq_eq_false_iff_ne];assumption
     clear h6 hne;go_wp2_with fail;go_quiet (fail);go_wp2_with fail;go_ret;exact⟨zlE E2.out.symm,zbz HB.out _⟩
    subst h6;exact absurd rfl hne
  ·have hj':j=l.length:=by omega
   subst hj';have E2:=lhd (show R=true by rw[HR.out,decide_eq_true_iff];have:=HGO.out;rwa [List.take_length,HLEN.out,List.take_length]at this);clear hlt;go_wp2_with fail;go_ret;exact⟨zlE E2.out.symm,HB.out⟩
theorem zen (v u:Value) (l m:List (Int×Int)) (w:World) (hs:SlR w v l.length (gps l)) (ht:SlR w u m.length (gps m)):
 Calls Tryz.prog 32 #[v,u] w fun e w'=>e=.returned (.bool (decide (l=m)))∧Below w.heap.size w w':=by
 obtain⟨a,cap,rfl,hc,hm⟩:=hs.shape;obtain⟨a2,cap2,rfl,hc2,hm2⟩:=ht.shape;unfold maxLen at hm hm2;have HS:=lhd hs;have HT:=lhd ht;clear hs ht;obtain⟨R,hR⟩:∃R,R=decide (l=m):=⟨_,rfl⟩;rw[←hR];by_cases hne:l.length≠m.length
 ·have E:=lhd (show R=false by rw[hR,decide_eq_false_iff_not];intro h;exact hne (by rw[h]));have hb:((l.length:Int) !=(m.length:Int))=true:=by rw[bne_iff_ne];omega
  clear hne hR;go_enter Tryz.func32,Tryz.ntmps32;go_wp2_with fail;go_ret;exact⟨zlE E.out.symm,Below.refl _ _⟩
 have hlen:l.length=m.length:=by omega
 have HLEN:=lhd hlen;have HR:=lhd hR;have hb:((l.length:Int) !=(m.length:Int))=false:=by rw[hlen];simp
 clear hne hlen hR;go_enter Tryz.func32,Tryz.ntmps32;go_wp2_with fail
 go_loopw [13] (fun i wr=>∃(j:Nat),j≤l.length∧i=.int .i64 j∧l.take j=m.take j∧Below w.heap.size w wr)
  (fun i _=>l.length-(intOf i).toNat)
 case atStart=>exact⟨0,Nat.zero_le _,rfl,rfl,Below.refl _ _⟩
 case round=>
  obtain⟨j,hj,rfl,hgo,hbw⟩:=hrel;have HGO:=lhd hgo;have HB:=lhd hbw;clear hgo hbw;by_cases hlt:j<l.length
  ·have hlt2:j<m.length:=by have:=HLEN.out;omega
   obtain⟨b,o,rfl,hcell⟩:=(HS.out.below HB.out).gps hlt;obtain⟨b2,o2,rfl,hcell2⟩:=(HT.out.below HB.out).gps hlt2;have q1:(0:Int)≤(j:Int):=by omega
   have q2:(j:Int)<(l.length:Int):=by omega
   have q3:(j:Int)<(m.length:Int):=by omega
   have hw:IntKind.i64.wrap ((j:Int)+1)=(j:Int)+1:=IntWalk.i64_in _ (by omega);by_cases he:l[j]=m[j]
   ·have HGO2:Hid (l.take (j+1)=m.take (j+1)):=lhd (by rw[List.take_succ_eq_append_getElem hlt,List.take_succ_eq_append_getElem hlt2,HGO.out,he]);rw[←he]at hcell2;generalize l[j]=c at hcell hcell2;obtain⟨c2,hc2⟩:∃c2,c2=c:=⟨_,rfl⟩;rw[←hc2]at hcell2;clear he;obtain⟨ty,sc⟩:=c;obtain⟨ty2,sc2⟩:=c2;have d0:wr.cell? ⟨b,o+j*2,none⟩=some (.int .i64 ty):=hcell 0 _ rfl;have d1:wr.cell? ⟨b,o+j*2+1,none⟩=some (.int .i64 sc):=hcell 1 _ rfl;have g0:wr.cell? ⟨b2,o2+j*2,none⟩=some (.int .i64 ty2):=hcell2 0 _ rfl;have g1:wr.cell? ⟨b2,o2+j*2+1,none⟩=some (.int .i64 sc2):=hcell2 1 _ rfl;cases hc2
    clear hcell hcell2;go_wp2_with fail;go_quiet (fail);go_wp2_with fail;go_roundw;case rel=>exact⟨j+1,by omega,by go_num,HGO2.out,zbz HB.out _⟩
    case measure=>simp[intOf];omega
   ·have E2:=lhd (show R=false by rw[HR.out,decide_eq_false_iff_not];intro h;subst h;exact he rfl);generalize l[j]=c at hcell he;generalize m[j]=c2 at hcell2 he;have hne:=he;clear he;obtain⟨ty,sc⟩:=c;obtain⟨ty2,sc2⟩:=c2;have d0:wr.cell? ⟨b,o+j*2,none⟩=some (.int .i64 ty):=hcell 0 _ rfl;have d1:wr.cell? ⟨b,o+j*2+1,none⟩=some (.int .i64 sc):=hcell 1 _ rfl;have g0:wr.cell? ⟨b2,o2+j*2,none⟩=some (.int .i64 ty2):=hcell2 0 _ rfl;have g1:wr.cell? ⟨b2,o2+j*2+1,none⟩=some (.int .i64 sc2):=hcell2 1 _ rfl;clear hcell hcell2;by_cases h1:ty=ty2
    rotate_left
    ·skip
     have hnb:(ty==ty2)=false:=by rw[beq_eq_false_iff_ne];assumption
     clear h1 hne;go_wp2_with fail;go_quiet (fail);go_wp2_with fail;go_ret;exact⟨zlE E2.out.symm,zbz HB.out _⟩
    subst h1;by_cases h2:sc=sc2
    rotate_left
    ·skip
     have hnb:(sc==sc2)=false:=by rw[beq_eq_false_iff_ne];assumption
     clear h2 hne;go_wp2_with fail;go_quiet (fail);go_wp2_with fail;go_ret;exact⟨zlE E2.out.symm,zbz HB.out _⟩
    subst h2;exact absurd rfl hne
  ·have hj':j=l.length:=by omega
   subst hj';have E2:=lhd (show R=true by rw[HR.out,decide_eq_true_iff];have:=HGO.out;rwa [List.take_length,HLEN.out,List.take_length]at this);clear hlt;go_wp2_with fail;go_ret;exact⟨zlE E2.out.symm,HB.out⟩
open Go.RowKit Go.WideMaps
theorem zqO (l:List Vr) (h:l.length=0):vrs l=[]:=by rw[List.length_eq_zero_iff.1 h];rfl
theorem zcT (v:Value) (l:List Vr) (w:World) (hs:SlR w v l.length (vrs l)) (hn:l.length≤1000000):
 Calls Tryz.prog 164 #[v] w fun e w'=>∃v',e=.returned v'∧w'.ownsRow w.heap.size 42 7 v' l.length (vrs l)∧Below w.heap.size w w':=by
 obtain⟨a,cap,rfl,hc,hm,hz,hat⟩:=hs;have hs:SlR w (.slice a l.length cap) l.length (vrs l):=⟨a,cap,rfl,hc,hm,hz,hat⟩;cases a with
 |none=>
  have hcap:=hz rfl;subst hcap;have hq:=Lib.run_eql_slice_nil (P:=Tryz.prog) w 23 42 none l.length 0 0 0 Tryz.underlying23;have h0:l.length=0:=by omega
  have HL:=lhd (zqO l h0);have H0:=lhd h0;clear hs hz hat h0;go_enter Tryz.func164,Tryz.ntmps164;go_wp2_with fail;go_ret;exact⟨_,rfl,by rw[HL.out,H0.out];exact World.ownsRow_nil _ _ _ _,Below.refl _ _⟩
 |some ad=>
  have hq:=Lib.run_eql_slice_nil (P:=Tryz.prog) w 23 42 (some ad) l.length cap 0 0 Tryz.underlying23;obtain⟨i0,hi,iz0,iz1,iz2⟩:=info_parts (P:=Tryz.prog) zqF;have hbw:Below w.heap.size w (w.alloc (.cells #[] 42)):=(Below.refl _ _).alloc (Nat.le_refl _) _;have HN:=lhd ((hs.below hbw).news (zqO l));have hown:(w.alloc (.cells #[] 42)).ownsRow w.heap.size 42 7 (.slice (some ⟨w.heap.size,0,none⟩) 0 0) 0 []:=World.ownsRow_lit w #[] 0 (Nat.le_refl _) (by simp[maxLen]) (by simp);have HOWN:=lhd hown;clear hs hz hat hbw hown;go_enter Tryz.func164,Tryz.ntmps164;go_wp2_with (at_builtin;refine wpList_append_own _ rfl _ _ 23 rfl w.heap.size 42 i0 (.agg #[.string ⟨#[]⟩,.int .i64 0,.int .i64 0,.int .i64 0,.bool false,.int .i64 0,.int .i64 0]) 7 64 Tryz.underlying23 hi iz0 iz1 iz2 rfl (by decide) _ _ _ rfl HOWN.out ad l.length cap (vrs l) rfl (by rw[zqN];omega) HN.out (zqQ l) (by unfold maxLen;omega) (by omega) (by simp) ?_)
  intro v' w' ho hg _;have HO:=lhd ho;have HG:=lhd hg;clear ho hg;go_wp2_with fail;go_ret;exact⟨_,rfl,by have:=HO.out;simpa using this,((Below.refl _ _).alloc (Nat.le_refl _) _).grown HG.out (by simp) (by intro k hk;simp[Value.ownBlock]at hk;omega)⟩
def ints (l:List Int):List Value:=l.map (Value.int .i64)
theorem zgB:(Tryz.prog.info? 3).map (fun i=>(i.zero,i.size,i.bytes))=some (some (.int .i64 0),1,8):=by kernel_rfl
theorem zrv (w:World):(zeroValue 3).run Tryz.prog w=.ok (.int .i64 0) w:=by kernel_rfl
def numM (fm:List Int) (x:Int):Option Value:=if x∈fm then some (.int .i64 (fm.idxOf x:Int))else none
theorem zi9 {fm:List Int} {x:Int} (h:x∉fm) (y:Int):(if y=x then some (Value.int .i64 (fm.length:Int))else numM fm y)=numM (fm++ [x]) y:=by
 unfold numM;by_cases hy:y=x
 ·subst hy;rw[if_pos rfl,if_pos (by simp),List.idxOf_append,if_neg h];simp
 ·rw[if_neg hy];by_cases hm:y∈fm
  ·rw[if_pos hm,if_pos (by simp[hm]),List.idxOf_append,if_pos hm]
  ·rw[if_neg hm,if_neg (by simp[hm,hy])]
theorem zqT {D R:List Vr} (v:Vr) (n:Int):(vrs (D++v::R)).set (D.length*7+3) (.int .i64 n)=vrs (D++{v with sg:=n}::R):=by
 have hl:(vrs D).length=D.length*7:=by rw[zqN,Nat.mul_comm]
 rw[zqK,zqK,zqM,zqM,←hl];simp only[vrC,List.cons_append,List.nil_append];rw[List.set_append_right _ _ (by omega),Nat.add_sub_cancel_left];simp only[List.set_cons_succ,List.set_cons_zero]
structure NmI (base n:Nat) (v:Value) (bm:Nat) (D R:List Vr) (fm:List Int) (vf:Value) (w W:World):Prop where
 o:W.ownsRow base 42 7 v n (vrs (D++R))
 f:W.ownsRow base 3 1 vf fm.length (ints fm)
 m:KMap (zgz (P:=Tryz.prog) (K:=3) Tryz.underlying3) W bm fm.length (numM fm)
 b:Below base w W
 z:base≤bm
theorem zj7 {w:World} {B B' e e' size size' n n':Nat} {v v':Value} {xs xs':List Value} (h:w.ownsRow B e size v n xs) (h':w.ownsRow B' e' size' v' n' xs') (hne:e≠e'):v.ownBlock=none∨v.ownBlock≠v'.ownBlock:=by
 rcases h.2 with⟨rfl,-⟩|⟨g,cap,cur,rfl,-,hg,-⟩
 ·exact .inl rfl
 ·refine .inr fun e=>?_;rcases h'.2 with⟨rfl,-⟩|⟨g2,cap2,cur2,rfl,-,hg2,-⟩
  ·cases e
  ·injection e with e;subst e;rw[hg]at hg2;injection hg2 with hg2;injection hg2 with _ h5 _;exact hne h5
theorem NmI.put {base n g cap bm:Nat} {D R:List Vr} {x:Vr} {fm:List Int} {vf:Value} {w W:World} (h:NmI base n (.slice (some ⟨g,0,none⟩) n cap) bm D (x::R) fm vf w W) (q:Int):
 NmI base n (.slice (some ⟨g,0,none⟩) n cap) bm (D++ [{x with sg:=q}]) R fm vf w (W.setCell ⟨g,D.length*7+3,none⟩ (.int .i64 q)):=by
 have h1:=zkk h.o (D.length*7+3) (.int .i64 q);rw[zqT]at h1;refine⟨by rw[List.append_assoc];exact h1,ownsRow_setCell_other (a:=⟨g,D.length*7+3,none⟩) h.f ?_ _,h.m.setCell (fun e=>?_) _,h.b.setCell (p:=⟨g,D.length*7+3,none⟩) (h.o.lt _ rfl).1 _,h.z⟩
 ·intro e;rcases h.f.2 with⟨e0,-⟩|⟨g',cap',cur,e0,-,hgb,-⟩
  ·rw[e0]at e;cases e
  ·rw[e0]at e;injection e with e;subst e;rcases h.o.2 with⟨e1,-⟩|⟨g2,cap2,cur2,e1,-,hgb2,-⟩
   ·cases e1
   ·injection e1 with e1 _ _;injection e1 with e1;injection e1 with e1 _ _;subst e1;rw[hgb]at hgb2;injection hgb2 with hgb2;injection hgb2 with _ h5 _;exact absurd h5 (by decide)
 ·have:=h.m.ne_row h.o;exact this (by rw[e];rfl)
theorem NmI.new {base n bm:Nat} {w:World} (hz:base≤w.heap.size) {v:Value} {D R:List Vr} {x:Int} {fm:List Int} {vf vf':Value} {W W1 W2:World} (h:NmI base n v bm D R fm vf w W) (hx:x∉fm)
 (hm:KMap (zgz (P:=Tryz.prog) (K:=3) Tryz.underlying3) W1 bm (fm.length+1) (fun y=>if y=x then some (.int .i64 (fm.length:Int))else numM fm y)) (hg:W.grownBy W1 (some bm))
 (hf:W2.ownsRow base 3 1 vf' (fm.length+1) (ints fm++ [.int .i64 x])) (hg2:(W1.alloc (.cells #[.int .i64 x] 3)).grownBy W2 vf.ownBlock):NmI base n v bm D R (fm++ [x]) vf' w W2:=by
 have hal:Below W1.heap.size W1 (W1.alloc (.cells #[.int .i64 x] 3)):=(Below.refl _ _).alloc (Nat.le_refl _) _;have ho1:(W1.alloc (.cells #[.int .i64 x] 3)).ownsRow base 42 7 v n (vrs (D++R)):=zkj (h.o.kept hg (.inr fun e=>h.m.ne_row h.o e.symm)) (Same0.of_below hal);have hf1:(W1.alloc (.cells #[.int .i64 x] 3)).ownsRow base 3 1 vf fm.length (ints fm):=zkj (h.f.kept hg (.inr fun e=>h.m.ne_row h.f e.symm)) (Same0.of_below hal);have hb1:Below base w W1:=h.b.grown hg (Nat.le_trans hz h.b.size) (fun k hk=>by injection hk with hk;have:=h.z;omega);have hm1:=hm.below hal hm.lt;refine⟨ho1.kept hg2 (zj7 ho1 hf1 (by decide)),by rw[List.length_append,List.length_singleton];simpa[ints] using hf,?_,((hb1.alloc (Nat.le_trans hz hb1.size) _).grown hg2 (by have:=hb1.size;simp;omega) (fun k hk=>(hf1.lt _ hk).1)),h.z⟩;have hm2:=hm1.kept hg2 (hm1.ne_row hf1);rw[List.length_append,List.length_singleton];exact hm2.ext (fun y=>zi9 hx y)
theorem zfY (base:Nat) (v:Value) (l:List Vr) (w:World) (hb0:base≤w.heap.size) (ho:w.ownsRow base 42 7 v l.length (vrs l)) (hn:l.length≤1000) (hsg:∀x∈l,(Lit.int .i64 x.sg).wf=true):
 Calls Tryz.prog 167 #[v] w fun e w'=>∃vf,e=.returned vf∧w'.ownsRow base 42 7 v l.length (vrs (numF [] l).1)∧w'.ownsRow base 3 1 vf (numF [] l).2.length (ints (numF [] l).2)∧Below base w w':=by
 obtain⟨i0,hi,iz0,iz1,iz2⟩:=info_parts (P:=Tryz.prog) zgB;obtain⟨a,cap,rfl,-,-⟩:=(SlR.of_own ho).shape;have hmm:= @run_makeMap Tryz.prog
 have HI:=lhd (show NmI base l.length (.slice a l.length cap) w.heap.size [] l [] (.slice none 0 0) w (w.alloc (.map #[] 0))from
  ⟨zkj ho (Same0.of_below ((Below.refl _ _).alloc (Nat.le_refl _) _)),World.ownsRow_nil _ _ _ _,KMap.made _ w,(Below.refl _ _).alloc hb0 _,hb0⟩)
 have HSG:=lhd hsg;clear ho hsg;go_enter Tryz.func167,Tryz.ntmps167;go_wp2_with fail;clear hmm;go_loopw [3,6,7,11] (fun vf _ _ i wr=>∃(k:Nat) (D R:List Vr) (fm:List Int),i=.int .i64 k∧D.length=k∧k+R.length=l.length∧fm.length≤k∧(∀x∈R,x∈l)∧numF [] l=(D++(numF fm R).1,(numF fm R).2)∧NmI base l.length (.slice a l.length cap) w.heap.size D R fm vf w wr) (fun _ _ _ i _=>l.length-(intOf i).toNat)
 case atStart=>exact⟨0,[],l,[],rfl,rfl,by simp,Nat.le_refl _,fun _ h=>h,rfl,HI.out⟩
 case round=>
  obtain⟨k,D,R,fm,rfl,hD,hR,hf,hin,hnu,hI⟩:=hrel;have HII:=lhd hI;obtain⟨fa,fc,rfl,-,-⟩:=(SlR.of_own hI.f).shape;have HN:=lhd hn;cases R with
  |nil=>
   have hkl:k=l.length:=by simpa using hR
   have HNU:=lhd hnu;clear hD hR hf hin hI hnu;subst hkl;go_wp2_with fail;go_ret;refine⟨_,rfl,?_,?_,HII.out.b⟩
   ·rw[HNU.out];exact HII.out.o
   ·rw[HNU.out];exact HII.out.f
  |cons x R=>
   have hlt:k<l.length:=by simp at hR;omega
   have HR:=lhd hR;have HD:=lhd hD;have HIN:=lhd hin;have HNU:=lhd hnu;have hwx:=HSG.out x (hin x (by simp));have hog:=hI.o;rcases hog.2 with⟨-,h0⟩|⟨g,cap',cur,e0,-⟩
   ·omega
   injection e0 with e0 _ e1;subst e0 e1;have hso:SO base g l.length cap wr (D++x::R):=hog;have d3:=hso.at.2.2.2.1;have f3:=zkb hog (k*7+3);rw[hD]at d3;have HLK:=lhd (hI.m.look (t:=93) Tryz.underlying93 (zrv wr) x.sg hwx);have hfk:=hf;clear hD hR hin hnu hI hog hso;obtain⟨nm,ty,sc,sg,rg,mb,lb⟩:=x;dsimp only at d3 HLK hwx;by_cases hc:sg∈fm
   ·obtain⟨q,hq⟩:∃q,fm.idxOf sg=q:=⟨_,rfl⟩
    have hlk:(Instr.lookup 93 (.map (some w.heap.size)) (.int .i64 sg) true).run Tryz.prog wr=.ok (.tuple #[.int .i64 (q:Int),.bool true]) wr:=by
     have:=HLK.out;unfold numM at this;rw[if_pos hc,hq]at this;exact this
    have HNX:=lhd (show numF [] l=((D++ [⟨nm,ty,sc,(q:Int),rg,mb,lb⟩])++(numF fm R).1,(numF fm R).2)by
     rw[HNU.out,zi7 (by simpa using hc),hq];simp)
    have HP:=lhd (HII.out.put (q:Int));rw[HD.out]at HP;clear hc hq HLK hwx;go_wp2_with fail;go_roundw;case rel=>exact⟨k+1,_,R,fm,by go_num,by simp[HD.out],by have:=HR.out;simp at this;omega,by omega,fun y hy=>HIN.out y (List.mem_cons_of_mem _ hy),HNX.out,HP.out⟩
    case measure=>simp[intOf];omega
   ·have hlk:(Instr.lookup 93 (.map (some w.heap.size)) (.int .i64 sg) true).run Tryz.prog wr=.ok (.tuple #[.int .i64 0,.bool false]) wr:=by
     have:=HLK.out;unfold numM at this;rw[if_neg hc]at this;exact this
    have HNX:=lhd (show numF [] l=((D++ [⟨nm,ty,sc,(fm.length:Int),rg,mb,lb⟩])++(numF (fm++ [sg]) R).1,(numF (fm++ [sg]) R).2)by
     rw[HNU.out,zi8 (by simpa using hc)];simp)
    have HC:=lhd hc;have HWX:=lhd hwx;clear hc HLK hwx
    go_wp2_with (first
     |(at_builtin;refine wpList_append_own_at _ rfl _ _ 38 rfl base 3 i0 (.int .i64 0) 1 8 Tryz.underlying38 hi iz0 iz1 iz2 rfl (by decide) _ _ _ rfl HF3.out ⟨w3.heap.size,0,none⟩ 1 1 [.int .i64 sg] rfl rfl HNW.out (by simp[Value.oneCell']) (by unfold maxLen;omega) (by omega) (by simp;omega) ?_)
     |(refine zrr _ rfl _ _ _ 93 rfl 3 Tryz.underlying93 w.heap.size fm.length _ rfl HII.out.m (by unfold maxLen;omega) sg (.int .i64 (fm.length:Int)) rfl rfl HWX.out ?_;intro w3 hm3 hg3;have ho3:SO base g l.length cap w3 (D++⟨nm,ty,sc,sg,rg,mb,lb⟩::R):=HII.out.o.kept hg3 (.inr fun e=>HII.out.m.ne_row HII.out.o e.symm);have d4:=ho3.at.2.2.2.1;rw[HD.out]at d4;have f4:=zkb ho3 (k*7+3);have HNW:=lhd (World.news_of_block (w:=w3.alloc (.cells #[.int .i64 sg] 3)) (cs:=#[.int .i64 sg]) (t:=3) (fr:=(0,0)) (by exact heap_alloc_new _ _));have hzz:base≤w3.heap.size:=Nat.le_trans hb0 (Nat.le_trans HII.out.b.size hg3.size);have HF3:=lhd (zkj (HII.out.f.kept hg3 (.inr fun e=>HII.out.m.ne_row HII.out.f e.symm)) (Same0.of_below ((Below.refl w3.heap.size w3).alloc (Nat.le_refl _) (.cells #[.int .i64 sg] 3))));have HM3:=lhd hm3;have HG3:=lhd hg3;clear hm3 hg3 ho3))
    intro v8 w8 ho8 hg8 _ _;have HI8:=lhd (HII.out.new hb0 HC.out HM3.out HG3.out ho8 hg8);clear ho8 hg8 d4 f4 d3 f3 hlk;have ho9:SO base g l.length cap w8 (D++⟨nm,ty,sc,sg,rg,mb,lb⟩::R):=HI8.out.o;have f9:=zkb ho9 (k*7+3);have d9:=ho9.at.2.2.2.1;rw[HD.out]at d9;have HP:=lhd (HI8.out.put (fm.length:Int));rw[HD.out]at HP;clear ho9;go_wp2_with fail;go_roundw;case rel=>exact⟨k+1,_,R,fm++ [sg],by go_num,by simp[HD.out],by have:=HR.out;simp at this;omega,by simp;omega,fun y hy=>HIN.out y (List.mem_cons_of_mem _ hy),HNX.out,HP.out⟩
    case measure=>simp[intOf];omega
end Go.Proofs.YtbiadennhnokhaaGreatDoor
