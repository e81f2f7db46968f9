import Derived.Test.YtfppgpamkdkckaaGreatDoorZ00
import Derived.Test.YtfppgpamkdkckaaGreatDoorZ12
import Derived.Test.YtfppgpamkdkckaaGreatDoorZ17
set_option maxRecDepth 100000
set_option maxHeartbeats 16000000
namespace Go.Proofs.YtfppgpamkdkckaaGreatDoor
open Go.RowKit
abbrev SigR:=(Int×Int×List Ch)×Int
def zau (r:SigR) (w:World) (e:Ending) (w':World):Prop:=∃v',e=.returned (.tuple #[.agg #[.int .i64 r.1.1,.int .i64 r.1.2.1,v'],.int .i64 r.2])∧w'.ownsRow w.heap.size 57 2 v' r.1.2.2.length (chs r.1.2.2)∧Below w.heap.size w w'
theorem zau.zero {w W:World} (e:Int) (h:Below w.heap.size w W):zau ((0,0,[]),e) w (.returned (.tuple #[.agg #[.int .i64 0,.int .i64 0,.slice none 0 0],.int .i64 e])) W:=⟨_,rfl,World.ownsRow_nil _ _ _ _,h⟩
def ziK (k n:Int) (l:List Ch):SigR:=if 4096<(zjR k n l).length then((0,0,[]),9)else((k,n,zjR k n l),0)
theorem zlK {w:World} {base e size:Nat} {v:Value} {n:Nat} {xs:List Value} {b:Nat} (h:w.ownsRow base e size v n xs) (hb:b<base) (p q r:Value):
 (((w.setCell ⟨b,0,none⟩ p).setCell ⟨b,1,none⟩ q).setCell ⟨b,2,none⟩ r).ownsRow base e size v n xs:=
 ownsRow_setCell_below (ownsRow_setCell_below (ownsRow_setCell_below h hb _) hb _) hb _
theorem zlI {w:World} {base base' e size:Nat} {v:Value} {n:Nat} {xs:List Value} (h:w.ownsRow base e size v n xs) (hb:base'≤base):w.ownsRow base' e size v n xs:=by
 refine⟨h.1,?_⟩;rcases h.2 with h2|⟨g,cap,cur,h1,h2,h3⟩
 ·exact .inl h2
 ·exact .inr ⟨g,cap,cur,h1,by omega,h3⟩
theorem zba {w W:World} (h:Below w.heap.size w W) (p q r:Value):Below w.heap.size w (((W.setCell ⟨w.heap.size,0,none⟩ p).setCell ⟨w.heap.size,1,none⟩ q).setCell ⟨w.heap.size,2,none⟩ r):=
 ((h.setCell (Nat.le_refl _) _).setCell (Nat.le_refl _) _).setCell (Nat.le_refl _) _
theorem zo3 (k n:Int) (v:Value) (l:List Ch) (w:World) (hs:SlR w v l.length (chs l)) (hl:l.length≤1000000):
 Calls Tryz.prog 210 #[.int .i64 k,.int .i64 n,v] w (zau (ziK k n l) w):=by
 obtain⟨a,cap,rfl,hc,hm⟩:=hs.shape;have hbw:Below w.heap.size w (w.alloc (.cells #[.int .i64 0,.int .i64 0,.slice none 0 0] 60)):=(Below.refl _ _).alloc (Nat.le_refl _) _;have HN:=lhd (zo5 k n _ l _ (hs.below hbw) hl);have hnl:(zjR k n l).length≤l.length:=zjL k l _;clear hs hbw;go_enter Tryz.func210,Tryz.ntmps210;go_wp2_with fail;refine HN.out.mono ?_;rintro e w1 ⟨v1,rfl,ho,hb⟩;obtain⟨a1,cap1,rfl,hc1,hm1⟩:=(SlR.of_own ho).shape;obtain⟨c0,c1,c2⟩:=box3 hb;obtain⟨f0,f1,f2⟩:=zbn hb;have HB:=lhd (zfg hb);have HO:=lhd ho;clear hb ho;by_cases hbig:4096<(zjR k n l).length
 ·have HR:=lhd (show ziK k n l=((0,0,[]),9)by unfold ziK;rw[if_pos hbig]);go_wp2_with fail;refine bodyPost_ret (v:=.tuple #[.agg #[.int .i64 0,.int .i64 0,.slice none 0 0],.int .i64 9]) (by simp[results,Tryz.results210,go_sem,c0,c1,c2]) rfl ?_;rw[HR.out];exact zau.zero 9 (zba HB.out _ _ _)
 ·have HR:=lhd (show ziK k n l=((k,n,zjR k n l),0)by unfold ziK;rw[if_neg hbig]);go_wp2_with fail;refine bodyPost_ret (v:=.tuple #[.agg #[.int .i64 k,.int .i64 n,.slice a1 (zjR k n l).length cap1],.int .i64 0]) (by simp[results,Tryz.results210,go_sem,c0,c1,c2]) rfl ?_;rw[HR.out];exact⟨_,rfl,zlI (zlK HO.out (by simp) _ _ _) (by simp),zba HB.out _ _ _⟩
def nzGo (k n:Int) (at_:Int):List Ch→Int
 | []=>0
 |c::l=>if c.1<at_∨1099511627776<c.1 then 2 else if vv k n c.2=false then 1 else nzGo k n c.1 l
def zjT (k n:Int) (l:List Ch):SigR:=if vt k n=false then((0,0,[]),7)else if nzGo k n 0 l≠0 then((0,0,[]),nzGo k n 0 l)else ziK k n l
theorem zoW (k n:Int) (v:Value) (l:List Ch) (w:World) (hg:Glob w) (hs:SlR w v l.length (chs l)) (hf:Fit l):
 Calls Tryz.prog 155 #[.int .i64 k,.int .i64 n,v] w (zau (zjT k n l) w):=by
 obtain⟨a,cap,rfl,hc,hm⟩:=hs.shape;have hln:=hf.1;unfold maxLen at hm;have HS:=lhd hs;have HG:=lhd hg;have HF:=lhd hf;clear hs hg hf;go_enter Tryz.func155,Tryz.ntmps155;go_wp2_with fail;refine(zr3 k n _).mono ?_;rintro e w1 ⟨rfl,hb⟩;cases hv:vt k n
 ·obtain⟨c0,c1,c2⟩:=box3 hb;obtain⟨f0,f1,f2⟩:=zbn hb;have HR:=lhd (show zjT k n l=((0,0,[]),7)by unfold zjT;rw[if_pos hv]);have HB:=lhd (zfg hb);clear hv hb;go_wp2_with fail;refine bodyPost_ret (v:=.tuple #[.agg #[.int .i64 0,.int .i64 0,.slice none 0 0],.int .i64 7]) (by simp[results,Tryz.results155,go_sem,c0,c1,c2]) rfl ?_;rw[HR.out];exact zau.zero 7 (zba HB.out _ _ _)
 have hR:zjT k n l=if nzGo k n 0 l≠0 then((0,0,[]),nzGo k n 0 l)else ziK k n l:=by unfold zjT;rw[if_neg (by rw[hv];simp)]
 have HR:=lhd hR;have HB:=lhd hb;clear hv hb hR;go_wp2_with fail
 go_loopw [8,18] (fun a_ i wr=>∃(j:Nat) (at_:Int),j≤l.length∧i=.int .i64 j∧a_=.int .i64 at_∧nzGo k n at_ (l.drop j)=nzGo k n 0 l∧
  Below (w.alloc (.cells #[.int .i64 0,.int .i64 0,.slice none 0 0] 60)).heap.size (w.alloc (.cells #[.int .i64 0,.int .i64 0,.slice none 0 0] 60)) wr)
  (fun _ i _=>l.length-(intOf i).toNat)
 case atStart=>exact⟨0,0,Nat.zero_le _,rfl,rfl,rfl,HB.out⟩
 case round=>
  obtain⟨j,at_,hj,rfl,rfl,hgo,hb⟩:=hrel;obtain⟨c0,c1,c2⟩:=box3 hb;obtain⟨f0,f1,f2⟩:=zbn hb;have hsz0:w.heap.size<wr.heap.size:=by have:=hb.size;simp at this;omega
  have HGO:=lhd hgo;have HB2:=lhd hb;have HBW:=lhd (zfg hb);clear hgo hb HB;by_cases hlt:j<l.length
  ·obtain⟨b,o,rfl,d0,d1⟩:=(HS.out.below HBW.out).ch hlt
   have hfit:l[j].2.size≤maxLen:=by
    have:=HF.out.2 l[j] (List.getElem_mem hlt);unfold maxLen;omega
   have HGO2:Hid ((if l[j].1<at_∨1099511627776<l[j].1 then 2 else if vv k n l[j].2=false then 1 else nzGo k n l[j].1 (l.drop (j+1)))=nzGo k n 0 l):=lhd (by
    have:=HGO.out;rw[List.drop_eq_getElem_cons hlt,nzGo]at this;exact this)
   generalize l[j]=c at d0 d1 hfit HGO2;obtain⟨t,s⟩:=c;simp only at d0 d1 hfit;by_cases hA:t<at_∨1099511627776<t
   ·have e:nzGo k n 0 l=2:=by rw[←HGO2.out,if_pos hA]
    have E2:=lhd (show zjT k n l=((0,0,[]),2)by rw[HR.out,e,if_pos (by decide)]);clear e;rcases hA with hA|hA
    all_goals
     go_wp2_with fail
    all_goals
     obtain⟨e0,e1,e2⟩:=set3 c0 c1 c2 (.int .i64 0) (.int .i64 0) (.slice none 0 0);have e0:=zbT e0 (.cells #[.int .i64 t,.string s] 57);have e1:=zbT e1 (.cells #[.int .i64 t,.string s] 57);have e2:=zbT e2 (.cells #[.int .i64 t,.string s] 57);refine bodyPost_ret (v:=.tuple #[.agg #[.int .i64 0,.int .i64 0,.slice none 0 0],.int .i64 2]) (by simp[results,Tryz.results155,go_sem,e0,e1,e2]) rfl ?_;rw[E2.out];exact zau.zero 2 ((zba HBW.out _ _ _).alloc (by simp;omega) _)
   ·obtain⟨hA1,hA2⟩:at_≤t∧t≤1099511627776:=by omega
    have HGO3:=lhd ((if_neg hA).symm.trans HGO2.out);clear hA;have hbw2:=HBW.out.alloc (by omega) (.cells #[.int .i64 t,.string s] 57);have HVal:=lhd (zr2 k n s _ (HG.out.below hbw2) hfit);clear hbw2;cases hV:vv k n s
    ·have e:nzGo k n 0 l=1:=by rw[←HGO3.out,if_pos hV]
     have E2:=lhd (show zjT k n l=((0,0,[]),1)by rw[HR.out,e,if_pos (by decide)]);clear e;go_wp2_with fail;refine HVal.out.mono ?_;rintro e w3 ⟨rfl,hb3⟩;rw[hV];clear hV;have hb4:=zfj HB2.out (zfg hb3);obtain⟨c0',c1',c2'⟩:=box3 hb4;obtain⟨f0',f1',f2'⟩:=zbn hb4;have HB4:=lhd (zfg hb4);clear hb4 hb3 c0 c1 c2 f0 f1 f2;go_wp2_with fail;refine bodyPost_ret (v:=.tuple #[.agg #[.int .i64 0,.int .i64 0,.slice none 0 0],.int .i64 1]) (by simp[results,Tryz.results155,go_sem,c0',c1',c2']) rfl ?_;rw[E2.out];exact zau.zero 1 (zba HB4.out _ _ _)
    ·have e:nzGo k n t (l.drop (j+1))=nzGo k n 0 l:=by rw[←HGO3.out,if_neg (by rw[hV];simp)]
     have E2:=lhd e;clear e;go_wp2_with fail;refine HVal.out.mono ?_;rintro e w3 ⟨rfl,hb3⟩;rw[hV];have hb4:=zfj HB2.out (zfg hb3);have p0:w3.cell? ⟨wr.heap.size,0,none⟩=some (.int .i64 t):=(boxN hb3 0).1;have HB4:=lhd hb4;clear hb4 hb3 c0 c1 c2 f0 f1 f2 hV;go_wp2_with fail;go_roundw;case rel=>exact⟨j+1,t,by omega,by go_num,rfl,E2.out,HB4.out⟩
     case measure=>simp[intOf];omega
  ·obtain rfl:j=l.length:=by omega
   have e:nzGo k n 0 l=0:=by rw[←HGO.out,List.drop_length];rfl
   have E2:=lhd (show zjT k n l=ziK k n l by rw[HR.out,e];simp);clear e;go_wp2_with fail;refine(zo3 k n _ l _ (HS.out.below HBW.out) hln).mono ?_;rintro e w3 ⟨v3,rfl,ho3,hb3⟩;obtain⟨a3,cap3,rfl,-,-⟩:=(SlR.of_own ho3).shape;have hb4:=zfj HB2.out hb3;obtain⟨c0',c1',c2'⟩:=box3 hb4;obtain⟨f0',f1',f2'⟩:=zbn hb4;have HB4:=lhd (zfg hb4);have HO3:=lhd ho3;clear hb4 hb3 c0 c1 c2 f0 f1 f2 ho3;go_wp2_with fail;refine bodyPost_ret (v:=.tuple #[.agg #[.int .i64 (ziK k n l).1.1,.int .i64 (ziK k n l).1.2.1,.slice a3 (ziK k n l).1.2.2.length cap3],.int .i64 (ziK k n l).2]) (by simp[results,Tryz.results155,go_sem,c0',c1',c2']) rfl ?_;rw[E2.out];exact⟨_,rfl,zlI (zlK HO3.out hsz0 _ _ _) (by omega),zba HB4.out _ _ _⟩
abbrev Sg:=Int×Int×List Ch
def val (v:ByteArray):List Ch→Int→ByteArray
 | [],_=>v
 |c::l,t=>val (if c.1≤t then c.2 else v) l t
theorem zr7 (v:ByteArray) (c:Ch) (l:List Ch) (t:Int):val v (c::l) t=val (if c.1≤t then c.2 else v) l t:=rfl
theorem val_append (t:Int):∀(l m:List Ch) (v:ByteArray),val v (l++m) t=val (val v l t) m t
 | [],_,_=>rfl
 |_::l,m,_=>val_append t l m _
def zaj (a:Int):List Ch→Prop
 | []=>True
 |c::l=>a≤c.1∧zaj c.1 l
theorem zaj.mono {a b:Int} (h:b≤a):∀{l:List Ch},zaj a l→zaj b l
 | [],_=>trivial
 |_::_,⟨h1,h2⟩=>⟨by omega,h2⟩
theorem zaj.mem {a:Int}:∀{l:List Ch},zaj a l→∀c∈l,a≤c.1
 | [],_,c,h=>by cases h
 |d::l,⟨h1,h2⟩,c,h=>by
  rcases List.mem_cons.1 h with rfl|h
  ·exact h1
  ·exact Int.le_trans h1 (zaj.mem h2 c h)
theorem zaj.sub {m:List Ch}:∀{l:List Ch} {a:Int},List.Sublist m l→zaj a l→zaj a m:=by
 intro l a hs;induction hs generalizing a with
 |slnil=>intro _;trivial
 |cons x _ ih=>intro h;exact(ih h.2).mono h.1
 |cons_cons x _ ih=>intro h;exact⟨h.1,ih h.2⟩
theorem zaj.append {a b:Int}:∀{l m:List Ch},zaj a l→(∀c∈l,c.1≤b)→a≤b→zaj b m→zaj a (l++m)
 | [],_,_,_,hab,hm=>hm.mono hab
 |c::_,_,⟨h1,h2⟩,hl,_,hm=>⟨h1,zaj.append h2 (fun d hd=>hl d (List.mem_cons_of_mem _ hd)) (hl c List.mem_cons_self) hm⟩
theorem zsb {v:ByteArray} {t:Int}:∀{l:List Ch} {a:Int},zaj a l→t<a→val v l t=v
 | [],_,_,_=>rfl
 |c::l,a,⟨h1,h2⟩,h=>by
  rw[zr7,if_neg (by omega)];exact zsb h2 (by omega)
theorem zr5 {t t':Int}:∀{l:List Ch} (v:ByteArray),(∀c∈l,c.1≤t)→t≤t'→val v l t'=val v l t
 | [],_,_,_=>rfl
 |c::l,v,h,ht=>by
  have h1:=h c List.mem_cons_self;rw[zr7,zr7,if_pos h1,if_pos (by omega)];exact zr5 _ (fun d hd=>h d (List.mem_cons_of_mem _ hd)) ht
theorem zsc {t:Int} (P:ByteArray→Prop):∀{l:List Ch} {v:ByteArray},P v→(∀c∈l,P c.2)→P (val v l t)
 | [],_,hv,_=>hv
 |c::l,v,hv,h=>by
  rw[zr7];refine zsc P ?_ (fun d hd=>h d (List.mem_cons_of_mem _ hd));split
  ·exact h c List.mem_cons_self
  ·exact hv
theorem zjN (k:Int):∀(l:List Ch) (v:ByteArray),(zjK k v l).Sublist l
 | [],_=>List.Sublist.refl _
 |c::l,v=>by
  unfold zjK;split
  ·exact(zjN k l v).cons _
  ·exact(zjN k l c.2).cons_cons _
theorem zjM {k a:Int} {v:ByteArray} {l:List Ch} (h:zaj a l):zaj a (zjK k v l):=h.sub (zjN k l v)
theorem zsd (k:Int) (t:Int):∀(l:List Ch) (v:ByteArray) (a:Int),zaj a l→val v (zjK k v l) t=val v l t
 | [],_,_,_=>rfl
 |c::l,v,a,⟨h1,h2⟩=>by
  unfold zjK;split
  ·rename_i hc
   rw[zsd k t l v c.1 h2,zr7];rcases hc with⟨d,hd,he⟩|⟨-,he⟩
   ·cases l with
    |nil=>simp at hd
    |cons d' l=>
     simp at hd;subst hd;rw[zr7,zr7,he];split<;>rfl
   ·rw[he];simp
  ·rw[zr7,zr7];by_cases ht:c.1≤t
   ·rw[if_pos ht];exact zsd k t l c.2 c.1 h2
   ·rw[if_neg ht,zsb h2 (by omega),zsb (zjM h2) (by omega)]
theorem zp1 (k n a:Int) (v:ByteArray) (c:Ch) (l:List Ch):svGo k n a v (c::l)=true↔a<c.1∧c.1≤1099511627776∧vv k n c.2=true∧(k≠3→c.2≠v)∧svGo k n c.1 c.2 l=true:=by
 rw[svGo];split
 ·rename_i h;exact⟨fun h=>by(cases h),fun h'=>by omega⟩
 ·rename_i h1
  split
  ·rename_i h2;exact⟨fun h=>by(cases h),fun h'=>by rw[h'.2.2.1]at h2;cases h2⟩
  ·rename_i h2
   split
   ·rename_i h3;exact⟨fun h=>by(cases h),fun h'=>absurd h3.2 (h'.2.2.2.1 h3.1)⟩
   ·rename_i h3
    exact⟨fun h=>⟨by omega,by omega,by simpa using h2,fun hk he=>h3 ⟨hk,he⟩,h⟩,fun h=>h.2.2.2.2⟩
theorem zp3 {k n:Int}:∀{l:List Ch} {a:Int} {v:ByteArray},svGo k n a v l=true→zaj (a+1) l
 | [],_,_,_=>trivial
 |c::l,a,v,h=>by
  obtain⟨h1,-,-,-,h5⟩:=(zp1 ..).1 h;exact⟨by omega,(zp3 h5).mono (by omega)⟩
theorem zp2 {k n:Int}:∀{l:List Ch} {a:Int} {v:ByteArray},svGo k n a v l=true→∀c∈l,a<c.1∧c.1≤1099511627776∧vv k n c.2=true
 | [],_,_,_,c,h=>by cases h
 |d::l,a,v,h,c,hc=>by
  obtain⟨h1,h2,h3,-,h5⟩:=(zp1 ..).1 h;rcases List.mem_cons.1 hc with rfl|hc
  ·exact⟨h1,h2,h3⟩
  ·have:=zp2 h5 c hc;exact⟨by omega,this.2⟩
theorem zp4 (k n:Int):∀(l:List Ch) (v:ByteArray) (a:Int),zaj (a+1) l→(∀c∈l,c.1≤1099511627776∧vv k n c.2=true)→svGo k n a v (zjK k v l)=true
 | [],_,_,_,_=>rfl
 |c::l,v,a,⟨h1,h2⟩,h=>by
  unfold zjK;split
  ·exact zp4 k n l v a (h2.mono h1) (fun d hd=>h d (List.mem_cons_of_mem _ hd))
  ·rename_i hc
   obtain⟨h3,h4⟩:=h c List.mem_cons_self;refine(zp1 ..).2 ⟨by omega,h3,h4,fun hk he=>hc (.inr ⟨hk,he⟩),zp4 k n l c.2 c.1 ?_ (fun d hd=>h d (List.mem_cons_of_mem _ hd))⟩;cases l with
   |nil=>trivial
   |cons d l=>
    have hne:d.1≠c.1:=fun he=>hc (.inl ⟨d,by simp,he⟩);exact⟨by have:=h2.1;omega,h2.2⟩
theorem zkq {k n:Int}:∀{l:List Ch} {a:Int},nzGo k n a l=0↔zaj a l∧∀c∈l,c.1≤1099511627776∧vv k n c.2=true
 | [],_=>⟨fun _=>⟨trivial,fun c h=>by cases h⟩,fun _=>rfl⟩
 |c::l,a=>by
  rw[nzGo];split
  ·rename_i h1
   refine⟨fun h=>absurd h (by decide),fun⟨h2,h3⟩=>?_⟩;have:=h2.1;have:=(h3 c List.mem_cons_self).1;omega
  ·rename_i h1
   split
   ·rename_i h2
    refine⟨fun h=>absurd h (by decide),fun⟨_,h3⟩=>?_⟩;have:=(h3 c List.mem_cons_self).2;rw[this]at h2;cases h2
   ·rename_i h2
    rw[zkq];refine⟨fun⟨h3,h4⟩=>⟨⟨by omega,h3⟩,fun d hd=>?_⟩,fun⟨h3,h4⟩=>⟨h3.2,fun d hd=>h4 d (List.mem_cons_of_mem _ hd)⟩⟩;rcases List.mem_cons.1 hd with rfl|hd
    ·exact⟨by omega,by simpa using h2⟩
    ·exact h4 d hd
theorem zp6 {k n:Int} {l:List Ch}:sv k n l=true↔vt k n=true∧l.length≤4096∧svGo k n (-1) (vi k n) l=true:=by
 unfold sv;rw[Bool.and_eq_true,Bool.and_eq_true,decide_eq_true_iff,and_assoc]
theorem zp8 {k n:Int} {l:List Ch} (h:sv k n l=true):zaj 0 l:=zp3 (zp6.1 h).2.2
theorem zp7 {k n:Int} {l:List Ch} (h:sv k n l=true):∀c∈l,0≤c.1∧c.1≤1099511627776∧vv k n c.2=true:=fun c hc=>by
 have:=zp2 (zp6.1 h).2.2 c hc;exact⟨by omega,this.2⟩
def Nrm (k n:Int) (l:List Ch):Prop:=vt k n=true∧l.length≤4096∧zaj 0 l∧∀c∈l,c.1≤1099511627776∧vv k n c.2=true
theorem Nrm.made {k n:Int} {l:List Ch} (h:Nrm k n l):ziK k n l=((k,n,zjR k n l),0):=by
 unfold ziK;have:=zjL k l (vi k n);have:=h.2.1;rw[if_neg (by unfold zjR;omega)]
theorem Nrm.sv {k n:Int} {l:List Ch} (h:Nrm k n l):sv k n (zjR k n l)=true:=
 zp6.2 ⟨h.1,by have:=zjL k l (vi k n);have:=h.2.1;unfold zjR;omega,zp4 k n l _ _ h.2.2.1 h.2.2.2⟩
theorem Nrm.val {k n:Int} {l:List Ch} (h:Nrm k n l) (t:Int):val (vi k n) (zjR k n l) t=val (vi k n) l t:=zsd k t l _ 0 h.2.2.1
theorem ziC {c:Ch} {l:List Ch} {t:Int} (h:c.1<t):lo (c::l) t=lo l t+1:=by
 unfold lo;rw[List.takeWhile_cons_of_pos (by simpa using h)];rfl
theorem ziB {c:Ch} {l:List Ch} {t:Int} (h:t≤c.1):lo (c::l) t=0:=by
 unfold lo;rw[List.takeWhile_cons_of_neg (by simp;omega)];rfl
theorem zrT (t:Int):∀(l:List Ch) (v:ByteArray) (a:Int),zaj a l→(match lo l (t+1)with|0=>v|j+1=>(l.getD j (0,⟨#[]⟩)).2)=val v l t
 | [],v,a,_=>rfl
 |c::l,v,a,⟨h1,h2⟩=>by
  by_cases hc:c.1≤t
  ·rw[ziC (by omega),zr7,if_pos hc,←zrT t l c.2 c.1 h2];cases lo l (t+1)with
   |zero=>rfl
   |succ j=>rfl
  ·rw[ziB (by omega),zr7,if_neg hc,zsb h2 (by omega)]
theorem vv3 {n:Int} {s:ByteArray} (h:vv 3 n s=true):s=⟨#[]⟩:=by
 unfold vv at h
 have:nilB s=true:=by
  revert h
  simp
 unfold nilB at this;have h0:s.size=0:=by simpa using this
 obtain⟨a⟩:=s;have:a=#[]:=Array.eq_empty_of_size_eq_zero h0;rw[this]
theorem vi3 {n:Int}:vi 3 n=⟨#[]⟩:=by unfold vi;simp
theorem zrS {k n:Int} {l:List Ch} (h:sv k n l=true) (t:Int):zrR k n l t=val (vi k n) l t:=by
 unfold zrR;split
 ·rename_i hk
  subst hk;have:=zsc (t:=t) (fun s=>s=⟨#[]⟩) (l:=l) (v:=vi 3 n) vi3 (fun c hc=>vv3 (zp7 h c hc).2.2);rw[this,vi3]
 ·exact zrT t l _ 0 (zp8 h)
theorem zaV {k n:Int} {l:List Ch} (h:sv k n l=true) {t:Int} (h0:0≤t) (h1:t≤1099511627776):atR k n l t=(val (vi k n) l t,0):=by
 unfold atR;rw[if_neg (by rw[h];simp),if_neg (by omega),zrS h]
abbrev Gp:=Int×Int
structure Tr where
 sc:Int
 dt:Bs
 vn:Bs
 cm:Bs
 S:List Sc
 V:List Vr
 G:List Sg
 P:List Gp
 en:Int
def tr0:Tr:=⟨0,[],[],[],[],[],[],[],0⟩
def zhW (t:Int):Int:=if t=3∨t=4 then 1 else if t=6 then 2 else if t=0 then 3 else 0
def spl:Bs→Bs→List Bs
 | [],cur=> [cur]
 |c::t,cur=>if c=32 then cur::spl t []else spl t (cur++ [c])
def ztz (w:Bs):Bool:=!decide (w=[])&&!decide (w.head? =some 36)&&w.all prn
def ztA (s:Bs):Bool:=decide (s=[])||((spl s []).all ztz&&decide (s.length≤200))
def zqw (t:Tr):Int:=if t.sc< -15∨2<t.sc then 2 else if(ztA t.dt&&ztA t.vn&&ztA t.cm)=true then 0 else 3
def sgI (G:List Sg) (n:Int):Sg:=G.getD n.toNat (0,0,[])
def zdV (t:Tr):Int:=
 if(zll t.S t.V).2.2.2≠0 then(zll t.S t.V).2.2.2
 else if(zll t.S t.V).2.2.1.any (fun n=>decide ((t.G.length:Int)≤n))=true then 1
 else if 64<(zll t.S t.V).2.2.1.length then 9 else 0
def sig1 (t:Tr):List Sg:=(zll t.S t.V).2.2.1.map (sgI t.G)
def zfq {α:Type} (f:α→Int):List α→Int
 | []=>0
 |x::l=>if f x≠0 then f x else zfq f l
def fitE (G:List Sg) (v:Vr):Int:=
 if(sgI G v.sg).1≠zhW v.ty∨(v.rg=true∧(sgI G v.sg).1≠0)then 7
 else if v.rg=true∧(sgI G v.sg).2.1≠ztw v.mb v.lb then 8 else 0
def zjJ (G:List Sg):Int:=zfq (fun s=>(zjT s.1 s.2.1 s.2.2).2) G
def zjO (G:List Sg):List Sg:=G.map fun s=>(zjT s.1 s.2.1 s.2.2).1
def zaD (acc:List Gp) (g:Gp):List Gp:=match acc.getLast? with
 |none=> [g]
 |some h=>if g.1≤h.2 then acc.dropLast++ [(h.1,max h.2 g.2)]else acc++ [g]
def zf2:Int→List Gp→Int→List Gp→Option (List Gp×Int)
 |_,acc,en,[]=>some (acc,en)
 |b,acc,en,g::t=>if g.1<b∨g.1<0∨g.2≤g.1∨1099511627777<g.2 then none else zf2 g.1 (zaD acc g) (max en (g.2-1)) t
def zif (G:List Sg) (en:Int):Int:=G.foldl (fun e s=>match s.2.2.getLast? with
 |none=>e
 |some c=>max e c.1) en
def zqB (t:Tr) (G:List Sg):Option (List Gp×Int):=
 if t.en<0∨1099511627776<t.en then none else(zf2 0 [] t.en t.P).map fun r=>(r.1,zif G r.2)
def zfU (en:Int) (g:Gp):Int:=if en<g.2 then 1099511627777 else g.2
def offL (x:ByteArray) (at_:Int→ByteArray) (en:Int):List Gp→List Ch→List Ch
 | [],cs=>cs
 |g::t,cs=>cs.takeWhile (fun c=>decide (c.1<g.1))++((g.1,x)::((if zfU en g≤1099511627776 then [(zfU en g,at_ (zfU en g))]else [])++
   offL x at_ en t ((cs.dropWhile fun c=>decide (c.1<g.1)).dropWhile fun c=>decide (c.1≤zfU en g))))
def offF (P:List Gp) (en:Int) (s:Sg):SigR:=zjT s.1 s.2.1 (offL (vi s.1 s.2.1) (fun t=>(atR s.1 s.2.1 s.2.2 t).1) en P s.2.2)
def clrE (P:List Gp) (en:Int) (G:List Sg):Int:=zfq (fun s=>if s.1=0 then(offF P en s).2 else 0) G
def clrL (P:List Gp) (en:Int) (G:List Sg):List Sg:=G.map fun s=>if s.1=0 then(offF P en s).1 else s
def zdp (G:List Sg):Nat:=(G.map fun s=>s.2.2.length).sum
def zcm (P:List Gp) (en:Int) (G:List Sg):Int:=
 if 16<P.length then 9 else if clrE P en G≠0 then clrE P en G else if 4096<zdp (clrL P en G)then 9 else 0
def zbv (t:Tr):Tr×Int:=
 if zqw t≠0 then(tr0,zqw t)
 else if zdV t≠0 then(tr0,zdV t)
 else if zfq (fitE (sig1 t)) (zll t.S t.V).2.1≠0 then(tr0,zfq (fitE (sig1 t)) (zll t.S t.V).2.1)
 else if zjJ (sig1 t)≠0 then(tr0,zjJ (sig1 t))
 else match zqB t (zjO (sig1 t))with
  |none=>(tr0,2)
  |some (P,en)=>if zcm P en (zjO (sig1 t))≠0 then(tr0,zcm P en (zjO (sig1 t)))
   else(⟨t.sc,t.dt,t.vn,t.cm,(zll t.S t.V).1,(zll t.S t.V).2.1,clrL P en (zjO (sig1 t)),P,en⟩,0)
def zsx (t:Tr):Prop:=zbv t=(t,0)
def sgC (x:Sg×Value):List Value:=[.int .i64 x.1.1,.int .i64 x.1.2.1,x.2]
def sgs (L:List (Sg×Value)):List Value:=L.flatMap sgC
theorem zoI (x:Sg×Value) (L:List (Sg×Value)):sgs (x::L)=.int .i64 x.1.1::.int .i64 x.1.2.1::x.2::sgs L:=rfl
theorem zoG (L M:List (Sg×Value)):sgs (L++M)=sgs L++sgs M:=by simp[sgs]
theorem zoJ (L:List (Sg×Value)):(sgs L).length=3*L.length:=by
 induction L with
 |nil=>rfl
 |cons x L ih=>rw[zoI,List.length_cons,List.length_cons,List.length_cons,List.length_cons,ih];omega
theorem zoH:∀(L:List (Sg×Value)) (k:Nat) (h:k<L.length),(sgs L)[3*k]? =some (.int .i64 L[k].1.1)∧(sgs L)[3*k+1]? =some (.int .i64 L[k].1.2.1)∧(sgs L)[3*k+2]? =some L[k].2
 |x::L,0,_=>⟨rfl,rfl,rfl⟩
 |x::L,k+1,h=>by
  have:=zoH L k (by simpa using h);rw[zoI,show 3*(k+1)=3*k+1+1+1 by omega];simpa using this
structure Sigs (w:World) (v:Value) (L:List (Sg×Value)):Prop where
 s:SlR w v L.length (sgs L)
 m:∀x∈L,SlR w x.2 x.1.2.2.length (chs x.1.2.2)
theorem Sigs.below {w W:World} {v:Value} {L:List (Sg×Value)} (h:Sigs w v L) (hb:Below w.heap.size w W):Sigs W v L:=⟨h.s.below hb,fun x hx=>(h.m x hx).below hb⟩
theorem Sigs.at {w:World} {a:Option Addr} {cap:Nat} {L:List (Sg×Value)} (h:Sigs w (.slice a L.length cap) L) {j:Nat} (hj:j<L.length):
 ∃b o,a=some ⟨b,o,none⟩∧w.cell? ⟨b,o+j*3,none⟩=some (.int .i64 L[j].1.1)∧w.cell? ⟨b,o+j*3+1,none⟩=some (.int .i64 L[j].1.2.1)∧w.cell? ⟨b,o+j*3+2,none⟩=some L[j].2∧SlR w L[j].2 L[j].1.2.2.length (chs L[j].1.2.2):=by
 obtain⟨b,o,cap',hv,-,-,hcell⟩:=h.s.at (by omega);injection hv with e1 _ _;obtain⟨h0,h1,h2⟩:=zoH L j hj;refine⟨b,o,e1,?_,?_,?_,h.m _ (List.getElem_mem hj)⟩
 ·have:=hcell _ _ h0;rwa [Nat.mul_comm 3 j]at this
 ·have:=hcell _ _ h1;rwa [Nat.mul_comm 3 j,←Nat.add_assoc]at this
 ·have:=hcell _ _ h2;rwa [Nat.mul_comm 3 j,←Nat.add_assoc]at this
end Go.Proofs.YtfppgpamkdkckaaGreatDoor
