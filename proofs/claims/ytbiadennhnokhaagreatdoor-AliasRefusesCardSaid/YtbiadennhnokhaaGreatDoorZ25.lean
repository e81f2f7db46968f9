import Derived.Test.YtbiadennhnokhaaGreatDoorZ00
import Derived.Test.YtbiadennhnokhaaGreatDoorZ18
import Derived.Test.YtbiadennhnokhaaGreatDoorZ24
set_option maxRecDepth 100000
set_option maxHeartbeats 16000000
namespace Go.Proofs.YtbiadennhnokhaaGreatDoor
open Go.RowKit
def nats (st:List Nat):List Value:=st.map fun(k:Nat)=>Value.int .i64 (k:Int)
def zq7 (b:Bool) (w:World) (e:Ending) (w':World):Prop:=(∃i:Int,e=.returned (.int .i64 i)∧decide (0≤i)=b∧ -1≤i)∧Below w.heap.size w w'
theorem zrs {p:Sg→Bool} {L:List (Sg×Value)} {j:Nat} (h:j<L.length):(L.drop j).any (fun x=>p x.1)=(p L[j].1||(L.drop (j+1)).any (fun x=>p x.1)):=by
 rw[List.drop_eq_getElem_cons h,List.any_cons]
theorem zsW (pt:Nat) (p:Sg→Bool) (v:Value) (L:List (Sg×Value)) (w:World) (hs:Sigs w v L)
 (hF:∀x∈L,∀W,Below w.heap.size w W→Calls Tryz.prog 154 #[.agg #[.int .i64 x.1.1,.int .i64 x.1.2.1,x.2],.pointer (some ⟨pt,0,none⟩)] W fun e w'=>e=.returned (.bool (p x.1))∧Below W.heap.size W w'):
 Calls Tryz.prog 108 #[v,.func (.func 154) #[] #[.pointer (some ⟨pt,0,none⟩)]] w (zq7 (L.any fun x=>p x.1) w):=by
 obtain⟨a,cap,rfl,hc,hm⟩:=hs.s.shape;unfold maxLen at hm;have HS:=lhd hs;have HF:=lhd hF;clear hs hF;go_enter Tryz.func108,Tryz.ntmps108;go_wp2_with fail;go_loopw [8] (fun i wr=>∃j:Nat,j≤L.length∧i=.int .i64 j∧(L.drop j).any (fun x=>p x.1)=L.any (fun x=>p x.1)∧Below w.heap.size w wr) (fun i _=>L.length-(intOf i).toNat)
 case atStart=>exact⟨0,Nat.zero_le _,rfl,rfl,Below.refl _ _⟩
 case round=>
  obtain⟨j,hj,rfl,hgo,hb⟩:=hrel;have HGO:=lhd hgo;have HB:=lhd hb;clear hgo hb;by_cases hlt:j<L.length
  ·obtain⟨b,o,rfl,d0,d1,d2,hd⟩:=(HS.out.below HB.out).at hlt;have HC:=lhd (fun W hW=>HF.out L[j] (List.getElem_mem hlt) W hW);have HGO2:=lhd ((zrs (p:=p) hlt).symm.trans HGO.out);generalize L[j]=x at d0 d1 d2 hd HC HGO2;obtain⟨⟨xk,xn,xl⟩,xv⟩:=x;dsimp only at d0 d1 d2 hd HC HGO2;obtain⟨xa,xc,rfl,-,-⟩:=hd.shape;clear hd;go_wp2_with fail;refine(HC.out _ HB.out).mono ?_;rintro e w1 ⟨rfl,hb1⟩;have HB1:=lhd (zem HB.out hb1);clear hb1 d0 d1 d2;cases hp:p (xk,xn,xl)
   ·have HGO3:=lhd (show(L.drop (j+1)).any (fun x=>p x.1)=L.any (fun x=>p x.1)by rw[←HGO2.out,hp,Bool.false_or]);clear hp;go_wp2_with fail;go_roundw;case rel=>exact⟨j+1,by omega,by go_num,HGO3.out,HB1.out⟩
    case measure=>simp[intOf];omega
   ·have HR:=lhd (show true=L.any (fun x=>p x.1)by rw[←HGO2.out,hp];rfl);clear hp;go_wp2_with fail;go_ret;exact⟨⟨j,rfl,by rw[←HR.out];simp,by omega⟩,HB1.out⟩
  ·obtain rfl:j=L.length:=by omega
   have HR:=lhd (show false=L.any (fun x=>p x.1)by rw[←HGO.out,List.drop_length];rfl);go_wp2_with fail;go_ret;exact⟨⟨-1,rfl,by rw[←HR.out];rfl,by omega⟩,HB.out⟩
theorem zrR (pt:Nat) (p:Sg→Bool) (v:Value) (L:List (Sg×Value)) (w:World) (hs:Sigs w v L)
 (hF:∀x∈L,∀W,Below w.heap.size w W→Calls Tryz.prog 154 #[.agg #[.int .i64 x.1.1,.int .i64 x.1.2.1,x.2],.pointer (some ⟨pt,0,none⟩)] W fun e w'=>e=.returned (.bool (p x.1))∧Below W.heap.size W w'):
 Calls Tryz.prog 41 #[v,.func (.func 154) #[] #[.pointer (some ⟨pt,0,none⟩)]] w fun e w'=>e=.returned (.bool (L.any fun x=>p x.1))∧Below w.heap.size w w':=by
 have HI:=lhd (zsW pt p v L w hs hF);generalize (L.any fun x=>p x.1)=r at HI⊢;obtain⟨a,cap,rfl,hc,hm⟩:=hs.s.shape;clear hs hF;go_enter Tryz.func41,Tryz.ntmps41;go_wp2_with fail;refine HI.out.mono ?_;rintro e w1 ⟨⟨i,rfl,hi,hi1⟩,hb⟩;have HH:=lhd hi;clear hi;go_wp2_with fail;go_ret;exact⟨zli HH.out,hb⟩
open Go.Joins Go.ChangeShapes Go.WideShapes Go.RowKit Go.Deep
def dvC (d:Dv):List Value:=[.int .i64 d.1,.int .i64 d.2.1,.bool d.2.2]
def dvs (l:List Dv):List Value:=l.flatMap dvC
theorem zr0 (l m:List Dv):dvs (l++m)=dvs l++dvs m:=by simp[dvs]
theorem zr2 (d:Dv) (l:List Dv):dvs (d::l)=.int .i64 d.1::.int .i64 d.2.1::.bool d.2.2::dvs l:=rfl
theorem zr3 (l:List Dv):(dvs l).length=3*l.length:=by
 induction l with
 |nil=>rfl
 |cons x l ih=>rw[zr2,List.length_cons,List.length_cons,List.length_cons,List.length_cons,ih];omega
theorem zr1:∀(l:List Dv) (k:Nat) (h:k<l.length),(dvs l)[3*k]? =some (.int .i64 l[k].1)∧(dvs l)[3*k+1]? =some (.int .i64 l[k].2.1)∧(dvs l)[3*k+2]? =some (.bool l[k].2.2)
 |x::l,0,_=>⟨rfl,rfl,rfl⟩
 |x::l,k+1,h=>by
  have:=zr1 l k (by simpa using h);rw[zr2,show 3*(k+1)=3*k+1+1+1 by omega];simpa using this
theorem zt5 {w:World} {a:Addr}:∀{m:Nat},(∀i,i<m→∃x:Sg×Value,w.cell? (a.add (i*3))=some (.int .i64 x.1.1)∧w.cell? (a.add (i*3+1))=some (.int .i64 x.1.2.1)∧w.cell? (a.add (i*3+2))=some x.2∧SlR w x.2 x.1.2.2.length (chs x.1.2.2))→
 ∃L:List (Sg×Value),L.length=m∧(∀j u,(sgs L)[j]? =some u→w.cell? (a.add j)=some u)∧∀x∈L,SlR w x.2 x.1.2.2.length (chs x.1.2.2)
 |0,_=>⟨[],rfl,fun j u h=>by simp[sgs]at h,by simp⟩
 |m+1,h=>by
  obtain⟨L,hl,hc,hm⟩:=zt5 (m:=m) fun i hi=>h i (by omega);obtain⟨x,h0,h1,h2,h3⟩:=h m (by omega);refine⟨L++ [x],by simp[hl],fun j u hj=>?_,fun y hy=>?_⟩
  ·rw[zmX]at hj;by_cases hlt:j<(sgs L).length
   ·rw[List.getElem?_append_left hlt]at hj;exact hc j u hj
   ·rw[List.getElem?_append_right (by omega)]at hj;have hcl:=zm0 L;have hj2:(sgC x)[j-(sgs L).length]? =some u:=by simpa[sgs] using hj
    have hjl:=(List.getElem?_eq_some_iff.1 hj2).1;simp[sgC]at hjl;rcases(show j=m*3∨j=m*3+1∨j=m*3+2 by omega)with h'|h'|h'
    ·subst h';rw[show m*3-(sgs L).length=0 by omega]at hj2;obtain rfl:=Option.some.inj hj2;exact h0
    ·subst h';rw[show m*3+1-(sgs L).length=1 by omega]at hj2;obtain rfl:=Option.some.inj hj2;exact h1
    ·subst h';rw[show m*3+2-(sgs L).length=2 by omega]at hj2;obtain rfl:=Option.some.inj hj2;exact h2
  ·rcases List.mem_append.1 hy with hy|hy
   ·exact hm y hy
   ·rw[List.mem_singleton]at hy;subst hy;exact h3
theorem zr5 {w:World} {a:Addr}:∀{m:Nat},(∀i,i<m→∃x:Dv,w.cell? (a.add (i*3))=some (.int .i64 x.1)∧w.cell? (a.add (i*3+1))=some (.int .i64 x.2.1)∧w.cell? (a.add (i*3+2))=some (.bool x.2.2))→
 ∃L:List Dv,L.length=m∧∀j u,(dvs L)[j]? =some u→w.cell? (a.add j)=some u
 |0,_=>⟨[],rfl,fun j u h=>by simp[dvs]at h⟩
 |m+1,h=>by
  obtain⟨L,hl,hc⟩:=zr5 (m:=m) fun i hi=>h i (by omega);obtain⟨x,h0,h1,h2⟩:=h m (by omega);refine⟨L++ [x],by simp[hl],fun j u hj=>?_⟩;rw[zr0]at hj;by_cases hlt:j<(dvs L).length
  ·rw[List.getElem?_append_left hlt]at hj;exact hc j u hj
  ·rw[List.getElem?_append_right (by omega)]at hj;have hcl:=zr3 L;have hj2:(dvC x)[j-(dvs L).length]? =some u:=by simpa[dvs] using hj
   have hjl:=(List.getElem?_eq_some_iff.1 hj2).1;simp[dvC]at hjl;rcases(show j=m*3∨j=m*3+1∨j=m*3+2 by omega)with h'|h'|h'
   ·subst h';rw[show m*3-(dvs L).length=0 by omega]at hj2;obtain rfl:=Option.some.inj hj2;exact h0
   ·subst h';rw[show m*3+1-(dvs L).length=1 by omega]at hj2;obtain rfl:=Option.some.inj hj2;exact h1
   ·subst h';rw[show m*3+2-(dvs L).length=2 by omega]at hj2;obtain rfl:=Option.some.inj hj2;exact h2
theorem zte {H:Type} {enc:TypeId×Value→H} {w:World} {base:Nat} {spare:Nat→Bool} {held:Bool} {fuel:Nat} {cs:List Value} {x:DataW H×List MemPlace}
 (h:DataW.trod enc Tryz.prog w base spare held fuel 24 cs=some x):∃(v:Value) (L:List (Sg×Value)),cs=[v]∧Sigs w v L:=by
 rcases ztf Tryz.underlying24 Tryz.underlying45 (by kernel_rfl) (by kernel_rfl) h with⟨rfl,-⟩|⟨a,len,cap,m,D,Pl,rfl,hb,hl,hm,hmm,-,hi⟩
 ·exact⟨_,[],rfl,SlR.nil _,by simp⟩
 ·have hlm:len≤m:=by rw[hmm];split<;>omega
  obtain⟨L,hll,hc,hr⟩:=zt5 (w:=w) (a:=a) (m:=len) fun i him=>by
   obtain⟨ys,n,-,-,-,hf⟩:=hi i (by omega);obtain⟨v0,y0,hc0,-,ht0⟩:=hf 0 _ rfl;obtain⟨v1,y1,hc1,-,ht1⟩:=hf 1 _ rfl;obtain⟨v2,y2,hc2,-,ht2⟩:=hf 2 _ rfl;obtain⟨k,e0,-,-⟩:=DataW.trod_int Tryz.underlying3 ht0;obtain⟨q,e1,-,-⟩:=DataW.trod_int Tryz.underlying3 ht1;obtain⟨u,l,e2,hsl⟩:=ztc ht2;simp only[List.cons.injEq,and_true]at e0 e1 e2;subst e0 e1 e2;exact⟨((k,q,l),_),hc0,hc1,hc2,hsl⟩
  subst hll;refine⟨_,L,rfl,⟨some a,cap,rfl,hl,hm,fun h=>by simp at h,fun hn=>?_⟩,hr⟩;have hpos:0<L.length:=by simpa using hn
  have hsp:a.spot=none:=by
   have h0:=hc 0 _ (zmY L 0 hpos).1;have:=zuj h0;simpa[Addr.add] using this
  obtain⟨b,o,sp⟩:=a;simp only at hsp;subst hsp;exact⟨b,o,rfl,fun j u hj=>by have:=hc j u hj;rwa [zaF]at this⟩
theorem ztd {H:Type} {enc:TypeId×Value→H} {w:World} {base:Nat} {spare:Nat→Bool} {held:Bool} {fuel:Nat} {cs:List Value} {x:DataW H×List MemPlace}
 (h:DataW.trod enc Tryz.prog w base spare held fuel 76 cs=some x):∃(v:Value) (L:List Dv),cs=[v]∧SlR w v L.length (dvs L):=by
 rcases ztf Tryz.underlying76 Tryz.underlying87 (by kernel_rfl) (by kernel_rfl) h with⟨rfl,-⟩|⟨a,len,cap,m,D,Pl,rfl,hb,hl,hm,hmm,-,hi⟩
 ·exact⟨_,[],rfl,SlR.nil _⟩
 ·have hlm:len≤m:=by rw[hmm];split<;>omega
  obtain⟨L,hll,hc⟩:=zr5 (w:=w) (a:=a) (m:=len) fun i him=>by
   obtain⟨ys,n,-,-,-,hf⟩:=hi i (by omega);obtain⟨v0,y0,hc0,-,ht0⟩:=hf 0 _ rfl;obtain⟨v1,y1,hc1,-,ht1⟩:=hf 1 _ rfl;obtain⟨v2,y2,hc2,-,ht2⟩:=hf 2 _ rfl;obtain⟨k,e0,-,-⟩:=DataW.trod_int Tryz.underlying3 ht0;obtain⟨q,e1,-,-⟩:=DataW.trod_int Tryz.underlying3 ht1;obtain⟨b,e2,-⟩:=DataW.trod_bool Tryz.underlying4 ht2;simp only[List.cons.injEq,and_true]at e0 e1 e2;subst e0 e1 e2;exact⟨(k,q,b),hc0,hc1,hc2⟩
  subst hll;refine⟨_,L,rfl,some a,cap,rfl,hl,hm,fun h=>by simp at h,fun hn=>?_⟩;have hpos:0<L.length:=by simpa using hn
  have hsp:a.spot=none:=by
   have h0:=hc 0 _ (zr1 L 0 hpos).1;have:=zuj h0;simpa[Addr.add] using this
  obtain⟨b,o,sp⟩:=a;simp only at hsp;subst hsp;exact⟨b,o,rfl,fun j u hj=>by have:=hc j u hj;rwa [zaF]at this⟩
theorem zrr (s:Sg) (v:Value) (w:World) (hv:∃a n c,v=.slice a n c):Calls Tryz.prog 106 #[.agg #[.int .i64 s.1,.int .i64 s.2.1,v]] w fun e w'=>e=.returned (.bool (tyS s))∧Below w.heap.size w w':=by
 obtain⟨a,n,c,rfl⟩:=hv;go_enter Tryz.func106,Tryz.ntmps106;go_wp2_with fail;refine(zpC s.1 s.2.1 _).mono ?_;rintro e w1 ⟨rfl,hb⟩;go_wp2_with fail;go_ret;exact⟨rfl,zel hb⟩
theorem zrh (pt:Nat) (s:Sg) (v:Value) (w:World) (hp:w.cell? ⟨pt,0,none⟩=some (.func (.func 43) #[] #[])) (hv:∃a n c,v=.slice a n c)
 (hF:∀W,Below w.heap.size w W→Calls Tryz.prog 43 #[.agg #[.int .i64 s.1,.int .i64 s.2.1,v]] W fun e w'=>e=.returned (.bool (svS s))∧Below W.heap.size W w'):
 Calls Tryz.prog 154 #[.agg #[.int .i64 s.1,.int .i64 s.2.1,v],.pointer (some ⟨pt,0,none⟩)] w fun e w'=>e=.returned (.bool (!svS s))∧Below w.heap.size w w':=by
 obtain⟨a,n,c,rfl⟩:=hv;have HF:=lhd hF;have hp':=zbS hp (.cells #[.int .i64 s.1,.int .i64 s.2.1,.slice a n c] 45);clear hF hp;go_enter Tryz.func154,Tryz.ntmps154;go_wp2_with fail;refine(HF.out _ ((Below.refl _ _).alloc (Nat.le_refl _) _)).mono ?_;rintro e w1 ⟨rfl,hb⟩;go_wp2_with fail;go_ret;exact⟨rfl,zel hb⟩
theorem zrj (v:Value) (L:List (Sg×Value)) (w:World) (hs:Sigs w v L)
 (hF:∀x∈L,∀W,Below w.heap.size w W→Calls Tryz.prog 43 #[.agg #[.int .i64 x.1.1,.int .i64 x.1.2.1,x.2]] W fun e w'=>e=.returned (.bool (svS x.1))∧Below W.heap.size W w'):
 Calls Tryz.prog 104 #[v,(.func (.func 43) #[] #[])] w fun e w'=>e=.returned (.bool (L.all fun x=>svS x.1))∧Below w.heap.size w w':=by
 have hb0:Below w.heap.size w (w.alloc (.cells #[(.func (.func 43) #[] #[])] 82)):=(Below.refl _ _).alloc (Nat.le_refl _) _;have hc0:=(zal.fresh w #[(.func (.func 43) #[] #[])] 82).cell (j:=0) rfl
 have HC:=lhd (zrR w.heap.size (fun s=>!svS s) v L _ (hs.below hb0) (fun x hx W hW=>by
  have hcell:=(hW.cell (p:=⟨w.heap.size,0,none⟩) (by simp)).trans hc0;obtain⟨a,c,e,-,-⟩:=((hs.m x hx)).shape;exact zrh w.heap.size x.1 x.2 W hcell ⟨_,_,_,e⟩ (fun W' hW'=>hF x hx W' ((hb0.trans (hW.mono hb0.size)).trans (hW'.mono (Nat.le_trans hb0.size hW.size))))))
 have HR:=lhd (show(!L.any fun x=>!svS x.1)=L.all fun x=>svS x.1 by rw[List.not_any_eq_all_not];simp);obtain⟨a,cap,rfl,hc,hm⟩:=hs.s.shape;clear hs hF hc0 hb0;go_enter Tryz.func104,Tryz.ntmps104;go_wp2_with fail;refine HC.out.mono ?_;rintro e w1 ⟨rfl,hb⟩;go_wp2_with fail;go_ret;exact⟨zli HR.out,zel hb⟩
theorem zrg (pt:Nat) (s:Sg) (v:Value) (w:World) (hp:w.cell? ⟨pt,0,none⟩=some (.func (.func 106) #[] #[])) (hv:∃a n c,v=.slice a n c)
 (hF:∀W,Below w.heap.size w W→Calls Tryz.prog 106 #[.agg #[.int .i64 s.1,.int .i64 s.2.1,v]] W fun e w'=>e=.returned (.bool (tyS s))∧Below W.heap.size W w'):
 Calls Tryz.prog 154 #[.agg #[.int .i64 s.1,.int .i64 s.2.1,v],.pointer (some ⟨pt,0,none⟩)] w fun e w'=>e=.returned (.bool (!tyS s))∧Below w.heap.size w w':=by
 obtain⟨a,n,c,rfl⟩:=hv;have HF:=lhd hF;have hp':=zbS hp (.cells #[.int .i64 s.1,.int .i64 s.2.1,.slice a n c] 45);clear hF hp;go_enter Tryz.func154,Tryz.ntmps154;go_wp2_with fail;refine(HF.out _ ((Below.refl _ _).alloc (Nat.le_refl _) _)).mono ?_;rintro e w1 ⟨rfl,hb⟩;go_wp2_with fail;go_ret;exact⟨rfl,zel hb⟩
theorem zri (v:Value) (L:List (Sg×Value)) (w:World) (hs:Sigs w v L)
 (hF:∀x∈L,∀W,Below w.heap.size w W→Calls Tryz.prog 106 #[.agg #[.int .i64 x.1.1,.int .i64 x.1.2.1,x.2]] W fun e w'=>e=.returned (.bool (tyS x.1))∧Below W.heap.size W w'):
 Calls Tryz.prog 104 #[v,(.func (.func 106) #[] #[])] w fun e w'=>e=.returned (.bool (L.all fun x=>tyS x.1))∧Below w.heap.size w w':=by
 have hb0:Below w.heap.size w (w.alloc (.cells #[(.func (.func 106) #[] #[])] 82)):=(Below.refl _ _).alloc (Nat.le_refl _) _;have hc0:=(zal.fresh w #[(.func (.func 106) #[] #[])] 82).cell (j:=0) rfl
 have HC:=lhd (zrR w.heap.size (fun s=>!tyS s) v L _ (hs.below hb0) (fun x hx W hW=>by
  have hcell:=(hW.cell (p:=⟨w.heap.size,0,none⟩) (by simp)).trans hc0;obtain⟨a,c,e,-,-⟩:=((hs.m x hx)).shape;exact zrg w.heap.size x.1 x.2 W hcell ⟨_,_,_,e⟩ (fun W' hW'=>hF x hx W' ((hb0.trans (hW.mono hb0.size)).trans (hW'.mono (Nat.le_trans hb0.size hW.size))))))
 have HR:=lhd (show(!L.any fun x=>!tyS x.1)=L.all fun x=>tyS x.1 by rw[List.not_any_eq_all_not];simp);obtain⟨a,cap,rfl,hc,hm⟩:=hs.s.shape;clear hs hF hc0 hb0;go_enter Tryz.func104,Tryz.ntmps104;go_wp2_with fail;refine HC.out.mono ?_;rintro e w1 ⟨rfl,hb⟩;go_wp2_with fail;go_ret;exact⟨zli HR.out,zel hb⟩
def zq9 (v:Value) (st:Sg) (r:Sg×Bool) (B:Nat) (w':World) (v':Value):Prop:=(v'=v∧r.1=st)∨w'.ownsRow B 53 2 v' r.1.2.2.length (chs r.1.2.2)
def zra (v:Value) (st:Sg) (r:Sg×Bool) (w:World) (e:Ending) (w':World):Prop:=
 ∃v',e=.returned (.tuple #[.agg #[.int .i64 r.1.1,.int .i64 r.1.2.1,v'],.bool r.2])∧zq9 v st r w.heap.size w' v'∧Below w.heap.size w w'
theorem zq9.slr {v v':Value} {st:Sg} {r:Sg×Bool} {B:Nat} {w':World} (h:zq9 v st r B w' v') (hs:SlR w' v st.2.2.length (chs st.2.2)):SlR w' v' r.1.2.2.length (chs r.1.2.2):=by
 rcases h with⟨rfl,e⟩|h
 ·rw[e];exact hs
 ·exact SlR.of_own h
theorem zq9.set3 {v v':Value} {st:Sg} {r:Sg×Bool} {B b:Nat} {w':World} (h:zq9 v st r B w' v') (hb:b<B) (x y z:Value):zq9 v st r B (((w'.setCell ⟨b,0,none⟩ x).setCell ⟨b,1,none⟩ y).setCell ⟨b,2,none⟩ z) v':=
 h.imp id fun h=>zjK h hb x y z
theorem zue {n:Int} {l:List Ch} {fr width:Int} (h:(zua 0 n l fr width).2=0):∃p,zua 0 n l fr width=((0,width,p),0)∧sv 0 width p=true:=by
 have hv:sv 0 n l=true:=by
  cases hv:sv 0 n l
  ·unfold zua at h;rw[if_pos hv]at h;cases h
  ·rfl
 rcases zub (from_:=fr) (width:=width) hv with h'|h'
 ·rw[h']at h;cases h
 ·obtain⟨p,e1,e2,-,-⟩:=zud hv h';exact⟨p,e1,e2⟩
structure PaSt (w W:World) (s:List Value) (d:List Value):Prop where
 s:zal W w.heap.size s
 d:zal W (w.heap.size+1) d
 r:zal W (w.heap.size+1+1) [.int .i64 0,.int .i64 0,.slice none 0 0]
 b:Below w.heap.size w W
 z:w.heap.size+1+1<W.heap.size
theorem PaSt.start (w:World) (S D:Array Value) (T T2:TypeId):PaSt w (((w.alloc (.cells S T)).alloc (.cells D T2)).alloc (.cells #[.int .i64 0,.int .i64 0,.slice none 0 0] T)) S.toList D.toList:=by
 refine⟨?_,?_,?_,(((Below.refl _ _).alloc (Nat.le_refl _) _).alloc (by simp) _).alloc (by simp;omega) _,by simp⟩
 ·exact((zal.fresh w S _).alloc (by simp) _).alloc (by simp;omega) _
 ·have h:=zal.fresh (w.alloc (.cells S T)) D T2;simp only[World.size_alloc]at h;exact h.alloc (by simp) _
 ·have h:=zal.fresh ((w.alloc (.cells S T)).alloc (.cells D T2)) #[.int .i64 0,.int .i64 0,.slice none 0 0] T;simp only[World.size_alloc]at h;exact h
theorem PaSt.later {w W W':World} {s d:List Value} (h:PaSt w W s d) {B:Nat} (hb:Below B W W') (hB:w.heap.size+1+1<B):PaSt w W' s d:=
 ⟨h.s.below hb (by omega),h.d.below hb (by omega),h.r.below hb hB,h.b.trans (hb.mono (by omega)),by have:=hb.size;have:=h.z;omega⟩
theorem PaSt.fin {w W:World} {s d:List Value} (h:PaSt w W s d) (x y z:Value):
 (((((W.setCell ⟨w.heap.size+1+1,0,none⟩ x).setCell ⟨w.heap.size+1+1,1,none⟩ y).setCell ⟨w.heap.size+1+1,2,none⟩ z).cell? ⟨w.heap.size+1+1,0,none⟩=some x∧(((W.setCell ⟨w.heap.size+1+1,0,none⟩ x).setCell ⟨w.heap.size+1+1,1,none⟩ y).setCell ⟨w.heap.size+1+1,2,none⟩ z).cell? ⟨w.heap.size+1+1,1,none⟩=some y∧(((W.setCell ⟨w.heap.size+1+1,0,none⟩ x).setCell ⟨w.heap.size+1+1,1,none⟩ y).setCell ⟨w.heap.size+1+1,2,none⟩ z).cell? ⟨w.heap.size+1+1,2,none⟩=some z))∧
  Below w.heap.size w (((W.setCell ⟨w.heap.size+1+1,0,none⟩ x).setCell ⟨w.heap.size+1+1,1,none⟩ y).setCell ⟨w.heap.size+1+1,2,none⟩ z):=
 ⟨set3 (h.r.cell (j:=0) rfl) (h.r.cell (j:=1) rfl) (h.r.cell (j:=2) rfl) x y z,zrz h.b (by omega) _ _ _⟩
theorem PaSt.setO {w W:World} {s d:List Value} (h:PaSt w W s d) {b:Nat} (hb:w.heap.size+1+1<b) (p q r:Value):PaSt w (((W.setCell ⟨b,0,none⟩ p).setCell ⟨b,1,none⟩ q).setCell ⟨b,2,none⟩ r) s d:=
 ⟨((h.s.setOther (by omega) _ _).setOther (by omega) _ _).setOther (by omega) _ _,((h.d.setOther (by omega) _ _).setOther (by omega) _ _).setOther (by omega) _ _,
  ((h.r.setOther (by omega) _ _).setOther (by omega) _ _).setOther (by omega) _ _,zrz h.b (by omega) _ _ _,by have:=h.z;simpa using this⟩
theorem zrn (st:Sg) (v:Value) (of_ fr width:Int) (inv:Bool) (w:World) (hg:Glob w) (hs:SlR w v st.2.2.length (chs st.2.2)) (hf:Fit st.2.2):
 Calls Tryz.prog 105 #[.agg #[.int .i64 st.1,.int .i64 st.2.1,v],.agg #[.int .i64 of_,.int .i64 fr,.bool inv],.int .i64 width] w (zra v st (ztw st fr inv width) w):=by
 obtain⟨k,n,l⟩:=st;dsimp only at hs hf⊢;obtain⟨a,cap,rfl,hc,hm⟩:=hs.shape;have hst:=PaSt.start w #[.int .i64 k,.int .i64 n,.slice a l.length cap] #[.int .i64 of_,.int .i64 fr,.bool inv] 45 87;have HST:=lhd hst;have HS:=lhd hs;have HG:=lhd hg;by_cases hk:k≠0
 ·have HR:=lhd (zty (st:=(k,n,l)) hk fr inv width);have hkb:(k !=0)=true:=by rw[bne_iff_ne];exact hk
  clear hk hst hs hg hf;go_enter Tryz.func105,Tryz.ntmps105;go_wp2_with fail;refine bodyPost_ret (v:=.tuple #[.agg #[.int .i64 k,.int .i64 n,.slice a l.length cap],.bool true]) (by simp[results,Tryz.results105,go_sem]) rfl ?_;rw[HR.out];have hbb:Below w.heap.size w (((w.alloc (.cells #[.int .i64 k,.int .i64 n,.slice a l.length cap] 45)).alloc (.cells #[.int .i64 of_,.int .i64 fr,.bool inv] 87)).alloc (.cells #[.int .i64 k,.int .i64 n,.slice a l.length cap] 45)):=(((Below.refl _ _).alloc (Nat.le_refl _) _).alloc (by simp) _).alloc (by simp;omega) _;exact⟨_,rfl,.inl ⟨rfl,rfl⟩,hbb⟩
 obtain rfl:k=0:=Classical.not_not.1 hk;have HSL:=lhd (ztZ 0 n _ l fr width _ (hg.below hst.b) (hs.below hst.b) hf)
 have HPR:=lhd (show ztw (0,n,l) fr inv width=if(zua 0 n l fr width).2=0∧inv=true then
  ((invR (zua 0 n l fr width).1.1 (zua 0 n l fr width).1.2.1 (zua 0 n l fr width).1.2.2).1,decide ((invR (zua 0 n l fr width).1.1 (zua 0 n l fr width).1.2.1 (zua 0 n l fr width).1.2.2).2=0))
  else((zua 0 n l fr width).1,decide ((zua 0 n l fr width).2=0))by unfold ztw;rw[if_neg hk])
 have HZ:=lhd (fun h=>zue (n:=n) (l:=l) (fr:=fr) (width:=width) h);generalize zua 0 n l fr width=r at HSL HPR HZ;obtain⟨⟨rk,rn,rl⟩,re⟩:=r;dsimp only at HPR HSL HZ;clear hk hst hs hg hf;go_enter Tryz.func105,Tryz.ntmps105;go_wp2_with fail;refine HSL.out.mono ?_;rintro e w1 ⟨v1,rfl,ho,hb⟩;dsimp only at ho⊢;obtain⟨a1,c1,rfl,-,-⟩:=(SlR.of_own ho).shape;have H1:=lhd (HST.out.later hb (by simp));have HO:=lhd ho;have hz1:=H1.out.z;have hz0:w.heap.size+1<w1.heap.size:=by omega
 have hz00:w.heap.size<w1.heap.size:=by omega
 have d0:=H1.out.d.cell (j:=0) rfl;have d1:=H1.out.d.cell (j:=1) rfl;have d2:=H1.out.d.cell (j:=2) rfl;have r0:=H1.out.r.cell (j:=0) rfl;have r1:=H1.out.r.cell (j:=1) rfl;have r2:=H1.out.r.cell (j:=2) rfl;have q0:=H1.out.r.free (j:=0) (by simp);have q1:=H1.out.r.free (j:=1) (by simp);have q2:=H1.out.r.free (j:=2) (by simp);clear hb ho;by_cases hre:re=0
 ·obtain⟨p,hp,hsp⟩:=HZ.out hre;have e1:=congrArg (fun x:SigR=>x.1.1) hp;have e2:=congrArg (fun x:SigR=>x.1.2.1) hp;have e3:=congrArg (fun x:SigR=>x.1.2.2) hp;dsimp only at e1 e2 e3;subst e1 e2 e3 hre;have HF2:=lhd (zuw hsp);clear hp hsp HZ;cases inv
  ·have HR:=lhd (HPR.out.trans (if_neg (by simp)));clear HPR;go_wp2_with fail;obtain⟨⟨e0,e1,e2⟩,hbb⟩:=H1.out.fin (.int .i64 0) (.int .i64 rn) (.slice a1 rl.length c1);have e0:=zbS e0 (.cells #[.int .i64 0,.int .i64 rn,.slice a1 rl.length c1] 45);have e1:=zbS e1 (.cells #[.int .i64 0,.int .i64 rn,.slice a1 rl.length c1] 45);have e2:=zbS e2 (.cells #[.int .i64 0,.int .i64 rn,.slice a1 rl.length c1] 45);refine bodyPost_ret (v:=.tuple #[.agg #[.int .i64 0,.int .i64 rn,.slice a1 rl.length c1],.bool true]) (by simp[results,Tryz.results105,go_sem,e0,e1,e2]) rfl ?_;rw[HR.out];exact⟨_,rfl,.inr (zjJ ((zjK HO.out (by simp) _ _ _).alloc _) (by first|omega|(simp;omega))),hbb.alloc hbb.size _⟩
  ·have HR:=lhd (HPR.out.trans (if_pos (by simp)));have HIV:=lhd (fun W hW hS=>ztY 0 rn (.slice a1 rl.length c1) rl W hW hS HF2.out);obtain⟨y,hy⟩:∃y,y=invR 0 rn rl:=⟨_,rfl⟩;rw[←hy]at HR HIV;obtain⟨⟨yk,yn,yl⟩,ye⟩:=y;dsimp only at HR;have hbx:=H1.out.b.alloc H1.out.b.size (.cells #[.int .i64 0,.int .i64 rn,.slice a1 rl.length c1] 45);have HG2:=lhd (HG.out.below hbx);have HS2:=lhd ((SlR.of_own HO.out).below ((Below.refl w1.heap.size w1).alloc (Nat.le_refl _) (.cells #[.int .i64 0,.int .i64 rn,.slice a1 rl.length c1] 45)));have H1X:=lhd (show PaSt w (w1.alloc (.cells #[.int .i64 0,.int .i64 rn,.slice a1 rl.length c1] 45)) _ _ from H1.out.later ((Below.refl w1.heap.size w1).alloc (Nat.le_refl _) _) hz1);have HX:=lhd (zal.fresh w1 #[.int .i64 0,.int .i64 rn,.slice a1 rl.length c1] 45);clear HPR hy hbx;go_wp2_with fail;refine(HIV.out _ HG2.out HS2.out).mono ?_;rintro e w2 ⟨v2,rfl,ho2,hb2⟩;dsimp only at ho2⊢;obtain⟨a2,c2,rfl,-,-⟩:=(SlR.of_own ho2).shape;have H2:=lhd (H1X.out.later hb2 (by simp;omega));have HX2:=lhd (HX.out.below hb2 (by simp));have HO2:=lhd ho2;have H3:=lhd (H2.out.setO hz1 (.int .i64 yk) (.int .i64 yn) (.slice a2 yl.length c2));have x0:=HX2.out.cell (j:=0) rfl;have x1:=HX2.out.cell (j:=1) rfl;have x2:=HX2.out.cell (j:=2) rfl;have y0:=HX2.out.free (j:=0) (by simp);have y1:=HX2.out.free (j:=1) (by simp);have y2:=HX2.out.free (j:=2) (by simp);clear ho2 hb2 d0 d1 d2 r0 r1 r2 q0 q1 q2;go_upto_region 6 with fail;have HX3:=lhd (((HX2.out.set (j:=0) (by simp) (.int .i64 yk)).set (j:=1) (by simp) (.int .i64 yn)).set (j:=2) (by simp) (.slice a2 yl.length c2));have HO3:=lhd (zjK HO2.out (show w1.heap.size<_ by simp) (.int .i64 yk) (.int .i64 yn) (.slice a2 yl.length c2));generalize ((w2.setCell ⟨w1.heap.size,0,none⟩ (.int .i64 yk)).setCell ⟨w1.heap.size,1,none⟩ (.int .i64 yn)).setCell ⟨w1.heap.size,2,none⟩ (.slice a2 yl.length c2)=w3 at H3 HX3 HO3⊢;clear x0 x1 x2 y0 y1 y2;have x0:=HX3.out.cell (j:=0) rfl;have x1:=HX3.out.cell (j:=1) rfl;have x2:=HX3.out.cell (j:=2) rfl;have r0:=H3.out.r.cell (j:=0) rfl;have r1:=H3.out.r.cell (j:=1) rfl;have r2:=H3.out.r.cell (j:=2) rfl;have q0:=H3.out.r.free (j:=0) (by simp);have q1:=H3.out.r.free (j:=1) (by simp);have q2:=H3.out.r.free (j:=2) (by simp);obtain⟨⟨e0,e1,e2⟩,hbb⟩:=H3.out.fin (.int .i64 yk) (.int .i64 yn) (.slice a2 yl.length c2);by_cases hye:ye=0
   ·have HR2:=lhd (HR.out.trans (show _=(((yk,yn,yl):Sg),true)by rw[hye];rfl));have hyb:(ye==0)=true:=by rw[beq_iff_eq];exact hye
    clear hye;go_wp2_with fail;refine bodyPost_ret (v:=.tuple #[.agg #[.int .i64 yk,.int .i64 yn,.slice a2 yl.length c2],.bool true]) (by simp[results,Tryz.results105,go_sem,e0,e1,e2]) rfl ?_;rw[HR2.out];exact⟨_,rfl,.inr (zjJ (zjK HO3.out (by simp;omega) _ _ _) (by first|omega|(simp;omega))),hbb⟩
   ·have HR2:=lhd (HR.out.trans (show _=(((yk,yn,yl):Sg),false)by simp[hye]));have hyb:(ye==0)=false:=by rw[beq_eq_false_iff_ne];exact hye
    clear hye;go_wp2_with fail;refine bodyPost_ret (v:=.tuple #[.agg #[.int .i64 yk,.int .i64 yn,.slice a2 yl.length c2],.bool false]) (by simp[results,Tryz.results105,go_sem,e0,e1,e2]) rfl ?_;rw[HR2.out];exact⟨_,rfl,.inr (zjJ (zjK HO3.out (by simp;omega) _ _ _) (by first|omega|(simp;omega))),hbb⟩
 ·have HR:=lhd (HPR.out.trans (if_neg (by simp[hre])));have HR2:=lhd (HR.out.trans (show _=(((rk,rn,rl):Sg),false)by simp[hre]));have hrb:(re==0)=false:=by rw[beq_eq_false_iff_ne];exact hre
  clear hre HPR HR HZ;go_wp2_with fail;obtain⟨⟨e0,e1,e2⟩,hbb⟩:=H1.out.fin (.int .i64 rk) (.int .i64 rn) (.slice a1 rl.length c1);have e0:=zbS e0 (.cells #[.int .i64 rk,.int .i64 rn,.slice a1 rl.length c1] 45);have e1:=zbS e1 (.cells #[.int .i64 rk,.int .i64 rn,.slice a1 rl.length c1] 45);have e2:=zbS e2 (.cells #[.int .i64 rk,.int .i64 rn,.slice a1 rl.length c1] 45);refine bodyPost_ret (v:=.tuple #[.agg #[.int .i64 rk,.int .i64 rn,.slice a1 rl.length c1],.bool false]) (by simp[results,Tryz.results105,go_sem,e0,e1,e2]) rfl ?_;rw[HR2.out];exact⟨_,rfl,.inr (zjJ ((zjK HO.out (by simp) _ _ _).alloc _) (by first|omega|(simp;omega))),hbb.alloc hbb.size _⟩
theorem zt8 (s:ByteArray) (f n:Int) (hs:s.size≤maxLen):(slR s f n).1.size≤maxLen:=by
 unfold slR;split
 ·exact Nat.zero_le _
 ·split
  ·exact Nat.zero_le _
  ·simp only[ByteArray.size_extract];omega
theorem zrm (s:Sg) (u v:Value) (S:List (Sg×Value)) (d:Dv) (w:World) (hu:∃a n c,u=.slice a n c) (hs:Sigs w v S) (hw:∀x∈S,0≤x.1.2.1∧x.1.2.1≤128) (hsw:0≤s.2.1∧s.2.1≤128):
 Calls Tryz.prog 107 #[.agg #[.int .i64 s.1,.int .i64 s.2.1,u],v,.agg #[.int .i64 d.1,.int .i64 d.2.1,.bool d.2.2]] w fun e w'=>e=.returned (.bool (zsB s (S.map Prod.fst) d))∧Below w.heap.size w w':=by
 obtain⟨k,n,l⟩:=s;obtain⟨o,f,i⟩:=d;obtain⟨ua,un,uc,rfl⟩:=hu;obtain⟨a,cap,rfl,hc,hm⟩:=hs.s.shape;dsimp only at hsw⊢;have hb2:Below w.heap.size w ((w.alloc (.cells #[.int .i64 k,.int .i64 n,.slice ua un uc] 45)).alloc (.cells #[.int .i64 o,.int .i64 f,.bool i] 87)):=((Below.refl _ _).alloc (Nat.le_refl _) _).alloc (by simp) _;have HB:=lhd hb2;have HS:=lhd (hs.below hb2);have HW:=lhd hw;have HSW:=lhd hsw;clear hs hw hb2 hsw;by_cases h1:o< -1
 ·have HR:=lhd (show false=zsB (k,n,l) (S.map Prod.fst) (o,f,i)by unfold zsB;rw[if_pos (.inl h1)]);have hd:decide (o< -1)=true:=by rw[decide_eq_true_iff];exact h1
  clear h1;go_enter Tryz.func107,Tryz.ntmps107;go_wp2_with fail;go_ret;exact⟨zli HR.out,by first|exact HB.out|exact za6 HB.out _|exact za6 (za6 HB.out _) _⟩
 have hd1:decide (o< -1)=false:=by rw[decide_eq_false_iff_not];exact h1
 by_cases h2:(S.length:Int)≤o
 ·have HR:=lhd (show false=zsB (k,n,l) (S.map Prod.fst) (o,f,i)by unfold zsB;rw[if_pos (.inr (by rw[List.length_map];exact h2))]);have hd2:decide ((S.length:Int)≤o)=true:=by rw[decide_eq_true_iff];exact h2
  clear h1 h2;go_enter Tryz.func107,Tryz.ntmps107;go_wp2_with fail;go_ret;exact⟨zli HR.out,by first|exact HB.out|exact za6 HB.out _|exact za6 (za6 HB.out _) _⟩
 have hd2:decide ((S.length:Int)≤o)=false:=by rw[decide_eq_false_iff_not];exact h2
 have hno:¬(o< -1∨((S.map Prod.fst).length:Int)≤o):=by rw[List.length_map];exact fun h=>h.elim h1 h2
 by_cases h3:o= -1
 ·subst h3;have HR:=lhd (show(decide (f=0)&&!i)=zsB (k,n,l) (S.map Prod.fst) (-1,f,i)by unfold zsB;rw[if_neg hno,if_neg (by simp),if_pos (.inl rfl)]);clear h1 h2 hno;by_cases hf0:f=0
  ·subst hf0;have HR2:=lhd (show(!i)=_ from(show(!i)=(decide ((0:Int)=0)&&!i)by simp).trans HR.out);go_enter Tryz.func107,Tryz.ntmps107;go_wp2_with fail;go_quiet (fail);go_wp2_with fail;go_ret;exact⟨zli HR2.out,by first|exact HB.out|exact za6 HB.out _|exact za6 (za6 HB.out _) _⟩
  ·have hfb:(f==0)=false:=by rw[beq_eq_false_iff_ne];exact hf0
   have HR2:=lhd (show false=_ from(show false=(decide (f=0)&&!i)by simp[hf0]).trans HR.out);clear hf0;go_enter Tryz.func107,Tryz.ntmps107;go_wp2_with fail;go_quiet (fail);go_wp2_with fail;go_ret;exact⟨zli HR2.out,by first|exact HB.out|exact za6 HB.out _|exact za6 (za6 HB.out _) _⟩
 obtain⟨j,rfl⟩:∃j:Nat,o=(j:Int):=⟨o.toNat,by omega⟩;have hj:j<S.length:=by omega
 have h3b:((j:Int)== -1)=false:=by rw[beq_eq_false_iff_ne];exact h3
 have h3n:((j:Int) != -1)=true:=by rw[bne_iff_ne];exact h3
 obtain⟨b,oo,rfl,y0,y1,y2,-⟩:=HS.out.at hj;have HX:=lhd (show sgAt (S.map Prod.fst) ((j:Int)).toNat=S[j].1 by rw[Int.toNat_natCast,ztV (by simpa using hj)];simp);have hwx:=HW.out _ (List.getElem_mem hj);generalize S[j]=x at y0 y1 y2 HX hwx;obtain⟨⟨xk,xn,xl⟩,xv⟩:=x;dsimp only at y0 y1 y2 HX hwx;by_cases h4:xk≠k
 ·have HR:=lhd (show false=zsB (k,n,l) (S.map Prod.fst) ((j:Int),f,i)by unfold zsB;rw[if_neg hno,if_pos ⟨h3,by rw[show sgAt (S.map Prod.fst) (((j:Int),f,i):Dv).1.toNat=_ from HX.out];exact h4⟩]);have h4b:(xk !=k)=true:=by rw[bne_iff_ne];exact h4
  clear h1 h2 h3 h4 hno;go_enter Tryz.func107,Tryz.ntmps107;go_wp2_with fail;go_quiet (fail);go_wp2_with fail;go_ret;exact⟨zli HR.out,by first|exact HB.out|exact za6 HB.out _|exact za6 (za6 HB.out _) _⟩
 obtain rfl:xk=k:=Classical.not_not.1 h4;have h4b:(xk !=xk)=false:=by simp
 by_cases h5:xk≠0
 ·have HR:=lhd (show(decide (f=0)&&!i)=zsB (xk,n,l) (S.map Prod.fst) ((j:Int),f,i)by unfold zsB;rw[if_neg hno,if_neg (by rintro⟨-,h⟩;exact h (by rw[show sgAt (S.map Prod.fst) (((j:Int),f,i):Dv).1.toNat=_ from HX.out])),if_pos (.inr h5)]);have h5b:(xk !=0)=true:=by rw[bne_iff_ne];exact h5
  clear h1 h2 h3 h4 h5 hno;by_cases hf0:f=0
  ·subst hf0;have HR2:=lhd (show(!i)=_ from(show(!i)=(decide ((0:Int)=0)&&!i)by simp).trans HR.out);go_enter Tryz.func107,Tryz.ntmps107;go_wp2_with fail;go_quiet (fail);go_wp2_with fail;go_ret;exact⟨zli HR2.out,by first|exact HB.out|exact za6 HB.out _|exact za6 (za6 HB.out _) _⟩
  ·have hfb:(f==0)=false:=by rw[beq_eq_false_iff_ne];exact hf0
   have HR2:=lhd (show false=_ from(show false=(decide (f=0)&&!i)by simp[hf0]).trans HR.out);clear hf0;go_enter Tryz.func107,Tryz.ntmps107;go_wp2_with fail;go_quiet (fail);go_wp2_with fail;go_ret;exact⟨zli HR2.out,by first|exact HB.out|exact za6 HB.out _|exact za6 (za6 HB.out _) _⟩
 obtain rfl:xk=0:=Classical.not_not.1 h5
 have HR:=lhd (show(decide (0≤f)&&decide (f≤xn-n))=zsB (0,n,l) (S.map Prod.fst) ((j:Int),f,i)by
  unfold zsB;rw[if_neg hno,if_neg (by rintro⟨-,h⟩;exact h (by rw[show sgAt (S.map Prod.fst) (((j:Int),f,i):Dv).1.toNat=_ from HX.out])),if_neg (fun h=>h.elim h3 (fun h=>h rfl)),show sgAt (S.map Prod.fst) (((j:Int),f,i):Dv).1.toNat=_ from HX.out])
 have hww:IntKind.i64.wrap (xn-n)=xn-n:=IntWalk.i64_in _ (by have:=HSW.out;omega);clear h1 h2 h3 h4 h5 hno;by_cases hf0:0≤f
 ·have hfb:decide (0≤f)=true:=by rw[decide_eq_true_iff];exact hf0
  have HR2:=lhd ((show decide (f≤xn-n)=(decide (0≤f)&&decide (f≤xn-n))by rw[hfb,Bool.true_and]).trans HR.out);clear hf0;go_enter Tryz.func107,Tryz.ntmps107;go_wp2_with fail;go_quiet (fail);go_wp2_with fail;go_quiet (fail);try go_wp2_with fail
  go_ret;exact⟨zli HR2.out,by first|exact HB.out|exact za6 HB.out _|exact za6 (za6 HB.out _) _⟩
 ·have hfb:decide (0≤f)=false:=by rw[decide_eq_false_iff_not];exact hf0
  have HR2:=lhd ((show false=(decide (0≤f)&&decide (f≤xn-n))by rw[hfb,Bool.false_and]).trans HR.out);clear hf0;go_enter Tryz.func107,Tryz.ntmps107;go_wp2_with fail;go_quiet (fail);go_wp2_with fail;go_quiet (fail);try go_wp2_with fail
  go_ret;exact⟨zli HR2.out,by first|exact HB.out|exact za6 HB.out _|exact za6 (za6 HB.out _) _⟩
theorem zrc (d:Dv) (k n:Int) (s:ByteArray) (w:World) (hg:Glob w) (hs:s.size≤maxLen):
 Calls Tryz.prog 103 #[.agg #[.int .i64 d.1,.int .i64 d.2.1,.bool d.2.2],.int .i64 k,.int .i64 n,.string s] w fun e w'=>e=.returned (.string (ztz d k n s))∧Below w.heap.size w w':=by
 obtain⟨o,f,i⟩:=d;dsimp only;have hb0:Below w.heap.size w (w.alloc (.cells #[.int .i64 o,.int .i64 f,.bool i] 87)):=(Below.refl _ _).alloc (Nat.le_refl _) _;have HOW:=lhd (zal.fresh w #[.int .i64 o,.int .i64 f,.bool i] 87);have HG:=lhd (hg.below hb0);have HB:=lhd hb0;have HT:=lhd (zpC k n (w.alloc (.cells #[.int .i64 o,.int .i64 f,.bool i] 87)));have hz:w.heap.size<(w.alloc (.cells #[.int .i64 o,.int .i64 f,.bool i] 87)).heap.size:=by simp
 generalize hw0:w.alloc (.cells #[.int .i64 o,.int .i64 f,.bool i] 87)=w0 at HOW HG HB HT hz;clear hb0 hg;cases hv:vt k n
 ·have HR:=lhd (show(⟨#[]⟩:ByteArray)=ztz (o,f,i) k n s by unfold ztz;rw[if_pos hv]);rw[hv]at HT;clear hv;go_enter Tryz.func103,Tryz.ntmps103;go_wp2_with fail;refine HT.out.mono ?_;rintro e w1 ⟨rfl,hb1⟩;go_wp2_with fail;go_ret;exact⟨zll HR.out,zem HB.out hb1⟩
 rw[hv]at HT;by_cases ho:o= -1
 ·have HR:=lhd (show vi k n=ztz (o,f,i) k n s by unfold ztz;rw[if_neg (by rw[hv];simp),if_pos ho]);subst ho;clear hv;go_enter Tryz.func103,Tryz.ntmps103;go_wp2_with fail;refine HT.out.mono ?_;rintro e w1 ⟨rfl,hb1⟩;have d0:=(HOW.out.below hb1 hz).cell (j:=0) rfl;go_wp2_with fail;refine(zpA k n _).mono ?_;rintro e w2 ⟨rfl,hb2⟩;go_wp2_with fail;go_ret;exact⟨zll HR.out,zem (zem HB.out hb1) hb2⟩
 have hob:(o== -1)=false:=by rw[beq_eq_false_iff_ne];exact ho
 by_cases hk:k≠0
 ·have HR:=lhd (show(if vv k n s=true then s else⟨#[]⟩)=ztz (o,f,i) k n s by simp[ztz,hv,ho,hk]);have hkb:(k !=0)=true:=by rw[bne_iff_ne];exact hk
  clear hv hk;go_enter Tryz.func103,Tryz.ntmps103;go_wp2_with fail;refine HT.out.mono ?_;rintro e w1 ⟨rfl,hb1⟩;have d0:=(HOW.out.below hb1 hz).cell (j:=0) rfl;go_wp2_with fail;refine(zpB k n s _ (HG.out.below hb1) hs).mono ?_;rintro e w2 ⟨rfl,hb2⟩;cases hvv:vv k n s
  ·rw[if_neg (by rw[hvv];simp)]at HR;clear hvv;go_wp2_with fail;go_ret;exact⟨zll HR.out,zem (zem HB.out hb1) hb2⟩
  ·rw[if_pos hvv]at HR;clear hvv;go_wp2_with fail;go_ret;exact⟨zll HR.out,zem (zem HB.out hb1) hb2⟩
 obtain rfl:k=0:=Classical.not_not.1 hk;have HR:=lhd (show(if(slR s f n).2≠0 then⟨#[]⟩else bvX i (slR s f n).1)=ztz (o,f,i) 0 n s by simp[ztz,hv,ho]);clear hv hk;go_enter Tryz.func103,Tryz.ntmps103;go_wp2_with fail;refine HT.out.mono ?_;rintro e w1 ⟨rfl,hb1⟩;have d0:=(HOW.out.below hb1 hz).cell (j:=0) rfl;have d1:=(HOW.out.below hb1 hz).cell (j:=1) rfl;have hz1:w.heap.size<w1.heap.size:=by have:=hb1.size;omega
 go_wp2_with fail;refine(zbh _ s _ hs).mono ?_;rintro e w2 ⟨rfl,hb2⟩;cases hv2:bvIs s
 ·rw[show slR s f n=(⟨#[]⟩,1)by unfold slR;rw[if_pos hv2],if_pos (by simp)]at HR;clear hv2;go_wp2_with fail;go_ret;exact⟨zll HR.out,zem (zem HB.out hb1) hb2⟩
 have d1:=(((HOW.out.below hb1 hz).below hb2 hz1)).cell (j:=1) rfl;have d2:=(((HOW.out.below hb1 hz).below hb2 hz1)).cell (j:=2) rfl;clear d0;clear hv2;have hz2:w.heap.size<w2.heap.size:=by have:=hb2.size;omega
 go_wp2_with fail;have hsl:=zt8 s f n hs;refine(zrD s f n _ hs).mono ?_;rintro e w3 ⟨rfl,hb3⟩;generalize slR s f n=r at HR hsl⊢;obtain⟨x,q⟩:=r;dsimp only at HR hsl⊢;have d2:=(((HOW.out.below hb1 hz).below hb2 hz1).below hb3 hz2).cell (j:=2) rfl;clear d1;by_cases hq:q≠0
 ·rw[if_pos hq]at HR;have hqb:(q !=0)=true:=by rw[bne_iff_ne];exact hq
  clear hq;go_wp2_with fail;go_ret;exact⟨zll HR.out,zem (zem (zem HB.out hb1) hb2) hb3⟩
 ·rw[if_neg hq]at HR;have hqb:(q !=0)=false:=by rw[bne_eq_false_iff_eq];omega
  clear hq;cases i
  ·go_wp2_with fail;go_ret;exact⟨zll HR.out,zem (zem (zem HB.out hb1) hb2) hb3⟩
  ·go_wp2_with fail;refine(zrC x _ hsl).mono ?_;rintro e w4 ⟨rfl,hb4⟩;go_wp2_with fail;go_ret;exact⟨zll HR.out,zem (zem (zem (zem HB.out hb1) hb2) hb3) hb4⟩
set_option linter.unusedSimpArgs false
section
variable {P : Program} {ops : Array Oper} {Q : Exit → Act → World → Prop} {md : Region.Mode} {S : World → Prop} {X : Nat → Bool}
theorem zqQ {i:Nat} {oi:Oper} {v:Value} (hi:ops[i]? =some oi) (hsel:∀(j:Nat) (o:Oper) cs b,ops[j]? =some o→o.op≠ .select cs b)
 (hQ:∀c a w,Q (.panic c) (a.put oi.dst v) w→Q (.panic c) a w) (hX:X i=true):
 ∀(fuel:Nat) (listed:Array Bool) (a:Act) (w:World),
  (∀j oj,ops[j]? =some oj→j≠i→listed.getD j true=false→(∀e∈oj.after,Region.binds md e=true→e.on≠i)→oi.apart ops oj=true)→
  i∈Region.ready md ops listed→YieldsIf P ops (fun _=>True) oi v a→
  zqO P md ops Q S X fuel (listed.setIfInBounds i true) (a.put oi.dst v) w→zqO P md ops Q S X (fuel+1) listed a w:=by
 intro fuel;induction fuel with
 |zero=>
  intro listed a w _ hr hy H;refine⟨fun h=>(by rw[h]at hr;cases hr),fun j hj=>?_⟩;by_cases hji:j=i
  ·subst hji;exact hy.wpOp hi trivial ⟨fun h=>(by rw[hX]at h;cases h),H⟩
  ·have:=ready_mono hj hji;rw[H.1]at this;cases this
 |succ fuel ih=>
  intro listed a w hfree hr hy H;refine⟨fun h=>(by rw[h]at hr;cases hr),fun j hj=>?_⟩;by_cases hji:j=i
  ·subst hji;exact hy.wpOp hi trivial ⟨fun h=>(by rw[hX]at h;cases h),H⟩
  ·have h1:=H.2 j (ready_mono hj hji);obtain⟨hjun,oj,hoj,hall⟩:=mem_ready.1 hj
   have hnot:∀e∈oj.after,Region.binds md e=true→e.on≠i:=fun e he hb heq=>by
    have h1:=hall e he hb;have h0:=(mem_ready.1 hr).1;rw[heq]at h1;rcases Nat.lt_or_ge i listed.size with h'|h'
    ·simp[h']at h0 h1;rw[h0]at h1;cases h1
    ·simp[Array.getElem?_eq_none h']at h1
   have h2:=wpOp_putIf hoj (hfree j oj hoj hji hjun hnot) (fun cs b=>hsel i oi cs b hi) (fun cs b=>hsel j oj cs b hoj) hQ hy h1
   have hfree':∀k ok,ops[k]? =some ok→k≠i→(listed.setIfInBounds j true).getD k true=false→
    (∀e∈ok.after,Region.binds md e=true→e.on≠i)→oi.apart ops ok=true:=fun k ok hk hki hun hno=>by
    refine hfree k ok hk hki ?_ hno;by_cases hjk:j=k
    ·subst hjk;exact hjun
    ·rw[getD_set_ne true hjk]at hun;exact hun
   refine wpOp_mono (fun a' w' h3=>⟨h3.2.1,ih (listed.setIfInBounds j true) a' w' hfree' (ready_mono hr (Ne.symm hji)) h3.1 ?_⟩) h2;rw[Array.setIfInBounds_comm _ _ hji];exact h3.2.2
theorem zqR {i:Nat} {oi:Oper} {v:Value} {fuel:Nat} {listed:Array Bool} {a:Act} {w:World} (hi:ops[i]? =some oi)
 (hs:Region.noSelect ops=true) (hf:Region.free md ops listed i=true) (hr:(Region.ready md ops listed).contains i=true) (hX:X i=true)
 (hQ:∀c a w,Q (.panic c) (a.put oi.dst v) w→Q (.panic c) a w) (hy:YieldsIf P ops (fun _=>True) oi v a)
 (h:zqO P md ops Q S X fuel (listed.setIfInBounds i true) (a.put oi.dst v) w):zqO P md ops Q S X (fuel+1) listed a w:=
 zqQ hi (Region.noSelect_spec hs) hQ hX fuel listed a w (Region.free_spec hi hf) (by simpa using hr) hy h
end
theorem zba {w w':World} {B e size n:Nat} {v:Value} {xs:List Value} (h:w.ownsRow B e size v n xs) (hb:Below w.heap.size w w'):w'.ownsRow B e size v n xs:=zjF h (Same0.of_below hb)
theorem zal.other {w:World} {b:Nat} {xs:List Value} (h:zal w b xs) {a:Addr} (hne:a.block≠b) (u:Value):zal (w.setCell a u) b xs:=by
 intro i v hi;refine⟨?_,by rw[World.frozen?_setCell];exact(h i v hi).2⟩;rw[World.cell?_setCell_other (h:=by rintro rfl;exact hne rfl)];exact(h i v hi).1
theorem zjA {w:World} {B e size n:Nat} {v:Value} {xs:List Value} (h:w.ownsRow B e size v n xs) {g:Nat} (hg:v.ownBlock=some g):B≤g∧g<w.heap.size:=by
 rcases h.2 with⟨rfl,-⟩|⟨g',cap,cur,rfl,hb,hh,-⟩
 ·cases hg
 ·obtain rfl:g'=g:=by simpa[Value.ownBlock] using hg
  exact⟨hb,(Array.getElem?_eq_some_iff.1 hh).1⟩
theorem zjB {w:World} {B B' e e' size size' n n' g:Nat} {v v':Value} {xs xs':List Value} (h:w.ownsRow B e size v n xs) (h':w.ownsRow B' e' size' v' n' xs') (hne:e≠e') (hg:v'.ownBlock=some g):v.ownBlock≠some g:=by
 intro h0;rcases zjw h h' hne with h1|h1
 ·rw[h1]at h0;cases h0
 ·exact h1 (h0.trans hg.symm)
theorem zm5 (A D:List (Sg×Value)) (x:Sg) (v u:Value):(sgs (A++(x,v)::D)).set (A.length*3+2) u=sgs (A++(x,u)::D):=by
 rw[zmX,zmX,zmZ,zmZ,List.set_append,if_neg (by rw[zm0];omega),zm0,show A.length*3+2-3*A.length=2 by omega];rfl
structure TrO (B:Nat) (w:World) (t:Tr) (p:TP):Prop where
 s:w.ownsRow B 55 3 p.vs t.S.length (scs t.S)
 v:w.ownsRow B 42 7 p.vv t.V.length (vrs t.V)
 g:w.ownsRow B 45 3 p.vg p.M.length (sgs p.M)
 c:∀x∈p.M,w.ownsRow B 53 2 x.2 x.1.2.2.length (chs x.1.2.2)
 q:w.ownsRow B 57 2 p.vp t.P.length (gps t.P)
 m:p.M.map Prod.fst=t.G
theorem TrO.m0 {B:Nat} {w:World} {t:Tr} {p:TP} (h:TrO B w t p):TrM w t p:=⟨SlR.of_own h.s,SlR.of_own h.v,⟨SlR.of_own h.g,fun x hx=>SlR.of_own (h.c x hx)⟩,SlR.of_own h.q,h.m⟩
def FitT (t:Tr):Prop:=t.S.length≤1000∧t.V.length≤1000∧t.G.length≤1000∧t.P.length≤1000∧∀s∈t.G,s.2.2.length≤100000
def set9 (W:World) (b:Nat) (u0 u1 u2 u3 u4 u5 u6 u7 u8:Value):World:=((((((((W.setCell ⟨b,0,none⟩ u0).setCell ⟨b,1,none⟩ u1).setCell ⟨b,2,none⟩ u2).setCell ⟨b,3,none⟩ u3).setCell ⟨b,4,none⟩ u4).setCell ⟨b,5,none⟩ u5).setCell ⟨b,6,none⟩ u6).setCell ⟨b,7,none⟩ u7).setCell ⟨b,8,none⟩ u8
theorem zmS {W:World} {b:Nat} {z0 z1 z2 z3 z4 z5 z6 z7 z8:Value} (h:zal W b [z0,z1,z2,z3,z4,z5,z6,z7,z8]) (u0 u1 u2 u3 u4 u5 u6 u7 u8:Value):zal (set9 W b u0 u1 u2 u3 u4 u5 u6 u7 u8) b [u0,u1,u2,u3,u4,u5,u6,u7,u8]:=
 ((((((((h.set (j:=0) (by simp) u0).set (j:=1) (by simp) u1).set (j:=2) (by simp) u2).set (j:=3) (by simp) u3).set (j:=4) (by simp) u4).set (j:=5) (by simp) u5).set (j:=6) (by simp) u6).set (j:=7) (by simp) u7).set (j:=8) (by simp) u8
theorem zmR {W:World} {b B e size n:Nat} {v:Value} {xs:List Value} (h:W.ownsRow B e size v n xs) (hb:b<B) (u0 u1 u2 u3 u4 u5 u6 u7 u8:Value):(set9 W b u0 u1 u2 u3 u4 u5 u6 u7 u8).ownsRow B e size v n xs:=
 ownsRow_setCell_below (ownsRow_setCell_below (ownsRow_setCell_below (ownsRow_setCell_below (ownsRow_setCell_below (ownsRow_setCell_below (ownsRow_setCell_below (ownsRow_setCell_below (ownsRow_setCell_below h hb u0) hb u1) hb u2) hb u3) hb u4) hb u5) hb u6) hb u7) hb u8
theorem zmQ {B:Nat} {w W:World} {b:Nat} (h:Below B w W) (hb:B≤b) (u0 u1 u2 u3 u4 u5 u6 u7 u8:Value):Below B w (set9 W b u0 u1 u2 u3 u4 u5 u6 u7 u8):=
 ((((((((h.setCell hb u0).setCell hb u1).setCell hb u2).setCell hb u3).setCell hb u4).setCell hb u5).setCell hb u6).setCell hb u7).setCell hb u8
structure ClI (w:World) (B:Nat) (t:Tr) (v1 v2 v3 v4:Value) (M:List (Sg×Value)) (k:Nat) (W:World):Prop where
 x:zal W w.heap.size [.int .i64 t.sc,.string (bsB t.dt),.string (bsB t.vn),.string (bsB t.cm),v1,v2,v3,v4,.int .i64 t.en]
 y:zal W (w.heap.size+1) [.int .i64 0,.string ⟨#[]⟩,.string ⟨#[]⟩,.string ⟨#[]⟩,.slice none 0 0,.slice none 0 0,.slice none 0 0,.slice none 0 0,.int .i64 0]
 s:W.ownsRow B 55 3 v1 t.S.length (scs t.S)
 v:W.ownsRow B 42 7 v2 t.V.length (vrs t.V)
 q:W.ownsRow B 57 2 v4 t.P.length (gps t.P)
 g:∃A:List (Sg×Value),A.length=k∧(A++M.drop k).map Prod.fst=t.G∧W.ownsRow B 45 3 v3 M.length (sgs (A++M.drop k))∧∀x∈A,W.ownsRow B 53 2 x.2 x.1.2.2.length (chs x.1.2.2)
 b:Below w.heap.size w W
theorem zo2 (t:Tr) (p:TP) (w:World) (ht:TrM w t p) (hf:FitT t):Calls Tryz.prog 30 #[p.v t] w fun e w'=>∃p',e=.returned (p'.v t)∧TrO w.heap.size w' t p'∧Below w.heap.size w w':=by
 obtain⟨hs,hv,hg,hq,hm⟩:=ht;obtain⟨f1,f2,f3,f4,f5⟩:=hf;obtain⟨sc,dt,vn,cm,S,V,G,P,en⟩:=t;obtain⟨ps,pv,pg,pp,M⟩:=p;unfold TP.v;dsimp only at*;obtain⟨a1,c1,rfl,-,-⟩:=hs.shape;obtain⟨a2,c2,rfl,-,-⟩:=hv.shape;obtain⟨a3,c3,rfl,-,-⟩:=hg.s.shape;obtain⟨a4,c4,rfl,-,-⟩:=hq.shape;have HML:=lhd (show M.length=G.length by rw[←hm,List.length_map]);have HM:=lhd hm;have hML:M.length≤1000:=by rw[HML.out];exact f3
 clear hm;have hal:Below w.heap.size w ((w.alloc (.cells #[.int .i64 sc,.string (bsB dt),.string (bsB vn),.string (bsB cm),.slice a1 S.length c1,.slice a2 V.length c2,.slice a3 M.length c3,.slice a4 P.length c4,.int .i64 en] 27)).alloc (.cells #[.int .i64 0,.string ⟨#[]⟩,.string ⟨#[]⟩,.string ⟨#[]⟩,.slice none 0 0,.slice none 0 0,.slice none 0 0,.slice none 0 0,.int .i64 0] 27)):=((Below.refl _ _).alloc (Nat.le_refl _) _).alloc (by simp) _;have X1:=lhd ((zal.fresh w #[.int .i64 sc,.string (bsB dt),.string (bsB vn),.string (bsB cm),.slice a1 S.length c1,.slice a2 V.length c2,.slice a3 M.length c3,.slice a4 P.length c4,.int .i64 en] 27).below ((Below.refl _ _).alloc (Nat.le_refl _) (.cells #[.int .i64 0,.string ⟨#[]⟩,.string ⟨#[]⟩,.string ⟨#[]⟩,.slice none 0 0,.slice none 0 0,.slice none 0 0,.slice none 0 0,.int .i64 0] 27)) (by simp));have Y1:=zal.fresh (w.alloc (.cells #[.int .i64 sc,.string (bsB dt),.string (bsB vn),.string (bsB cm),.slice a1 S.length c1,.slice a2 V.length c2,.slice a3 M.length c3,.slice a4 P.length c4,.int .i64 en] 27)) #[.int .i64 0,.string ⟨#[]⟩,.string ⟨#[]⟩,.string ⟨#[]⟩,.slice none 0 0,.slice none 0 0,.slice none 0 0,.slice none 0 0,.int .i64 0] 27;rw[World.size_alloc]at Y1;have Y1:=lhd Y1;go_enter Tryz.func30,Tryz.ntmps30;go_wp2_with fail;have hzb:w.heap.size+1<((w.alloc (.cells #[.int .i64 sc,.string (bsB dt),.string (bsB vn),.string (bsB cm),.slice a1 S.length c1,.slice a2 V.length c2,.slice a3 M.length c3,.slice a4 P.length c4,.int .i64 en] 27)).alloc (.cells #[.int .i64 0,.string ⟨#[]⟩,.string ⟨#[]⟩,.string ⟨#[]⟩,.slice none 0 0,.slice none 0 0,.slice none 0 0,.slice none 0 0,.int .i64 0] 27)).heap.size:=by simp
 generalize (w.alloc (.cells #[.int .i64 sc,.string (bsB dt),.string (bsB vn),.string (bsB cm),.slice a1 S.length c1,.slice a2 V.length c2,.slice a3 M.length c3,.slice a4 P.length c4,.int .i64 en] 27)).alloc (.cells #[.int .i64 0,.string ⟨#[]⟩,.string ⟨#[]⟩,.string ⟨#[]⟩,.slice none 0 0,.slice none 0 0,.slice none 0 0,.slice none 0 0,.int .i64 0] 27)=Wb at*;have d4:=X1.out.cell (j:=4) rfl;have d5:=X1.out.cell (j:=5) rfl;have d6:=X1.out.cell (j:=6) rfl;have d7:=X1.out.cell (j:=7) rfl;refine zq0 (S:=fun w'=>w'.cell? ⟨w.heap.size,4,none⟩=some (.slice a1 S.length c1)∧w'.cell? ⟨w.heap.size,5,none⟩=some (.slice a2 V.length c2)∧w'.cell? ⟨w.heap.size,6,none⟩=some (.slice a3 M.length c3)∧w'.cell? ⟨w.heap.size,7,none⟩=some (.slice a4 P.length c4)) (X:=fun j=>decide (12≤j)) (by kernel_rfl) ?_;have HS:=lhd (show Wb.drew.cell? ⟨w.heap.size,4,none⟩=some (.slice a1 S.length c1)∧Wb.drew.cell? ⟨w.heap.size,5,none⟩=some (.slice a2 V.length c2)∧Wb.drew.cell? ⟨w.heap.size,6,none⟩=some (.slice a3 M.length c3)∧Wb.drew.cell? ⟨w.heap.size,7,none⟩=some (.slice a4 P.length c4)from⟨d4,d5,d6,d7⟩);refine zqT (i:=0) (v:=?_) rfl (by kernel_rfl) (by kernel_rfl) (by kernel_rfl) (by kernel_rfl) (fun _ _ _ h=>h) (Or.inl ⟨by rfl,?_⟩) HS.out ?_;rotate_left
 ·intro w hSw;(try dsimp only at hSw)
  go_simp;all_goals with_reducible rfl
 simp only[tkS];refine zqT (i:=1) (v:=?_) rfl (by kernel_rfl) (by kernel_rfl) (by kernel_rfl) (by kernel_rfl) (fun _ _ _ h=>h) (Or.inl ⟨by rfl,?_⟩) HS.out ?_;rotate_left
 ·intro w hSw;(try dsimp only at hSw)
  go_simp;all_goals with_reducible rfl
 simp only[tkS];refine zqT (i:=3) (v:=?_) rfl (by kernel_rfl) (by kernel_rfl) (by kernel_rfl) (by kernel_rfl) (fun _ _ _ h=>h) (Or.inl ⟨by rfl,?_⟩) HS.out ?_;rotate_left
 ·intro w hSw;(try dsimp only at hSw)
  go_simp;all_goals with_reducible rfl
 simp only[tkS];refine zqT (i:=4) (v:=?_) rfl (by kernel_rfl) (by kernel_rfl) (by kernel_rfl) (by kernel_rfl) (fun _ _ _ h=>h) (Or.inl ⟨by rfl,?_⟩) HS.out ?_;rotate_left
 ·intro w hSw;(try dsimp only at hSw)
  go_simp;all_goals with_reducible rfl
 simp only[tkS];refine zqT (i:=6) (v:=?_) rfl (by kernel_rfl) (by kernel_rfl) (by kernel_rfl) (by kernel_rfl) (fun _ _ _ h=>h) (Or.inl ⟨by rfl,?_⟩) HS.out ?_;rotate_left
 ·intro w hSw;(try dsimp only at hSw)
  go_simp;all_goals with_reducible rfl
 simp only[tkS];refine zqT (i:=7) (v:=?_) rfl (by kernel_rfl) (by kernel_rfl) (by kernel_rfl) (by kernel_rfl) (fun _ _ _ h=>h) (Or.inl ⟨by rfl,?_⟩) HS.out ?_;rotate_left
 ·intro w hSw;(try dsimp only at hSw)
  go_simp;all_goals with_reducible rfl
 simp only[tkS];refine zqT (i:=9) (v:=?_) rfl (by kernel_rfl) (by kernel_rfl) (by kernel_rfl) (by kernel_rfl) (fun _ _ _ h=>h) (Or.inl ⟨by rfl,?_⟩) HS.out ?_;rotate_left
 ·intro w hSw;(try dsimp only at hSw)
  go_simp;all_goals with_reducible rfl
 simp only[tkS];refine zqT (i:=10) (v:=?_) rfl (by kernel_rfl) (by kernel_rfl) (by kernel_rfl) (by kernel_rfl) (fun _ _ _ h=>h) (Or.inl ⟨by rfl,?_⟩) HS.out ?_;rotate_left
 ·intro w hSw;(try dsimp only at hSw)
  go_simp;all_goals with_reducible rfl
 simp only[tkS];refine zqS (i:=2) (by kernel_rfl) rfl (fun K hK=>?_);go_simp;refine(zc6 _ S Wb.drew (hs.below hal.drew) (by omega) (zmB S)).mono ?_;rintro e w1 ⟨v1,rfl,o1,b1⟩;have X2:=lhd (X1.out.drew.below b1 (Nat.lt_of_succ_lt hzb));have Y2:=lhd (Y1.out.drew.below b1 hzb);have hal1:=hal.drew.trans (b1.mono hal.size);have z1:=b1.size;have HS1:=lhd (show w1.cell? ⟨w.heap.size,4,none⟩=some (.slice a1 S.length c1)∧w1.cell? ⟨w.heap.size,5,none⟩=some (.slice a2 V.length c2)∧w1.cell? ⟨w.heap.size,6,none⟩=some (.slice a3 M.length c3)∧w1.cell? ⟨w.heap.size,7,none⟩=some (.slice a4 P.length c4)from⟨X2.out.cell (j:=4) rfl,X2.out.cell (j:=5) rfl,X2.out.cell (j:=6) rfl,X2.out.cell (j:=7) rfl⟩);dsimp only;refine hK.out _ _ (fun _=>HS1.out) ?_;clear hK;try simp only[tkS]
 refine zqR (i:=12) (v:=?_) rfl (by kernel_rfl) (by kernel_rfl) (by kernel_rfl) rfl (fun _ _ _ h=>h) (Or.inl ⟨by rfl,?_⟩) ?_;rotate_left
 ·intro w hSw;go_simp;all_goals with_reducible rfl
 simp only[tkS];refine zqS (i:=5) (by kernel_rfl) rfl (fun K hK=>?_);go_simp;refine(zc8 _ V w1 (hv.below hal1) (by omega) (zqv V)).mono ?_;rintro e w2 ⟨v2,rfl,o2,b2⟩;have X3:=lhd (X2.out.below b2 (by have:=b1.size;have:Wb.drew.heap.size=Wb.heap.size:=rfl;omega));have Y3:=lhd (Y2.out.below b2 (by have:=b1.size;have:Wb.drew.heap.size=Wb.heap.size:=rfl;omega));have hal2:=hal1.trans (b2.mono hal1.size);have z2:=b2.size;have HS2:=lhd (show w2.cell? ⟨w.heap.size,4,none⟩=some (.slice a1 S.length c1)∧w2.cell? ⟨w.heap.size,5,none⟩=some (.slice a2 V.length c2)∧w2.cell? ⟨w.heap.size,6,none⟩=some (.slice a3 M.length c3)∧w2.cell? ⟨w.heap.size,7,none⟩=some (.slice a4 P.length c4)from⟨X3.out.cell (j:=4) rfl,X3.out.cell (j:=5) rfl,X3.out.cell (j:=6) rfl,X3.out.cell (j:=7) rfl⟩);dsimp only;refine hK.out _ _ (fun _=>HS2.out) ?_;clear hK;try simp only[tkS]
 refine zqS (i:=8) (by kernel_rfl) rfl (fun K hK=>?_);go_simp;refine(zc7 _ M w2 (hg.below hal2).s (by rw[HML.out];omega) (zm3 M (fun x hx=>znm (hg.m x hx)))).mono ?_;rintro e w3 ⟨v3,rfl,o3,b3⟩;have X4:=lhd (X3.out.below b3 (by have:=b1.size;have:=b2.size;have:Wb.drew.heap.size=Wb.heap.size:=rfl;omega));have Y4:=lhd (Y3.out.below b3 (by have:=b1.size;have:=b2.size;have:Wb.drew.heap.size=Wb.heap.size:=rfl;omega));have hal3:=hal2.trans (b3.mono hal2.size);have z3:=b3.size;have HS3:=lhd (show w3.cell? ⟨w.heap.size,4,none⟩=some (.slice a1 S.length c1)∧w3.cell? ⟨w.heap.size,5,none⟩=some (.slice a2 V.length c2)∧w3.cell? ⟨w.heap.size,6,none⟩=some (.slice a3 M.length c3)∧w3.cell? ⟨w.heap.size,7,none⟩=some (.slice a4 P.length c4)from⟨X4.out.cell (j:=4) rfl,X4.out.cell (j:=5) rfl,X4.out.cell (j:=6) rfl,X4.out.cell (j:=7) rfl⟩);dsimp only;refine hK.out _ _ (fun _=>HS3.out) ?_;clear hK;try simp only[tkS]
 refine zqS (i:=11) (by kernel_rfl) rfl (fun K hK=>?_);go_simp;refine(zc5 _ P w3 (hq.below hal3) (by omega) (zfg P)).mono ?_;rintro e w4 ⟨v4,rfl,o4,b4⟩;have hdz:Wb.drew.heap.size=Wb.heap.size:=rfl;have z4:=b4.size;have X5:=lhd (X4.out.below b4 (by omega));have Y5:=lhd (Y4.out.below b4 (by omega));have hal4:=hal3.trans (b4.mono hal3.size);have HS4:=lhd (show w4.cell? ⟨w.heap.size,4,none⟩=some (.slice a1 S.length c1)∧w4.cell? ⟨w.heap.size,5,none⟩=some (.slice a2 V.length c2)∧w4.cell? ⟨w.heap.size,6,none⟩=some (.slice a3 M.length c3)∧w4.cell? ⟨w.heap.size,7,none⟩=some (.slice a4 P.length c4)from⟨X5.out.cell (j:=4) rfl,X5.out.cell (j:=5) rfl,X5.out.cell (j:=6) rfl,X5.out.cell (j:=7) rfl⟩);dsimp only;have P1:=lhd (zjJ (zba (zba (zba o1 b2) b3) b4) (Nat.le_refl Wb.heap.size));have P2:=lhd (zjJ (zba (zba o2 b3) b4) (show Wb.heap.size≤_ by omega));have P3:=lhd (zjJ (zba o3 b4) (show Wb.heap.size≤_ by omega));have P4:=lhd (zjJ o4 (show Wb.heap.size≤_ by omega));have HB4:=lhd hal4;obtain⟨e1,j1,rfl,-,-⟩:=(SlR.of_own P1.out).shape;obtain⟨e2,j2,rfl,-,-⟩:=(SlR.of_own P2.out).shape;obtain⟨e3,j3,rfl,-,-⟩:=(SlR.of_own P3.out).shape;obtain⟨e4,j4,rfl,-,-⟩:=(SlR.of_own P4.out).shape;clear o1 o2 o3 o4 b1 b2 b3 b4 X1 X2 X3 X4 Y1 Y2 Y3 Y4 HS HS1 HS2 HS3 d4 d5 d6 d7 hal1 hal2 hal3 hal4 z1 z2 z3 z4 hdz;refine hK.out _ _ (fun _=>HS4.out) ?_;clear hK;try simp only[tkS]
 refine zqS (i:=13) (by kernel_rfl) rfl (fun K hK=>?_);have fr:=X5.out.free (j:=4) (by simp);have ce:=X5.out.cell (j:=4) rfl;go_simp;clear fr ce;refine hK.out _ _ (fun h=>absurd h (by decide)) ?_;clear hK;try simp only[tkS]
 have X6:=lhd (X5.out.set (j:=4) (by simp) (.slice e1 S.length j1));refine zqR (i:=14) (v:=?_) rfl (by kernel_rfl) (by kernel_rfl) (by kernel_rfl) rfl (fun _ _ _ h=>h) (Or.inl ⟨by rfl,?_⟩) ?_;rotate_left
 ·intro w hSw;go_simp;all_goals with_reducible rfl
 simp only[tkS];refine zqS (i:=15) (by kernel_rfl) rfl (fun K hK=>?_);have fr:=X6.out.free (j:=5) (by simp);have ce:=X6.out.cell (j:=5) rfl;go_simp;clear fr ce;refine hK.out _ _ (fun h=>absurd h (by decide)) ?_;clear hK;try simp only[tkS]
 have X7:=lhd (X6.out.set (j:=5) (by simp) (.slice e2 V.length j2));refine zqR (i:=16) (v:=?_) rfl (by kernel_rfl) (by kernel_rfl) (by kernel_rfl) rfl (fun _ _ _ h=>h) (Or.inl ⟨by rfl,?_⟩) ?_;rotate_left
 ·intro w hSw;go_simp;all_goals with_reducible rfl
 simp only[tkS];refine zqS (i:=17) (by kernel_rfl) rfl (fun K hK=>?_);have fr:=X7.out.free (j:=6) (by simp);have ce:=X7.out.cell (j:=6) rfl;go_simp;clear fr ce;refine hK.out _ _ (fun h=>absurd h (by decide)) ?_;clear hK;try simp only[tkS]
 have X8:=lhd (X7.out.set (j:=6) (by simp) (.slice e3 M.length j3));refine zqR (i:=18) (v:=?_) rfl (by kernel_rfl) (by kernel_rfl) (by kernel_rfl) rfl (fun _ _ _ h=>h) (Or.inl ⟨by rfl,?_⟩) ?_;rotate_left
 ·intro w hSw;go_simp;all_goals with_reducible rfl
 simp only[tkS];refine zqS (i:=19) (by kernel_rfl) rfl (fun K hK=>?_);have fr:=X8.out.free (j:=7) (by simp);have ce:=X8.out.cell (j:=7) rfl;go_simp;clear fr ce;refine hK.out _ _ (fun h=>absurd h (by decide)) ?_;clear hK;try simp only[tkS]
 have X9:=lhd (X8.out.set (j:=7) (by simp) (.slice e4 P.length j4));refine⟨by kernel_rfl,?_⟩;have hbz:w.heap.size<Wb.heap.size:=by omega
 have HLI:=lhd (show ClI w Wb.heap.size ⟨sc,dt,vn,cm,S,V,G,P,en⟩ (.slice e1 S.length j1) (.slice e2 V.length j2) (.slice e3 M.length j3) (.slice e4 P.length j4) M 0 _ from
  {x:=X9.out
   y:=by
    have hne:∀j u (Wx:World),zal Wx (w.heap.size+1) [.int .i64 0,.string ⟨#[]⟩,.string ⟨#[]⟩,.string ⟨#[]⟩,.slice none 0 0,.slice none 0 0,.slice none 0 0,.slice none 0 0,.int .i64 0]→zal (Wx.setCell ⟨w.heap.size,j,none⟩ u) (w.heap.size+1) [.int .i64 0,.string ⟨#[]⟩,.string ⟨#[]⟩,.string ⟨#[]⟩,.slice none 0 0,.slice none 0 0,.slice none 0 0,.slice none 0 0,.int .i64 0]:=fun j u Wx h=>zal.other h (by simp) u;exact hne _ _ _ (hne _ _ _ (hne _ _ _ (hne _ _ _ Y5.out)))
   s:=ownsRow_setCell_below (ownsRow_setCell_below (ownsRow_setCell_below (ownsRow_setCell_below P1.out hbz _) hbz _) hbz _) hbz _
   v:=ownsRow_setCell_below (ownsRow_setCell_below (ownsRow_setCell_below (ownsRow_setCell_below P2.out hbz _) hbz _) hbz _) hbz _
   q:=ownsRow_setCell_below (ownsRow_setCell_below (ownsRow_setCell_below (ownsRow_setCell_below P4.out hbz _) hbz _) hbz _) hbz _
   g:=⟨[],rfl,HM.out,ownsRow_setCell_below (ownsRow_setCell_below (ownsRow_setCell_below (ownsRow_setCell_below P3.out hbz _) hbz _) hbz _) hbz _,by simp⟩
   b:=(((HB4.out.setCell (by simp) _).setCell (by simp) _).setCell (by simp) _).setCell (by simp) _})
 clear X5 X6 X7 X8 X9 Y5 P1 P2 P3 P4 HB4 HS4;generalize ((((w4.setCell _ _).setCell _ _).setCell _ _).setCell _ _)=W at*;have ce:=HLI.out.x.cell (j:=6) rfl;go_wp2_with fail;go_loopw [23] (fun i wr=>∃k:Nat,k≤M.length∧i=.int .i64 k∧ClI w Wb.heap.size ⟨sc,dt,vn,cm,S,V,G,P,en⟩ (.slice e1 S.length j1) (.slice e2 V.length j2) (.slice e3 M.length j3) (.slice e4 P.length j4) M k wr) (fun i _=>M.length-(intOf i).toNat)
 case atStart=>exact⟨0,Nat.zero_le _,rfl,HLI.out⟩
 case round=>
  obtain⟨k,hk,rfl,hC⟩:=hrel;have HC:=lhd hC;clear hC ce;by_cases hlt:k<M.length
  ·obtain⟨A,hA,hN,hO,hR⟩:=HC.out.g;have hMG:M[k].1∈G:=by rw[←HM.out];exact List.mem_map_of_mem (List.getElem_mem hlt)
   have hfx:=f5 _ hMG;have hmx:=hg.m M[k] (List.getElem_mem hlt);rw[List.drop_eq_getElem_cons hlt]at hO hN;generalize M[k]=x at*;obtain⟨x,vx⟩:=x;dsimp only at hfx hmx;rcases hO.2 with⟨-,h0⟩|⟨g,cap',cur,e0,-⟩
   ·omega
   injection e0 with e0 _ e1;subst e0 e1;have hlo:=zjA hO (g:=g) rfl
   have d2:wr.cell? ⟨g,k*3+2,none⟩=some vx:=by
    obtain⟨a',c',ev,-,-,-,h4⟩:=SlR.of_own hO;obtain⟨b',o',rfl,hat⟩:=h4 (by omega);injection ev with ev _ _;injection ev with ev;injection ev with ev1 ev2 _;subst ev1 ev2;have:=hat (A.length*3+2) vx (by rw[zmX,zmZ,List.getElem?_append_right (by rw[zm0];omega),zm0,show A.length*3+2-3*A.length=2 by omega];rfl);rw[hA,Nat.zero_add]at this;exact this
   have f2:=zjz hO (k*3+2);have HO:=lhd hO;have HR:=lhd hR;have HN:=lhd hN;have HA:=lhd hA;have HMX:=lhd (hmx.below HC.out.b);have c6:=HC.out.x.cell (j:=6) rfl;have HS:=lhd (show wr.drew.cell? ⟨w.heap.size,6,none⟩=some (.slice (some ⟨g,0,none⟩) M.length j3)from c6);clear hO hR hN hA hmx;go_wp2_with fail;refine zq0 (S:=fun w'=>w'.cell? ⟨w.heap.size,6,none⟩=some (.slice (some ⟨g,0,none⟩) M.length j3)) (X:=fun j=>decide (12≤j)) (by kernel_rfl) ?_;refine zqT (i:=0) (v:=?_) rfl (by kernel_rfl) (by kernel_rfl) (by kernel_rfl) (by kernel_rfl) (fun _ _ _ h=>h) (Or.inl ⟨by rfl,?_⟩) HS.out ?_;rotate_left
   ·intro w hSw;(try dsimp only at hSw)
    go_simp;all_goals with_reducible rfl
   simp only[tkS];refine zqT (i:=1) (v:=?_) rfl (by kernel_rfl) (by kernel_rfl) (by kernel_rfl) (by kernel_rfl) (fun _ _ _ h=>h) (Or.inl ⟨by rfl,?_⟩) HS.out ?_;rotate_left
   ·intro w hSw;(try dsimp only at hSw)
    go_simp;all_goals with_reducible rfl
   simp only[tkS];refine zqT (i:=2) (v:=?_) rfl (by kernel_rfl) (by kernel_rfl) (by kernel_rfl) (by kernel_rfl) (fun _ _ _ h=>h) (Or.inl ⟨by rfl,?_⟩) HS.out ?_;rotate_left
   ·intro w hSw;(try dsimp only at hSw)
    go_simp;all_goals with_reducible rfl
   simp only[tkS];refine zqT (i:=3) (v:=?_) rfl (by kernel_rfl) (by kernel_rfl) (by kernel_rfl) (by kernel_rfl) (fun _ _ _ h=>h) (Or.inl ⟨by rfl,?_⟩) HS.out ?_;rotate_left
   ·intro w hSw;(try dsimp only at hSw)
    go_simp;all_goals with_reducible rfl
   simp only[tkS];refine zqT (i:=4) (v:=?_) rfl (by kernel_rfl) (by kernel_rfl) (by kernel_rfl) (by kernel_rfl) (fun _ _ _ h=>h) (Or.inl ⟨by rfl,?_⟩) HS.out ?_;rotate_left
   ·intro w hSw;(try dsimp only at hSw)
    go_simp;all_goals with_reducible rfl
   simp only[tkS];refine zqT (i:=5) (v:=?_) rfl (by kernel_rfl) (by kernel_rfl) (by kernel_rfl) (by kernel_rfl) (fun _ _ _ h=>h) (Or.inl ⟨by rfl,?_⟩) HS.out ?_;rotate_left
   ·intro w hSw;(try dsimp only at hSw)
    go_simp;all_goals with_reducible rfl
   simp only[tkS];refine zqT (i:=6) (v:=?_) rfl (by kernel_rfl) (by kernel_rfl) (by kernel_rfl) (by kernel_rfl) (fun _ _ _ h=>h) (Or.inl ⟨by rfl,?_⟩) HS.out ?_;rotate_left
   ·intro w hSw;(try dsimp only at hSw)
    go_simp;all_goals with_reducible rfl
   simp only[tkS];refine zqT (i:=7) (v:=?_) rfl (by kernel_rfl) (by kernel_rfl) (by kernel_rfl) (by kernel_rfl) (fun _ _ _ h=>h) (Or.inl ⟨by rfl,?_⟩) HS.out ?_;rotate_left
   ·intro w hSw;(try dsimp only at hSw)
    go_simp;all_goals with_reducible rfl
   simp only[tkS];refine zqS (i:=8) (by kernel_rfl) rfl (fun K hK=>?_);go_simp;refine hK.out _ _ (fun _=>HS.out) ?_;clear hK;try simp only[tkS]
   refine zqS (i:=9) (by kernel_rfl) rfl (fun K hK=>?_);go_simp;refine(zc4 vx x.2.2 wr.drew (HMX.out.below ((Below.refl _ _).drew)) (by omega) (zcq _)).mono ?_;rintro e w5 ⟨v5,rfl,o5,b5⟩;dsimp only;have hdz:wr.drew.heap.size=wr.heap.size:=rfl;have z5:=b5.size;have X5:=lhd (HC.out.x.drew.below b5 (by omega));have f5':w5.frozen? ⟨g,k*3+2,none⟩=false:=by rw[b5.frozen (p:=⟨g,k*3+2,none⟩) (by show g<_;omega)];exact f2
   have c5:w5.cell? ⟨g,k*3+2,none⟩=some vx:=by rw[b5.cell (p:=⟨g,k*3+2,none⟩) (by show g<_;omega)];exact d2
   have HS5:=lhd (X5.out.cell (j:=6) rfl);obtain⟨va,vc,rfl,-,-⟩:=(SlR.of_own o5).shape;refine hK.out _ _ (fun _=>HS5.out) ?_;clear hK;try simp only[tkS]
   refine zqS (i:=10) (by kernel_rfl) rfl (fun K hK=>?_);go_simp;refine hK.out _ _ (fun _=>HS5.out) ?_;clear hK;try simp only[tkS]
   refine zqS (i:=11) (by kernel_rfl) rfl (fun K hK=>?_);go_simp;refine hK.out _ _ (fun _=>HS5.out) ?_;clear hK;try simp only[tkS]
   refine zqS (i:=12) (by kernel_rfl) rfl (fun K hK=>?_);go_simp;refine hK.out _ _ (fun h=>absurd h (by decide)) ?_;clear hK;try simp only[tkS]
   refine⟨by kernel_rfl,?_⟩;clear d2 f2 c6 f5' c5;go_wp2_with fail;go_roundw
   case rel=>
    refine⟨k+1,hlt,by go_num,?_⟩;have hwb:=HC.out.b.size;have sg5:=zba HO.out.drew b5;have hu:=zjG sg5 (k*3+2) (.slice va x.2.2.length vc);have hlen:(A++(x,.slice va x.2.2.length vc)::M.drop (k+1))=(A++ [(x,.slice va x.2.2.length vc)])++M.drop (k+1):=by simp
    rw[←HA.out,zm5,HA.out,hlen]at hu
    exact
     {x:=X5.out.other (by show g≠_;omega) _
      y:=(HC.out.y.drew.below b5 (by omega)).other (by show g≠_;omega) _
      s:=ownsRow_setCell_other (a:=⟨g,k*3+2,none⟩) (zba HC.out.s.drew b5) (zjB (zba HC.out.s.drew b5) sg5 (by decide) rfl) _
      v:=ownsRow_setCell_other (a:=⟨g,k*3+2,none⟩) (zba HC.out.v.drew b5) (zjB (zba HC.out.v.drew b5) sg5 (by decide) rfl) _
      q:=ownsRow_setCell_other (a:=⟨g,k*3+2,none⟩) (zba HC.out.q.drew b5) (zjB (zba HC.out.q.drew b5) sg5 (by decide) rfl) _
      g:=⟨A++ [(x,.slice va x.2.2.length vc)],by rw[List.length_append,HA.out];rfl,by rw[←hlen];have:=HN.out;simpa using this,hu,fun y hy=>by
       rcases List.mem_append.1 hy with hy|hy
       ·exact ownsRow_setCell_other (a:=⟨g,k*3+2,none⟩) (zba (HR.out y hy).drew b5) (zjB (zba (HR.out y hy).drew b5) sg5 (by decide) rfl) _
       ·obtain rfl:=List.mem_singleton.1 hy;exact ownsRow_setCell_other (a:=⟨g,k*3+2,none⟩) (zjJ (base':=Wb.heap.size) o5 (by omega)) (zjB o5 sg5 (by decide) rfl) _⟩
      b:=(HC.out.b.drew.trans (b5.mono hwb)).setCell (by show w.heap.size≤g;omega) _}
   case measure=>simp[intOf];omega
  ·obtain rfl:k=M.length:=by omega
   have cx0:=HC.out.x.cell (j:=0) rfl;have cy0:=HC.out.y.cell (j:=0) rfl;have fy0:=HC.out.y.free (j:=0) (by simp);have cx1:=HC.out.x.cell (j:=1) rfl;have cy1:=HC.out.y.cell (j:=1) rfl;have fy1:=HC.out.y.free (j:=1) (by simp);have cx2:=HC.out.x.cell (j:=2) rfl;have cy2:=HC.out.y.cell (j:=2) rfl;have fy2:=HC.out.y.free (j:=2) (by simp);have cx3:=HC.out.x.cell (j:=3) rfl;have cy3:=HC.out.y.cell (j:=3) rfl;have fy3:=HC.out.y.free (j:=3) (by simp);have cx4:=HC.out.x.cell (j:=4) rfl;have cy4:=HC.out.y.cell (j:=4) rfl;have fy4:=HC.out.y.free (j:=4) (by simp);have cx5:=HC.out.x.cell (j:=5) rfl;have cy5:=HC.out.y.cell (j:=5) rfl;have fy5:=HC.out.y.free (j:=5) (by simp);have cx6:=HC.out.x.cell (j:=6) rfl;have cy6:=HC.out.y.cell (j:=6) rfl;have fy6:=HC.out.y.free (j:=6) (by simp);have cx7:=HC.out.x.cell (j:=7) rfl;have cy7:=HC.out.y.cell (j:=7) rfl;have fy7:=HC.out.y.free (j:=7) (by simp);have cx8:=HC.out.x.cell (j:=8) rfl;have cy8:=HC.out.y.cell (j:=8) rfl;have fy8:=HC.out.y.free (j:=8) (by simp);go_wp2_with fail;clear cx0 cy0 fy0;clear cx1 cy1 fy1;clear cx2 cy2 fy2;clear cx3 cy3 fy3;clear cx4 cy4 fy4;clear cx5 cy5 fy5;clear cx6 cy6 fy6;clear cx7 cy7 fy7;clear cx8 cy8 fy8;have HR:=lhd (zmS HC.out.y (.int .i64 sc) (.string (bsB dt)) (.string (bsB vn)) (.string (bsB cm)) (.slice e1 S.length j1) (.slice e2 V.length j2) (.slice e3 M.length j3) (.slice e4 P.length j4) (.int .i64 en));have HP:=lhd (fun(B e size n:Nat) (v:Value) (xs:List Value) (h:wr.ownsRow B e size v n xs) (hb:w.heap.size+1<B)=>zmR h hb (.int .i64 sc) (.string (bsB dt)) (.string (bsB vn)) (.string (bsB cm)) (.slice e1 S.length j1) (.slice e2 V.length j2) (.slice e3 M.length j3) (.slice e4 P.length j4) (.int .i64 en));have HBB:=lhd (zmQ HC.out.b (Nat.le_succ w.heap.size) (.int .i64 sc) (.string (bsB dt)) (.string (bsB vn)) (.string (bsB cm)) (.slice e1 S.length j1) (.slice e2 V.length j2) (.slice e3 M.length j3) (.slice e4 P.length j4) (.int .i64 en));unfold set9 at HR HP HBB;generalize (((((((((wr.setCell _ _).setCell _ _).setCell _ _).setCell _ _).setCell _ _).setCell _ _).setCell _ _).setCell _ _).setCell _ _)=Wf at*;have cx0:=HR.out.cell (j:=0) rfl;have cx1:=HR.out.cell (j:=1) rfl;have cx2:=HR.out.cell (j:=2) rfl;have cx3:=HR.out.cell (j:=3) rfl;have cx4:=HR.out.cell (j:=4) rfl;have cx5:=HR.out.cell (j:=5) rfl;have cx6:=HR.out.cell (j:=6) rfl;have cx7:=HR.out.cell (j:=7) rfl;have cx8:=HR.out.cell (j:=8) rfl;refine bodyPost_ret (v:=.agg #[.int .i64 sc,.string (bsB dt),.string (bsB vn),.string (bsB cm),.slice e1 S.length j1,.slice e2 V.length j2,.slice e3 M.length j3,.slice e4 P.length j4,.int .i64 en]) (by simp[results,Tryz.results30,go_sem, *]) rfl ?_;obtain⟨A,hA,hN,hO,hR⟩:=HC.out.g;rw[List.drop_length,List.append_nil]at hN hO;have hwl:=Nat.le_of_lt hbz
   exact⟨⟨.slice e1 S.length j1,.slice e2 V.length j2,.slice e3 M.length j3,.slice e4 P.length j4,A⟩,rfl,⟨zjJ (HP.out _ _ _ _ _ _ HC.out.s hzb) hwl,zjJ (HP.out _ _ _ _ _ _ HC.out.v hzb) hwl,
    by show World.ownsRow _ _ _ _ _ A.length _;rw[hA];exact zjJ (HP.out _ _ _ _ _ _ hO hzb) hwl,
    fun x hx=>zjJ (HP.out _ _ _ _ _ _ (hR x hx) hzb) hwl,zjJ (HP.out _ _ _ _ _ _ HC.out.q hzb) hwl,hN⟩,HBB.out⟩
end Go.Proofs.YtbiadennhnokhaaGreatDoor
