import Derived.Test.YtcdekelomkcahaaGreatDoorZ00
import Derived.Laws.AppendOwnNone
import Derived.Test.YtcdekelomkcahaaGreatDoorZ36
import Derived.Test.YtcdekelomkcahaaGreatDoorZ37
import Derived.Test.YtcdekelomkcahaaGreatDoorZ39
set_option maxRecDepth 100000
set_option maxHeartbeats 16000000
namespace Go.Proofs.YtcdekelomkcahaaGreatDoor
open Go.RowKit
set_option linter.unusedSimpArgs false
theorem zqk {P:Program} (w:World) {ops:Array Oper} {rest:List Oper} {o:Oper} {a:Act} {Q:Exit→Act→World→Prop} (hgd:o.guard=none) (s x:Operand) (t:TypeId)
 (ho:o.op=.call {callee:=.builtin .append,args:=#[s,x],argTypes:=#[t,t]})
 (base:Nat) (e:TypeId) (i:TypeInfo) (z:Value) (size bytes:Nat) (ht:P.underlying t=some (.slice e)) (hi:P.info? e=some i) (hz:i.zero=some z)
 (hsize:i.size=size) (hby:i.bytes=bytes) (hzs:z.cells.size=size) (hsz:0<size)
 (v:Value) (n:Nat) (xs:List Value) (hs:a.eval s=v) (hown:w.ownsRow base e size v n xs)
 (ad:Option Addr) (m c:Nat) (news:List Value) (hx:a.eval x=.slice ad m c) (hsl:SlR w (.slice ad m c) m news) (hl:news.length=m*size) (h1:∀u∈news,u.oneCell'=true)
 (h63:n+m≤maxLen) (hbytes:(n+m)*bytes≤140737488355328) (hbase:base≤w.heap.size)
 (h:∀v' w',w'.ownsRow base e size v' (n+m) (xs++news)→w.grownBy w' v.ownBlock→wpList P ops Q rest (a.put o.dst v') w'):wpList P ops Q (o::rest) a w:=by
 cases ad with
 |none=>
  obtain⟨a',cap',hv,hc1,hc2,hc3,-⟩:=hsl;injection hv with e1 _ e3;have h0:=hc3 e1.symm;have hm:m=0:=by omega
  have hc:c=0:=by omega
  subst hm hc;have hn:news=[]:=List.length_eq_zero_iff.1 (by omega);subst hn;refine wpList_append_own_none hgd s x t ho base e i size ht hi v n xs hs hown hx (h v w ?_ (World.grownBy.refl _ _));simpa using hown
 |some ad=>
  exact wpList_append_own w hgd s x t ho base e i z size bytes ht hi hz hsize hby hzs hsz v n xs hs hown ad m c news hx hl
   (hsl.news (fun h0=>by subst h0;exact List.length_eq_zero_iff.1 (by omega))) h1 h63 hbytes hbase (fun v' w' h2 h3 _=>h v' w' h2 h3)
theorem zsJ {l:List Bs}:∀u∈strs l,u.oneCell'=true:=fun u hu=>by
 unfold strs at hu;obtain⟨x,-,rfl⟩:=List.mem_map.1 hu;rfl
theorem zsz {w:World} {b o cap:Nat} {S:List Sc} (hs:SlR w (.slice (some ⟨b,o,none⟩) S.length cap) S.length (scs S)) {j:Nat} (hj:j<S.length) (m:Nat) (u:Value) (hu:(scC S[j])[m]? =some u):w.cell? ⟨b,o+j*3+m,none⟩=some u:=by
 obtain⟨b',o',e',hc'⟩:=hs.scs hj;injection e' with e';injection e' with e1 e2 _;subst e1 e2;exact hc' m u hu
theorem zsP {S:List Sc} {j f:Nat} (h:j<S.length):upL S (f+1) (j:Int)=j::upL S f S[j].2.2:=by
 rw[upL,if_neg (by omega),Int.toNat_natCast,List.getElem?_eq_getElem h]
theorem zsO {S:List Sc} {f:Nat} {i:Int} (h:i<0):upL S f i=[]:=by
 cases f with
 |zero=>rfl
 |succ f=>rw[upL,if_pos h]
theorem zr3 (v:Value) (S:List Sc) (i0:Nat) (w:World) (hs:SlR w v S.length (scs S)) (hF:Fst (parS S) S.length) (hi:i0<S.length) (hl:S.length≤1000):
 Calls Tryz.prog 163 #[v,.int .i64 i0] w fun e w'=>(∃a cap,e=.returned (.slice a (upL S (i0+1) i0).length cap))∧Below w.heap.size w w':=by
 obtain⟨ii,hi0,iz0,iz1,iz2⟩:=info_parts (P:=Tryz.prog) zno;obtain⟨a,cap,rfl,-,-⟩:=hs.shape;obtain⟨T,hT⟩:∃T,T=(upL S (i0+1) i0).length:=⟨_,rfl⟩;rw[←hT];have HS:=lhd hs;have HF:=lhd hF;have HT:=lhd hT;clear hs hF hT;go_enter Tryz.func163,Tryz.ntmps163;go_wp2_with fail
 go_loopw [1,5] (fun u v wr=>∃(i:Int) (f n:Nat),u=.int .i64 i∧ -1≤i∧i<(S.length:Int)∧i<(f:Int)∧f≤1000∧T=n+(upL S f i).length∧n+f≤1002∧(∃a c,v=.slice a n c)∧(∃L:List Bs,L.length=n∧wr.ownsRow w.heap.size 9 1 v n (strs L))∧Below w.heap.size w wr)
  (fun u _ _=>(intOf u+1).toNat)
 case atStart=>exact⟨i0,i0+1,0,rfl,by omega,by omega,by omega,by omega,by rw[HT.out];omega,by omega,⟨_,_,rfl⟩,⟨[],rfl,World.ownsRow_made w #[] 0 (Nat.le_refl _) (Nat.zero_le _) rfl⟩,(Below.refl _ _).alloc (Nat.le_refl _) _⟩
 case round=>
  obtain⟨i,f,n,rfl,h1,h2,h3,h4,hT,h5,⟨ao,co,rfl⟩,⟨L,hL,ho⟩,hb⟩:=hrel;have HO:=lhd ho;have HB:=lhd hb;have HTT:=lhd hT;have HL:=lhd hL;clear hb ho hT hL;by_cases hi0':0≤i
  ·obtain⟨j,rfl⟩:∃j:Nat,i=(j:Int):=⟨i.toNat,by omega⟩;have hjl:j<S.length:=by omega
   obtain⟨g,rfl⟩:∃g,f=g+1:=⟨f-1,by omega⟩;obtain⟨b,o,rfl,hcell⟩:=(HS.out.below HB.out).scs hjl;have d0:wr.cell? ⟨b,o+j*3,none⟩=some (.string (bsB S[j].1)):=hcell 0 _ rfl;have d2:wr.cell? ⟨b,o+j*3+2,none⟩=some (.int .i64 S[j].2.2):=hcell 2 _ rfl;have hfs:=HF.out j hjl;rw[zrH hjl]at hfs;have hbl:=zbA d0;have HNX:=lhd (show T=n+1+(upL S g S[j].2.2).length by rw[HTT.out,zsP hjl,List.length_cons];omega);obtain⟨x,hx⟩:∃x,S[j].2.2=x:=⟨_,rfl⟩;have HX:=lhd hx;rw[hx]at d2 hfs HNX;clear hx;generalize S[j].1=nm at d0;clear hcell HTT;have b1:decide ((j:Int)≤x)=false:=by rw[decide_eq_false_iff_not];omega
   have HBS:=lhd hbl;have hwz:=HB.out.size;clear d2 hbl;go_upto_region 3 with fail;go_wp2_with (at_builtin;refine zqk _ rfl _ _ 65 rfl w.heap.size 9 ii (.string ⟨#[]⟩) 1 16 Tryz.underlying65 hi0 iz0 iz1 iz2 rfl (by decide) _ 1 [.string (bsB nm)] rfl (World.ownsRow_lit wr #[.string (bsB nm)] 1 hwz (by unfold maxLen;omega) rfl) ao n co (strs L) rfl (by have:=SlR.of_own (HO.out.alloc (.cells #[.string (bsB nm)] 9));exact this) (by rw[zsI,HL.out];omega) zsJ (by unfold maxLen;omega) (by omega) (by simp;omega) ?_)
   intro v7 w7 ho7 hg7
   have hb7:Below w.heap.size w w7:=(HB.out.alloc hwz _).grown hg7 (by simp;omega) (fun q hq=>by
    obtain rfl:wr.heap.size=q:=by simpa[Value.ownBlock] using hq
    exact hwz)
   obtain⟨a7,c7,rfl,-,-⟩:=(SlR.of_own ho7).shape;have HO7:=lhd (show ∃L:List Bs,L.length=n+1∧w7.ownsRow w.heap.size 9 1 (.slice a7 (1+n) c7) (n+1) (strs L)from⟨nm::L,by simp[HL.out],by rw[Nat.add_comm n 1];exact ho7⟩);rw[Nat.add_comm 1 n]at HO7⊢;have HB7:=lhd hb7
   have d2:w7.cell? ⟨b,o+j*3+2,none⟩=some (.int .i64 x):=by
    have:=zsz (HS.out.below hb7) hjl 2 (.int .i64 S[j].2.2) rfl;rw[HX.out]at this;exact this
   clear ho7 hg7 hb7 HO HB;go_wp2_with fail;go_roundw;case rel=>exact⟨x,g,n+1,rfl,hfs.1,by omega,by omega,by omega,HNX.out,by omega,⟨_,_,rfl⟩,HO7.out,HB7.out⟩
   case measure=>simp[intOf];omega
  ·obtain rfl:i= -1:=by omega
   have HE:=lhd (show T=n by rw[HTT.out,zsO (by omega)];rfl);go_wp2_with fail;go_ret;exact⟨⟨_,_,by rw[HE.out];rfl⟩,HB.out⟩
theorem zqO {m:Nat} {w w':World} (h:Below m w w') (n:Nat):Below m w (w'.drewN n):=za1 h n
theorem zsL {α:Type} {P:α→Prop} {l:List α} {k:Nat} (h:k<l.length) (h1:∀x∈l.take k,P x) (h2:P l[k]):∀x∈l.take (k+1),P x:=fun x hx=>by
 rw[List.take_succ_eq_append_getElem h]at hx;rcases List.mem_append.1 hx with hx|hx
 ·exact h1 x hx
 ·rw[List.mem_singleton]at hx;rw[hx];exact h2
theorem zsK {α:Type} {P:α→Prop} {l:List α} (h:∀x∈l.take l.length,P x):∀x∈l,P x:=by rwa [List.take_length]at h
theorem zsM {α:Type} {P:α→Prop} {l:List α}:∀x∈l.take 0,P x:=fun x hx=>by simp at hx
theorem zsT {w:World} {b o cap:Nat} {V:List Vr} (hs:SlR w (.slice (some ⟨b,o,none⟩) V.length cap) V.length (vrs V)) {j:Nat} (hj:j<V.length) (m:Nat) (u:Value) (hu:(vrC V[j])[m]? =some u):w.cell? ⟨b,o+j*7+m,none⟩=some u:=by
 obtain⟨b',o',e',hc'⟩:=hs.vrs hj;injection e' with e';injection e' with e1 e2 _;subst e1 e2;exact hc' m u hu
theorem zsd (v u:Value) (S:List Sc) (V:List Vr) (w:World) (hs:SlR w v S.length (scs S)) (hv:SlR w u V.length (vrs V)) (hS:∀s∈S,s.1.length≤100000) (hV:∀x∈V,x.nm.length≤100000):
 Calls Tryz.prog 130 #[v,u] w fun e w'=>e=.returned (.int .i64 (zbF S V))∧Below w.heap.size w w':=by
 obtain⟨R,hR⟩:∃R,R=zbF S V:=⟨_,rfl⟩;rw[←hR];have HDR:=lhd hR;have HDE:=lhd (zsf v u S V w hs hv);obtain⟨a,cap,rfl,hc,hm⟩:=hs.shape;obtain⟨a2,cap2,rfl,hc2,hm2⟩:=hv.shape;unfold maxLen at hm hm2;have HS:=lhd hs;have HV:=lhd hv;have HSL:=lhd hS;have HVL:=lhd hV;have HB:=lhd (Below.refl w.heap.size w);clear hs hv hR hS hV;by_cases h1:32<S.length
 ·have HR:=lhd (show R=9 by rw[HDR.out];exact zq2 (.inl h1));have b1:(32:Int)<(S.length:Int):=by omega
  go_enter Tryz.func130,Tryz.ntmps130;go_wp2_with fail;go_ret;exact⟨zrM HR.out.symm,HB.out⟩
 by_cases h2:128<V.length
 ·have HR:=lhd (show R=9 by rw[HDR.out];exact zq2 (.inr h2));have b2:(128:Int)<(V.length:Int):=by omega
  go_enter Tryz.func130,Tryz.ntmps130;go_wp2_with fail;go_ret;exact⟨zrM HR.out.symm,HB.out⟩
 have HA:=lhd (show ¬(32<S.length∨128<V.length)by omega);cases hd:zcV S V
 ·have HR:=lhd (show R=1 by rw[HDR.out];exact zqZ HA.out hd);rw[hd]at HDE;clear hd;go_enter Tryz.func130,Tryz.ntmps130;go_wp2_with fail;refine HDE.out.mono ?_;rintro e w1 ⟨rfl,rfl⟩;go_wp2_with fail;go_ret;exact⟨zrM HR.out.symm,HB.out⟩
 rw[hd]at HDE;have HDD:=lhd hd;have HF:=lhd (zc0 hd);clear hd;go_enter Tryz.func130,Tryz.ntmps130;go_wp2_with fail;refine HDE.out.mono ?_;rintro e w1 ⟨rfl,rfl⟩;clear HDE;go_wp2_with fail;go_loopw [5] (fun i wr=>∃k:Nat,k≤S.length∧i=.int .i64 k∧(∀i,i<k→(upL S (i+1) (i:Int)).length≤8)∧Below w.heap.size w wr) (fun i _=>S.length-(intOf i).toNat)
 case atStart=>exact⟨0,Nat.zero_le _,rfl,fun i h=>absurd h (Nat.not_lt_zero _),HB.out⟩
 case round=>
  clear HB;obtain⟨k,hk,rfl,hrl,hb⟩:=hrel;have HB:=lhd hb;have HL:=lhd hrl;clear hb hrl;by_cases hlt:k<S.length
  ·have hw1:=zrz k (by omega);have HP:=lhd (zr3 _ S k wr (HS.out.below HB.out) HF.out hlt (by omega));by_cases hn:8<(upL S (k+1) (k:Int)).length
   ·have HR:=lhd (show R=9 by rw[HDR.out];exact zq0 HA.out HDD.out ⟨k,hlt,hn⟩);have hb9:(8:Int)<((upL S (k+1) (k:Int)).length:Int):=by omega
    generalize (upL S (k+1) (k:Int)).length=n at*;go_wp2_with fail;refine HP.out.mono ?_;rintro e w2 ⟨⟨a9,c9,rfl⟩,hb2⟩;have HB:=lhd (zd5 HB.out hb2);clear hb2;go_wp2_with fail;go_ret;exact⟨zrM HR.out.symm,HB.out⟩
   ·have HN:=lhd (show ∀i,i<k+1→(upL S (i+1) (i:Int)).length≤8 from fun i hi=>by
     rcases Nat.lt_or_ge i k with h|h
     ·exact HL.out i h
     ·obtain rfl:i=k:=by omega
      omega)
    have hb9:¬(8:Int)<((upL S (k+1) (k:Int)).length:Int):=by omega
    generalize (upL S (k+1) (k:Int)).length=n at*;go_wp2_with fail;refine HP.out.mono ?_;rintro e w2 ⟨⟨a9,c9,rfl⟩,hb2⟩;have HB:=lhd (zd5 HB.out hb2);clear hb2;go_wp2_with fail;go_roundw;case rel=>exact⟨k+1,hlt,by go_num,HN.out,HB.out⟩
    case measure=>simp[intOf];omega
  ·obtain rfl:k=S.length:=by omega
   have HC:=HL;clear HL hk hlt;go_wp2_with fail;go_loopw [6] (fun i wr=>∃k:Nat,k≤S.length∧i=.int .i64 k∧(∀x∈S.take k,zhz x.1=true)∧Below w.heap.size w wr) (fun i _=>S.length-(intOf i).toNat)
   case atStart=>exact⟨0,Nat.zero_le _,rfl,zsM,HB.out⟩
   case round=>
    clear HB;obtain⟨k,hk,rfl,hrl,hb⟩:=hrel;have HB:=lhd hb;have HL:=lhd hrl;clear hb hrl;by_cases hlt:k<S.length
    ·have hw1:=zrz k (by omega);obtain⟨b,o,rfl,hcell⟩:=(HS.out.below HB.out).scs hlt;have d0:wr.cell? ⟨b,o+k*3,none⟩=some (.string (bsB S[k].1)):=hcell 0 _ rfl;have HW:=lhd (zsn S[k].1 wr (HSL.out _ (List.getElem_mem hlt)));clear hcell;cases hn:zhz S[k].1
     ·have HR:=lhd (show R=4 by rw[HDR.out];exact zq3 HA.out HDD.out HC.out (.inl ⟨_,List.getElem_mem hlt,hn⟩));rw[hn]at HW;clear hn;generalize S[k].1=y at*;go_wp2_with fail;refine HW.out.mono ?_;rintro e w2 ⟨rfl,rfl⟩;go_wp2_with fail;go_ret;exact⟨zrM HR.out.symm,HB.out⟩
     ·have HN:=lhd (zsL (P:=fun x=>zhz x.1=true) hlt HL.out hn);rw[hn]at HW;clear hn;generalize S[k].1=y at*;go_wp2_with fail;refine HW.out.mono ?_;rintro e w2 ⟨rfl,rfl⟩;go_wp2_with fail;go_roundw;case rel=>exact⟨k+1,hlt,by go_num,HN.out,HB.out⟩
      case measure=>simp[intOf];omega
    ·obtain rfl:k=S.length:=by omega
     have HNS:=lhd (zsK HL.out);clear HL hk hlt;go_wp2_with fail;go_loopw [7] (fun i wr=>∃k:Nat,k≤V.length∧i=.int .i64 k∧(∀x∈V.take k,zhz x.nm=true)∧Below w.heap.size w wr) (fun i _=>V.length-(intOf i).toNat)
     case atStart=>exact⟨0,Nat.zero_le _,rfl,zsM,HB.out⟩
     case round=>
      clear HB;obtain⟨k,hk,rfl,hrl,hb⟩:=hrel;have HB:=lhd hb;have HL:=lhd hrl;clear hb hrl;by_cases hlt:k<V.length
      ·have hw1:=zrz k (by omega);obtain⟨b,o,rfl,hcell⟩:=(HV.out.below HB.out).vrs hlt;have d0:wr.cell? ⟨b,o+k*7,none⟩=some (.string (bsB V[k].nm)):=hcell 0 _ rfl;have HW:=lhd (zsn V[k].nm wr (HVL.out _ (List.getElem_mem hlt)));clear hcell;cases hn:zhz V[k].nm
       ·have HR:=lhd (show R=4 by rw[HDR.out];exact zq3 HA.out HDD.out HC.out (.inr ⟨_,List.getElem_mem hlt,hn⟩));rw[hn]at HW;clear hn;generalize V[k].nm=y at*;go_wp2_with fail;refine HW.out.mono ?_;rintro e w2 ⟨rfl,rfl⟩;go_wp2_with fail;go_ret;exact⟨zrM HR.out.symm,HB.out⟩
       ·have HN:=lhd (zsL (P:=fun x=>zhz x.nm=true) hlt HL.out hn);rw[hn]at HW;clear hn;generalize V[k].nm=y at*;go_wp2_with fail;refine HW.out.mono ?_;rintro e w2 ⟨rfl,rfl⟩;go_wp2_with fail;go_roundw;case rel=>exact⟨k+1,hlt,by go_num,HN.out,HB.out⟩
        case measure=>simp[intOf];omega
      ·obtain rfl:k=V.length:=by omega
       have HNV:=lhd (zsK HL.out);clear HL hk hlt;go_wp2_with fail;go_loopw [8] (fun i wr=>∃k:Nat,k≤S.length∧i=.int .i64 k∧(∀x∈S.take k,0≤x.2.1∧x.2.1≤4)∧Below w.heap.size w wr) (fun i _=>S.length-(intOf i).toNat)
       case atStart=>exact⟨0,Nat.zero_le _,rfl,zsM,HB.out⟩
       case round=>
        clear HB;obtain⟨k,hk,rfl,hrl,hb⟩:=hrel;have HB:=lhd hb;have HL:=lhd hrl;clear hb hrl;by_cases hlt:k<S.length
        ·have hw1:=zrz k (by omega);obtain⟨b,o,rfl,hcell⟩:=(HS.out.below HB.out).scs hlt;have d1:wr.cell? ⟨b,o+k*3+1,none⟩=some (.int .i64 S[k].2.1):=hcell 1 _ rfl;clear hcell;have HBAD:=lhd (fun h=>show R=7 by rw[HDR.out];exact zq6 HA.out HDD.out HC.out HNS.out HNV.out (.inl ⟨_,List.getElem_mem hlt,h⟩));have HOKK:=lhd (fun h=>zsL (P:=fun x=>0≤x.2.1∧x.2.1≤4) hlt HL.out h);generalize S[k].2.1=y at*;by_cases e1:y<0
         ·have HR:=lhd (HBAD.out (.inl e1));clear HBAD HOKK;go_wp2_with fail;go_ret;exact⟨zrM HR.out.symm,HB.out⟩
         by_cases e2:4<y
         ·have HR:=lhd (HBAD.out (.inr e2));clear HBAD HOKK;go_wp2_with fail;go_ret;exact⟨zrM HR.out.symm,HB.out⟩
         have HN:=lhd (HOKK.out ⟨by omega,by omega⟩);clear HBAD HOKK;go_wp2_with fail;go_roundw;case rel=>exact⟨k+1,hlt,by go_num,HN.out,HB.out⟩
         case measure=>simp[intOf];omega
        ·obtain rfl:k=S.length:=by omega
         have HTS:=lhd (zsK HL.out);clear HL hk hlt;go_wp2_with fail;go_loopw [9] (fun i wr=>∃k:Nat,k≤V.length∧i=.int .i64 k∧(∀x∈V.take k,0≤x.ty∧x.ty≤18)∧Below w.heap.size w wr) (fun i _=>V.length-(intOf i).toNat)
         case atStart=>exact⟨0,Nat.zero_le _,rfl,zsM,HB.out⟩
         case round=>
          clear HB;obtain⟨k,hk,rfl,hrl,hb⟩:=hrel;have HB:=lhd hb;have HL:=lhd hrl;clear hb hrl;by_cases hlt:k<V.length
          ·have hw1:=zrz k (by omega);obtain⟨b,o,rfl,hcell⟩:=(HV.out.below HB.out).vrs hlt;have d1:wr.cell? ⟨b,o+k*7+1,none⟩=some (.int .i64 V[k].ty):=hcell 1 _ rfl;clear hcell;have HBAD:=lhd (fun h=>show R=7 by rw[HDR.out];exact zq6 HA.out HDD.out HC.out HNS.out HNV.out (.inr ⟨_,List.getElem_mem hlt,h⟩));have HOKK:=lhd (fun h=>zsL (P:=fun x=>0≤x.ty∧x.ty≤18) hlt HL.out h);generalize V[k].ty=y at*;by_cases e1:y<0
           ·have HR:=lhd (HBAD.out (.inl e1));clear HBAD HOKK;go_wp2_with fail;go_ret;exact⟨zrM HR.out.symm,HB.out⟩
           by_cases e2:18<y
           ·have HR:=lhd (HBAD.out (.inr e2));clear HBAD HOKK;go_wp2_with fail;go_ret;exact⟨zrM HR.out.symm,HB.out⟩
           have HN:=lhd (HOKK.out ⟨by omega,by omega⟩);clear HBAD HOKK;go_wp2_with fail;go_roundw;case rel=>exact⟨k+1,hlt,by go_num,HN.out,HB.out⟩
           case measure=>simp[intOf];omega
          ·obtain rfl:k=V.length:=by omega
           have HTV:=lhd (zsK HL.out);clear HL hk hlt;go_wp2_with fail;go_loopw [10] (fun i wr=>∃k:Nat,k≤V.length∧i=.int .i64 k∧(∀x∈V.take k,zkJ x=false)∧Below w.heap.size w wr) (fun i _=>V.length-(intOf i).toNat)
           case atStart=>exact⟨0,Nat.zero_le _,rfl,zsM,HB.out⟩
           case round=>
            clear HB;obtain⟨k,hk,rfl,hrl,hb⟩:=hrel;have HB:=lhd hb;have HL:=lhd hrl;clear hb hrl;by_cases hlt:k<V.length
            ·have hw1:=zrz k (by omega);obtain⟨b,o,rfl,hcell⟩:=(HV.out.below HB.out).vrs hlt;have d0:wr.cell? ⟨b,o+k*7,none⟩=some (.string (bsB V[k].nm)):=hcell 0 _ rfl;have d1:wr.cell? ⟨b,o+k*7+1,none⟩=some (.int .i64 V[k].ty):=hcell 1 _ rfl;have d2:wr.cell? ⟨b,o+k*7+2,none⟩=some (.int .i64 V[k].sc):=hcell 2 _ rfl;have d3:wr.cell? ⟨b,o+k*7+3,none⟩=some (.int .i64 V[k].sg):=hcell 3 _ rfl;have d4:wr.cell? ⟨b,o+k*7+4,none⟩=some (.bool V[k].rg):=hcell 4 _ rfl;have d5:wr.cell? ⟨b,o+k*7+5,none⟩=some (.int .i64 V[k].mb):=hcell 5 _ rfl;have d6:wr.cell? ⟨b,o+k*7+6,none⟩=some (.int .i64 V[k].lb):=hcell 6 _ rfl;clear hcell;have HBAD:=lhd (fun h=>show R=2 by rw[HDR.out];exact zq4 HA.out HDD.out HC.out HNS.out HNV.out HTS.out HTV.out ⟨_,List.getElem_mem hlt,h⟩);have HOKK:=lhd (fun h=>zsL (P:=fun x=>zkJ x=false) hlt HL.out h);generalize V[k]=y at*;obtain⟨nm,ty,sc,sg,rg,mb,lb⟩:=y;dsimp only at d0 d1 d2 d3 d4 d5 d6;have hb4:Below wr.heap.size wr (wr.alloc (.cells #[.string (bsB nm),.int .i64 ty,.int .i64 sc,.int .i64 sg,.bool rg,.int .i64 mb,.int .i64 lb] 48)):=(Below.refl _ _).alloc (Nat.le_refl _) _;have X4:=zaq.fresh wr #[.string (bsB nm),.int .i64 ty,.int .i64 sc,.int .i64 sg,.bool rg,.int .i64 mb,.int .i64 lb] 48;have HB:=lhd (zd5 HB.out hb4);clear hb4;go_upto_region 34 with fail;generalize wr.alloc (.cells #[.string (bsB nm),.int .i64 ty,.int .i64 sc,.int .i64 sg,.bool rg,.int .i64 mb,.int .i64 lb] 48)=w4 at*;have r4:=X4.cell (j:=4) rfl;have r5:=X4.cell (j:=5) rfl;have r6:=X4.cell (j:=6) rfl;clear X4 d0 d1 d2 d3 d4 d5 d6;have HWI:=lhd (zsa mb lb w4);cases rg with
             |true=>
              have hrb:zkJ ⟨nm,ty,sc,sg,true,mb,lb⟩=decide (zpX mb lb=0):=rfl;rw[hrb]at HBAD HOKK;clear hrb;generalize zpX mb lb=wf at*;by_cases h0:wf=0
              ·have HR:=lhd (HBAD.out (decide_eq_true h0));have hz0:(wf==0)=true:=by rw[beq_iff_eq];exact h0
               clear HBAD HOKK h0;go_wp2_with fail;refine HWI.out.mono ?_;rintro e w5 ⟨rfl,rfl⟩;go_wp2_with fail;go_ret;exact⟨zrM HR.out.symm,HB.out⟩
              ·have HN:=lhd (HOKK.out (decide_eq_false h0));have hz0:(wf==0)=false:=by rw[beq_eq_false_iff_ne];exact h0
               clear HBAD HOKK h0;go_wp2_with fail;refine HWI.out.mono ?_;rintro e w5 ⟨rfl,rfl⟩;go_wp2_with fail;go_roundw;case rel=>exact⟨k+1,hlt,by go_num,HN.out,HB.out⟩
               case measure=>simp[intOf];omega
             |false=>
              have hrb:zkJ ⟨nm,ty,sc,sg,false,mb,lb⟩=(decide (mb≠0)||decide (lb≠0)):=rfl;rw[hrb]at HBAD HOKK;clear hrb HWI;by_cases h0:mb=0
              ·by_cases h00:lb=0
               ·have HN:=lhd (HOKK.out (by simp[h0,h00]));clear HBAD HOKK;subst h0 h00;go_wp2_with fail;go_roundw;case rel=>exact⟨k+1,hlt,by go_num,HN.out,HB.out⟩
                case measure=>simp[intOf];omega
               ·have HR:=lhd (HBAD.out (by simp[h00]));have hz0:(lb==0)=false:=by rw[beq_eq_false_iff_ne];exact h00
                clear HBAD HOKK h00;subst h0;go_wp2_with fail;go_ret;exact⟨zrM HR.out.symm,HB.out⟩
              ·have HR:=lhd (HBAD.out (by simp[h0]));have hz0:(mb==0)=false:=by rw[beq_eq_false_iff_ne];exact h0
               clear HBAD HOKK h0;go_wp2_with fail;go_ret;exact⟨zrM HR.out.symm,HB.out⟩
            ·obtain rfl:k=V.length:=by omega
             have HRB:=lhd (zsK HL.out);clear HL hk hlt;have HSAME:=lhd (fun h=>show R=5 by rw[HDR.out];exact zq5 HA.out HDD.out HC.out HNS.out HNV.out HTS.out HTV.out HRB.out h);go_wp2_with fail;go_loopw [12] (fun i wr=>∃k:Nat,k≤S.length∧i=.int .i64 k∧(∀i m,∀(hi:i<S.length) (hm:m<i),i<k→zlM S[i]≠zlM (S[m]'(by omega)))∧Below w.heap.size w wr) (fun i _=>S.length-(intOf i).toNat)
             case atStart=>exact⟨0,Nat.zero_le _,rfl,fun i m hi hm h=>absurd h (Nat.not_lt_zero _),HB.out⟩
             case round=>
              clear HB;obtain⟨k,hk,rfl,hrl,hb⟩:=hrel;have HB:=lhd hb;have HL:=lhd hrl;clear hb hrl;by_cases hlt:k<S.length
              ·have hw1:=zrz k (by omega);have HB0:=HB;have hS0:=hlt;go_wp2_with fail;go_loopw [13] (fun i wr=>∃m:Nat,m≤k∧i=.int .i64 m∧(∀q,∀hq:q<k,q<m→zlM S[k]≠zlM (S[q]'(by omega)))∧Below w.heap.size w wr) (fun i _=>k-(intOf i).toNat)
               case atStart=>exact⟨0,Nat.zero_le _,rfl,fun q hq h=>absurd h (Nat.not_lt_zero _),HB0.out⟩
               case round=>
                clear HB0 HB;obtain⟨m,hm9,rfl,hrl,hb⟩:=hrel;have HB:=lhd hb;have HLL:=lhd hrl;clear hb hrl;by_cases hmt:m<k
                ·have hw2:=zrz m (by omega);have hmS:m<S.length:=by omega
                 have hmi:(m:Int)<(k:Int):=by omega
                 obtain⟨b,o,rfl,hcell⟩:=(HS.out.below HB.out).scs hlt;have d0:wr.cell? ⟨b,o+k*3,none⟩=some (.string (bsB S[k].1)):=hcell 0 _ rfl;have d2:wr.cell? ⟨b,o+k*3+2,none⟩=some (.int .i64 S[k].2.2):=hcell 2 _ rfl;have hc2:=zsz (HS.out.below HB.out) hmS;have g0:wr.cell? ⟨b,o+m*3,none⟩=some (.string (bsB S[m].1)):=hc2 0 _ rfl;have g2:wr.cell? ⟨b,o+m*3+2,none⟩=some (.int .i64 S[m].2.2):=hc2 2 _ rfl;clear hcell hc2;have HBAD:=lhd (fun(h:zlM S[k]=zlM S[m])=>HSAME.out (.inl (zrA ⟨k,m,hlt,hmt,h⟩)))
                 have HOKK:=lhd (fun(h:zlM S[k]≠zlM S[m])=>show ∀q,∀hq:q<k,q<m+1→zlM S[k]≠zlM (S[q]'(by omega))from fun q hq hq2=>by
                  rcases Nat.lt_or_ge q m with h9|h9
                  ·exact HLL.out q hq h9
                  ·obtain rfl:q=m:=by omega
                   exact h)
                 unfold zlM at HBAD HOKK;by_cases e1:S[k].2.2=S[m].2.2
                 ·by_cases e2:S[k].1=S[m].1
                  ·have HR:=lhd (HBAD.out (by rw[e1,e2]));rw[←e1]at g2;rw[←e2]at g0;clear HBAD HOKK e1 e2;generalize S[k].2.2=x at d2 g2;generalize S[k].1=y at d0 g0;go_wp2_with fail;go_quiet (fail);have HB:=lhd (zqO HB.out nq);go_wp2_with fail;go_ret;exact⟨zrM HR.out.symm,HB.out⟩
                  ·have HN:=lhd (HOKK.out (fun h=>e2 (congrArg Prod.snd h)));rw[←e1]at g2;have hss:=zaW (zbl e2);clear HBAD HOKK e1 e2;generalize S[k].2.2=x at d2 g2;generalize S[k].1=y at d0 hss;generalize S[m].1=y2 at g0 hss;go_wp2_with fail;go_quiet (fail);have HB:=lhd (zqO HB.out nq);go_wp2_with fail;go_roundw;case rel=>exact⟨m+1,hmt,by go_num,HN.out,HB.out⟩
                   case measure=>simp[intOf];omega
                 ·have HN:=lhd (HOKK.out (fun h=>e1 (congrArg Prod.fst h)));have hbb:(S[k].2.2==S[m].2.2)=false:=by rw[beq_eq_false_iff_ne];exact e1
                  clear HBAD HOKK e1 d0 g0;generalize S[k].2.2=x at d2 hbb;generalize S[m].2.2=x2 at g2 hbb;go_wp2_with fail;go_quiet (fail);have HB:=lhd (zqO HB.out nq);go_wp2_with fail;go_roundw;case rel=>exact⟨m+1,hmt,by go_num,HN.out,HB.out⟩
                  case measure=>simp[intOf];omega
                ·obtain rfl:m=k:=by omega
                 have HN:=lhd (show ∀i q,∀(hi:i<S.length) (hm:q<i),i<m+1→zlM S[i]≠zlM (S[q]'(by omega))from fun i q hi hq h=>by
                  rcases Nat.lt_or_ge i m with h9|h9
                  ·exact HL.out i q hi hq h9
                  ·obtain rfl:i=m:=by omega
                   exact HLL.out q hq hq)
                 go_wp2_with fail;go_roundw;case rel=>exact⟨m+1,hlt,by go_num,HN.out,HB.out⟩
                 case measure=>simp[intOf];omega
              ·obtain rfl:k=S.length:=by omega
               have HKS:=lhd (zrB (key:=zlM) (l:=S) (fun i m hi hm=>HL.out i m hi hm hi));clear HL hk hlt;go_wp2_with fail;go_loopw [14] (fun i wr=>∃k:Nat,k≤V.length∧i=.int .i64 k∧(∀i m,∀(hi:i<V.length) (hm:m<i),i<k→zpk V[i]≠zpk (V[m]'(by omega)))∧Below w.heap.size w wr) (fun i _=>V.length-(intOf i).toNat)
               case atStart=>exact⟨0,Nat.zero_le _,rfl,fun i m hi hm h=>absurd h (Nat.not_lt_zero _),HB.out⟩
               case round=>
                clear HB;obtain⟨k,hk,rfl,hrl,hb⟩:=hrel;have HB:=lhd hb;have HL:=lhd hrl;clear hb hrl;by_cases hlt:k<V.length
                ·have hw1:=zrz k (by omega);have HB0:=HB;go_wp2_with fail;go_loopw [15] (fun i wr=>∃m:Nat,m≤k∧i=.int .i64 m∧(∀q,∀hq:q<k,q<m→zpk V[k]≠zpk (V[q]'(by omega)))∧Below w.heap.size w wr) (fun i _=>k-(intOf i).toNat)
                 case atStart=>exact⟨0,Nat.zero_le _,rfl,fun q hq h=>absurd h (Nat.not_lt_zero _),HB0.out⟩
                 case round=>
                  clear HB0 HB;obtain⟨m,hm9,rfl,hrl,hb⟩:=hrel;have HB:=lhd hb;have HLL:=lhd hrl;clear hb hrl;by_cases hmt:m<k
                  ·have hw2:=zrz m (by omega);have hmV:m<V.length:=by omega
                   have hmi:(m:Int)<(k:Int):=by omega
                   obtain⟨b,o,rfl,hcell⟩:=(HV.out.below HB.out).vrs hlt;have d0:wr.cell? ⟨b,o+k*7,none⟩=some (.string (bsB V[k].nm)):=hcell 0 _ rfl;have d1:wr.cell? ⟨b,o+k*7+1,none⟩=some (.int .i64 V[k].ty):=hcell 1 _ rfl;have d2:wr.cell? ⟨b,o+k*7+2,none⟩=some (.int .i64 V[k].sc):=hcell 2 _ rfl;have d3:wr.cell? ⟨b,o+k*7+3,none⟩=some (.int .i64 V[k].sg):=hcell 3 _ rfl;have d4:wr.cell? ⟨b,o+k*7+4,none⟩=some (.bool V[k].rg):=hcell 4 _ rfl;have d5:wr.cell? ⟨b,o+k*7+5,none⟩=some (.int .i64 V[k].mb):=hcell 5 _ rfl;have d6:wr.cell? ⟨b,o+k*7+6,none⟩=some (.int .i64 V[k].lb):=hcell 6 _ rfl;have hc2:=zsT (HV.out.below HB.out) hmV;have g0:wr.cell? ⟨b,o+m*7,none⟩=some (.string (bsB V[m].nm)):=hc2 0 _ rfl;have g1:wr.cell? ⟨b,o+m*7+1,none⟩=some (.int .i64 V[m].ty):=hc2 1 _ rfl;have g2:wr.cell? ⟨b,o+m*7+2,none⟩=some (.int .i64 V[m].sc):=hc2 2 _ rfl;have g3:wr.cell? ⟨b,o+m*7+3,none⟩=some (.int .i64 V[m].sg):=hc2 3 _ rfl;have g4:wr.cell? ⟨b,o+m*7+4,none⟩=some (.bool V[m].rg):=hc2 4 _ rfl;have g5:wr.cell? ⟨b,o+m*7+5,none⟩=some (.int .i64 V[m].mb):=hc2 5 _ rfl;have g6:wr.cell? ⟨b,o+m*7+6,none⟩=some (.int .i64 V[m].lb):=hc2 6 _ rfl;clear hcell hc2;have HBAD:=lhd (fun(h:zpk V[k]=zpk V[m])=>HSAME.out (.inr (zrA ⟨k,m,hlt,hmt,h⟩)))
                   have HOKK:=lhd (fun(h:zpk V[k]≠zpk V[m])=>show ∀q,∀hq:q<k,q<m+1→zpk V[k]≠zpk (V[q]'(by omega))from fun q hq hq2=>by
                    rcases Nat.lt_or_ge q m with h9|h9
                    ·exact HLL.out q hq h9
                    ·obtain rfl:q=m:=by omega
                     exact h)
                   have HSV:=lhd (fun W=>zsr V[k] V[m] W);have HKY:=lhd (fun(h:V[k].sc=V[m].sc)=>(show zpk V[k]=zpk V[m]↔zsv V[k] V[m]=true by rw[zsw];unfold zpk;simp[h]));have HKN:=lhd (fun(h:V[k].sc≠V[m].sc)=>show zpk V[k]≠zpk V[m]from fun e=>h (congrArg Prod.fst e));generalize V[k]=x at*;generalize V[m]=y at*;by_cases e1:x.sc=y.sc
                   ·have hky:=HKY.out e1;clear HKY HKN;cases hsm:zsv x y
                    ·have HN:=lhd (HOKK.out (fun h=>by rw[hky,hsm]at h;cases h));rw[hsm]at HSV;clear HBAD HOKK hky hsm;obtain⟨x0,x1,x2,x3,x4,x5,x6⟩:=x;obtain⟨y0,y1,y2,y3,y4,y5,y6⟩:=y;dsimp only at e1 d0 d1 d2 d3 d4 d5 d6 g0 g1 g2 g3 g4 g5 g6;subst e1;have SF:=lhd (fun W (hW:Below wr.heap.size wr W)=>And.intro ((hW.cell (zbA d0)).trans d0) (And.intro ((hW.cell (zbA d1)).trans d1) (And.intro ((hW.cell (zbA d2)).trans d2) (And.intro ((hW.cell (zbA d3)).trans d3) (And.intro ((hW.cell (zbA d4)).trans d4) (And.intro ((hW.cell (zbA d5)).trans d5) (And.intro ((hW.cell (zbA d6)).trans d6) (And.intro ((hW.cell (zbA g0)).trans g0) (And.intro ((hW.cell (zbA g1)).trans g1) (And.intro ((hW.cell (zbA g2)).trans g2) (And.intro ((hW.cell (zbA g3)).trans g3) (And.intro ((hW.cell (zbA g4)).trans g4) (And.intro ((hW.cell (zbA g5)).trans g5) ((hW.cell (zbA g6)).trans g6))))))))))))));go_upto_region 50 with fail;refine wp_region_held_drew (S:=(fun w'=>w'.cell? ⟨b,o+k*7,none⟩=some (.string (bsB x0))∧w'.cell? ⟨b,o+k*7+1,none⟩=some (.int .i64 x1)∧w'.cell? ⟨b,o+k*7+2,none⟩=some (.int .i64 x2)∧w'.cell? ⟨b,o+k*7+3,none⟩=some (.int .i64 x3)∧w'.cell? ⟨b,o+k*7+4,none⟩=some (.bool x4)∧w'.cell? ⟨b,o+k*7+5,none⟩=some (.int .i64 x5)∧w'.cell? ⟨b,o+k*7+6,none⟩=some (.int .i64 x6)∧w'.cell? ⟨b,o+m*7,none⟩=some (.string (bsB y0))∧w'.cell? ⟨b,o+m*7+1,none⟩=some (.int .i64 y1)∧w'.cell? ⟨b,o+m*7+2,none⟩=some (.int .i64 x2)∧w'.cell? ⟨b,o+m*7+3,none⟩=some (.int .i64 y3)∧w'.cell? ⟨b,o+m*7+4,none⟩=some (.bool y4)∧w'.cell? ⟨b,o+m*7+5,none⟩=some (.int .i64 y5)∧w'.cell? ⟨b,o+m*7+6,none⟩=some (.int .i64 y6))) (by kernel_rfl) (SF.out _ (Below.refl _ _).drew) (fun hHeld=>?_);clear d0 d1 d2 d3 d4 d5 d6 g0 g1 g2 g3 g4 g5 g6;refine tkH 0 hHeld (v:=?_) ?_;simp only[tkS];refine tkH 1 hHeld (v:=?_) ?_;simp only[tkS];refine tkH 2 hHeld (v:=?_) ?_;simp only[tkS];refine tkH 3 hHeld (v:=?_) ?_;simp only[tkS];refine tkH 4 hHeld (v:=?_) ?_;simp only[tkS];refine tkH 5 hHeld (v:=?_) ?_;simp only[tkS];refine tkH 6 hHeld (v:=?_) ?_;simp only[tkS];refine tkH 7 hHeld (v:=?_) ?_;simp only[tkS];refine tkH 8 hHeld (v:=?_) ?_;simp only[tkS];refine tkH 9 hHeld (v:=?_) ?_;simp only[tkS];refine tkH 10 hHeld (v:=?_) ?_;simp only[tkS];refine tkH 11 hHeld (v:=?_) ?_;simp only[tkS];refine tkH 12 hHeld (v:=?_) ?_;simp only[tkS];refine tkH 13 hHeld (v:=?_) ?_;simp only[tkS];refine tkH 14 hHeld (v:=?_) ?_;simp only[tkS];refine tkH 15 hHeld (v:=?_) ?_;simp only[tkS];refine tkH 16 hHeld (v:=?_) ?_;simp only[tkS];refine tkH 17 hHeld (v:=?_) ?_;simp only[tkS];refine tkH 18 hHeld (v:=?_) ?_;simp only[tkS];refine tkH 19 hHeld (v:=?_) ?_;simp only[tkS];refine oneH 20 (fun K hK=>?_);go_simp;refine(HSV.out _).mono ?_;rintro e w9 ⟨rfl,hb9⟩;have hb8:Below wr.heap.size wr w9:=zd5 (Below.refl _ _).drew hb9;clear hHeld;go_wp2_with fail;refine hK.out _ _ (SF.out _ hb8) (fun hHeld=>?_);clear hK;try simp only[tkS]
                     refine tkH 21 hHeld (v:=?_) ?_;simp only[tkS];refine wpAnyH_done (by kernel_rfl) ?_ _;have HB:=lhd (zd5 HB.out hb8);clear hHeld hb9 hb8;go_wp2_with fail;go_roundw;case rel=>exact⟨m+1,hmt,by go_num,HN.out,HB.out⟩
                     case measure=>simp[intOf];omega
                    ·have HR:=lhd (HBAD.out (hky.2 hsm));rw[hsm]at HSV;clear HBAD HOKK hky hsm;obtain⟨x0,x1,x2,x3,x4,x5,x6⟩:=x;obtain⟨y0,y1,y2,y3,y4,y5,y6⟩:=y;dsimp only at e1 d0 d1 d2 d3 d4 d5 d6 g0 g1 g2 g3 g4 g5 g6;subst e1;have SF:=lhd (fun W (hW:Below wr.heap.size wr W)=>And.intro ((hW.cell (zbA d0)).trans d0) (And.intro ((hW.cell (zbA d1)).trans d1) (And.intro ((hW.cell (zbA d2)).trans d2) (And.intro ((hW.cell (zbA d3)).trans d3) (And.intro ((hW.cell (zbA d4)).trans d4) (And.intro ((hW.cell (zbA d5)).trans d5) (And.intro ((hW.cell (zbA d6)).trans d6) (And.intro ((hW.cell (zbA g0)).trans g0) (And.intro ((hW.cell (zbA g1)).trans g1) (And.intro ((hW.cell (zbA g2)).trans g2) (And.intro ((hW.cell (zbA g3)).trans g3) (And.intro ((hW.cell (zbA g4)).trans g4) (And.intro ((hW.cell (zbA g5)).trans g5) ((hW.cell (zbA g6)).trans g6))))))))))))));go_upto_region 50 with fail;refine wp_region_held_drew (S:=(fun w'=>w'.cell? ⟨b,o+k*7,none⟩=some (.string (bsB x0))∧w'.cell? ⟨b,o+k*7+1,none⟩=some (.int .i64 x1)∧w'.cell? ⟨b,o+k*7+2,none⟩=some (.int .i64 x2)∧w'.cell? ⟨b,o+k*7+3,none⟩=some (.int .i64 x3)∧w'.cell? ⟨b,o+k*7+4,none⟩=some (.bool x4)∧w'.cell? ⟨b,o+k*7+5,none⟩=some (.int .i64 x5)∧w'.cell? ⟨b,o+k*7+6,none⟩=some (.int .i64 x6)∧w'.cell? ⟨b,o+m*7,none⟩=some (.string (bsB y0))∧w'.cell? ⟨b,o+m*7+1,none⟩=some (.int .i64 y1)∧w'.cell? ⟨b,o+m*7+2,none⟩=some (.int .i64 x2)∧w'.cell? ⟨b,o+m*7+3,none⟩=some (.int .i64 y3)∧w'.cell? ⟨b,o+m*7+4,none⟩=some (.bool y4)∧w'.cell? ⟨b,o+m*7+5,none⟩=some (.int .i64 y5)∧w'.cell? ⟨b,o+m*7+6,none⟩=some (.int .i64 y6))) (by kernel_rfl) (SF.out _ (Below.refl _ _).drew) (fun hHeld=>?_);clear d0 d1 d2 d3 d4 d5 d6 g0 g1 g2 g3 g4 g5 g6;refine tkH 0 hHeld (v:=?_) ?_;simp only[tkS];refine tkH 1 hHeld (v:=?_) ?_;simp only[tkS];refine tkH 2 hHeld (v:=?_) ?_;simp only[tkS];refine tkH 3 hHeld (v:=?_) ?_;simp only[tkS];refine tkH 4 hHeld (v:=?_) ?_;simp only[tkS];refine tkH 5 hHeld (v:=?_) ?_;simp only[tkS];refine tkH 6 hHeld (v:=?_) ?_;simp only[tkS];refine tkH 7 hHeld (v:=?_) ?_;simp only[tkS];refine tkH 8 hHeld (v:=?_) ?_;simp only[tkS];refine tkH 9 hHeld (v:=?_) ?_;simp only[tkS];refine tkH 10 hHeld (v:=?_) ?_;simp only[tkS];refine tkH 11 hHeld (v:=?_) ?_;simp only[tkS];refine tkH 12 hHeld (v:=?_) ?_;simp only[tkS];refine tkH 13 hHeld (v:=?_) ?_;simp only[tkS];refine tkH 14 hHeld (v:=?_) ?_;simp only[tkS];refine tkH 15 hHeld (v:=?_) ?_;simp only[tkS];refine tkH 16 hHeld (v:=?_) ?_;simp only[tkS];refine tkH 17 hHeld (v:=?_) ?_;simp only[tkS];refine tkH 18 hHeld (v:=?_) ?_;simp only[tkS];refine tkH 19 hHeld (v:=?_) ?_;simp only[tkS];refine oneH 20 (fun K hK=>?_);go_simp;refine(HSV.out _).mono ?_;rintro e w9 ⟨rfl,hb9⟩;have hb8:Below wr.heap.size wr w9:=zd5 (Below.refl _ _).drew hb9;clear hHeld;go_wp2_with fail;refine hK.out _ _ (SF.out _ hb8) (fun hHeld=>?_);clear hK;try simp only[tkS]
                     refine tkH 21 hHeld (v:=?_) ?_;simp only[tkS];refine wpAnyH_done (by kernel_rfl) ?_ _;have HB:=lhd (zd5 HB.out hb8);clear hHeld hb9 hb8;go_wp2_with fail;go_ret;exact⟨zrM HR.out.symm,HB.out⟩
                   ·have HN:=lhd (HOKK.out (HKN.out e1));clear HBAD HOKK HKY HKN HSV d0 d1 d3 d4 d5 d6 g0 g1 g3 g4 g5 g6;have hbb:(x.sc==y.sc)=false:=by rw[beq_eq_false_iff_ne];exact e1
                    generalize x.sc=x2 at*;generalize y.sc=y2 at*;clear e1;go_wp2_with fail;go_quiet (fail);have HB:=lhd (zqO HB.out nq);go_wp2_with fail;go_roundw;case rel=>exact⟨m+1,hmt,by go_num,HN.out,HB.out⟩
                    case measure=>simp[intOf];omega
                  ·obtain rfl:m=k:=by omega
                   have HN:=lhd (show ∀i q,∀(hi:i<V.length) (hm:q<i),i<m+1→zpk V[i]≠zpk (V[q]'(by omega))from fun i q hi hq h=>by
                    rcases Nat.lt_or_ge i m with h9|h9
                    ·exact HL.out i q hi hq h9
                    ·obtain rfl:i=m:=by omega
                     exact HLL.out q hq hq)
                   go_wp2_with fail;go_roundw;case rel=>exact⟨m+1,hlt,by go_num,HN.out,HB.out⟩
                   case measure=>simp[intOf];omega
                ·obtain rfl:k=V.length:=by omega
                 have HR:=lhd (show R=0 by rw[HDR.out];exact zq1 HA.out HDD.out HC.out HNS.out HNV.out HTS.out HTV.out HRB.out HKS.out (zrB (key:=zpk) (l:=V) (fun i m hi hm=>HL.out i m hi hm hi)));go_wp2_with fail;go_ret;exact⟨zrM HR.out.symm,HB.out⟩
def InP (d:DD) (vS vD:Value) (f:Nat):Prop:=∀(p:Int) (w:World),-1≤p→p≤1000→SlR w vS d.S.length (scs d.S)→SlR w vD d.D.length (dcls d.D)→(d.S.length:Int)≤(f:Int)+p+1→(zff d.S d.D (f+1) p).length≤1000000000→
 Calls Tryz.prog 45 #[ddV d vS vD,.int .i64 p] w fun e w'=>e=.returned (.string (bsB (zff d.S d.D (f+1) p)))∧Below w.heap.size w w'
theorem zsS (a b c r:Bs):bsB a++⟨#[32]⟩++bsB b++⟨#[32]⟩++bsB c++⟨#[32]⟩++bsB r=bsB (a++(32::(b++(32::(c++(32::r)))))):=by
 rw[zqQ,zqR,zqQ,zqR,zqQ,zqR];simp
theorem zsy (a b:Bs):bsB a++⟨#[32]⟩++bsB b=bsB (a++32::b):=by
 rw[zqQ,zqR];simp
theorem zrq (D:List Dcl) (p:Int):inV D p 0=[]:=rfl
theorem zrr (S:List Sc) (D:List Dcl) (f:Nat) (p:Int):inS S D f p 0=[]:=rfl
theorem zsj (d:DD) (vS vD:Value) (hv:VD d) (f:Nat) (ih:∀f',f=f'+1→InP d vS vD f'):InP d vS vD f:=by
 intro p w hp hp2 hS hD hf hlen;obtain⟨aS,cS,rfl,-,-⟩:=hS.shape;obtain⟨aD,cD,rfl,-,hmD⟩:=hD.shape;obtain⟨R,hR⟩:∃R,R=zff d.S d.D (f+1) p:=⟨_,rfl⟩;rw[←hR]at hlen⊢;have HRR:=lhd hR;have HLN:=lhd hlen;have HSS:=lhd hS;have HSD:=lhd hD;have HV:=lhd hv;have HIH:=lhd ih;have hal:Below w.heap.size w (w.alloc (.cells (vBox d (.slice aS d.S.length cS) (.slice aD d.D.length cD)) 25)):=(Below.refl _ _).alloc (Nat.le_refl _) _;have HB1:=lhd hal;have HX1:=lhd (heap_alloc_new w (.cells (vBox d (.slice aS d.S.length cS) (.slice aD d.D.length cD)) 25));have hlS:=hv.sn;have hlD:=hv.dn;clear hR hlen hS hD hv ih hal;go_enter Tryz.func45,Tryz.ntmps45;go_wp2_with fail;generalize w.alloc (.cells (vBox d (.slice aS d.S.length cS) (.slice aD d.D.length cD)) 25)=w1 at*;go_loopw [5,6] (fun so sk wr=>∃k:Nat,k≤d.D.length∧sk=.int .i64 k∧so=.string (bsB (inV d.D p k))∧Below w.heap.size w wr∧wr.heap[w.heap.size]? =some (.cells (vBox d (.slice aS d.S.length cS) (.slice aD d.D.length cD)) 25 (0,0))) (fun _ sk _=>d.D.length-(intOf sk).toNat)
 case atStart=>exact⟨0,Nat.zero_le _,rfl,by rw[zrq];rfl,HB1.out,HX1.out⟩
 case round=>
  obtain⟨k,hk,rfl,rfl,hbb,hxx⟩:=hrel;have HB:=lhd hbb;have HX:=lhd hxx;have HSZ:=lhd (show w.heap.size<wr.heap.size from(Array.getElem?_eq_some_iff.1 hxx).1);obtain⟨q0,q1,q2,q3,q4,q5⟩:=zop hxx;clear hbb hxx q0 q1 q2 q3 HB1 HX1;by_cases hlt:k<d.D.length
  ·obtain⟨bD,oD,rfl,hcl⟩:=(HSD.out.below HB.out).dcls hlt;have HVV:=lhd (HV.out.dv _ (List.getElem_mem hlt));have HSC:=lhd (zrp p hlt);have HPT:=lhd (fun h=>zru (S:=d.S) (f:=f) hlt (p:=p) h);rw[←HRR.out]at HPT;generalize d.D[k]=x at hcl HVV HSC HPT;have HFR:=lhd (fun W=>zrZ x W HVV.out.nm (fun h=>⟨(HVV.out.r1 h).2.1,(HVV.out.r1 h).2.2.1⟩));have hrl:=zk3 HVV.out;have hcl2:=zb3 HVV.out.cd;obtain⟨n,hn⟩:∃n:Int,n=if x.kind=1 then 64 else x.width:=⟨_,rfl⟩
   have hn1:0≤n∧n≤128:=by
    rw[hn];by_cases h0:x.kind=0
    ·have:=HVV.out.w0 h0;rw[if_neg (by omega)];omega
    ·have:=HVV.out.w1 h0;split<;>omega
   obtain⟨mx,hmx⟩:∃m:Int,m=max 1 n:=⟨_,rfl⟩;have hmx1:1≤mx∧mx≤128:=by omega
   have HDC:=lhd (fun W=>zrU mx (by omega) (by omega) W);have hil:=zfW mx (by omega);have HVN:=lhd (fun W=>zrP x.ty W);have hnl:=zhy (l:=varW) (m:=9) (by decide) x.ty;have HLI:=lhd (fun W=>zsm sVar (zhx varW x.ty++(32::(Lib.itoa mx++(32::(x.code++(32::refT x)))))) W (by simp only[List.length_append,List.length_cons,sVar,List.length_nil];omega));rw[←zsS]at HLI;have HVR:=lhd (show zgM sVar (zhx varW x.ty++(32::(Lib.itoa mx++(32::(x.code++(32::refT x))))))=varR x by rw[hmx,hn];rfl);rw[HVR.out]at HLI;clear HVR;have HNN:=lhd hn;have z1:(bsB (zhx varW x.ty)).size≤9:=by rw[zbk];exact hnl
   have z2:(bsB (Lib.itoa mx)).size≤100:=by rw[zbk];exact hil
   have z3:(bsB x.code).size≤8:=by rw[zbk];exact hcl2
   have z4:(bsB (refT x)).size≤300:=by rw[zbk];exact hrl
   clear hn hnl hil hrl hcl2 HVV;have hw:IntKind.i64.wrap ((k:Int)+1)=(k:Int)+1:=IntWalk.i64_in _ (by omega);have hk0:(0:Int)≤(k:Int):=by omega
   have hk1:(k:Int)<(d.D.length:Int):=by omega
   generalize bsB (zhx varW x.ty)=y1 at*;generalize bsB (Lib.itoa mx)=y2 at*;generalize bsB (refT x)=y4 at*;subst hmx;clear hmx1;obtain⟨RV,hRV⟩:∃r,r=varR x:=⟨_,rfl⟩;rw[←hRV]at HSC HPT HLI;clear hRV;obtain⟨n0,n1,n2,n3,n4,n5,n6,n7,n8,n9⟩:=x;dsimp only at*;have d0:wr.cell? ⟨bD,oD+k*10,none⟩=some (.string (bsB n0)):=hcl 0 _ rfl;have d1:wr.cell? ⟨bD,oD+k*10+1,none⟩=some (.int .i64 n1):=hcl 1 _ rfl;have d2:wr.cell? ⟨bD,oD+k*10+2,none⟩=some (.int .i64 n2):=hcl 2 _ rfl;have d3:wr.cell? ⟨bD,oD+k*10+3,none⟩=some (.int .i64 n3):=hcl 3 _ rfl;have d4:wr.cell? ⟨bD,oD+k*10+4,none⟩=some (.bool n4):=hcl 4 _ rfl;have d5:wr.cell? ⟨bD,oD+k*10+5,none⟩=some (.int .i64 n5):=hcl 5 _ rfl;have d6:wr.cell? ⟨bD,oD+k*10+6,none⟩=some (.int .i64 n6):=hcl 6 _ rfl;have d7:wr.cell? ⟨bD,oD+k*10+7,none⟩=some (.string (bsB n7)):=hcl 7 _ rfl;have d8:wr.cell? ⟨bD,oD+k*10+8,none⟩=some (.int .i64 n8):=hcl 8 _ rfl;have d9:wr.cell? ⟨bD,oD+k*10+9,none⟩=some (.int .i64 n9):=hcl 9 _ rfl;clear hcl;have hba:Below wr.heap.size wr (wr.alloc (.cells #[.string (bsB n0),.int .i64 n1,.int .i64 n2,.int .i64 n3,.bool n4,.int .i64 n5,.int .i64 n6,.string (bsB n7),.int .i64 n8,.int .i64 n9] 50)):=(Below.refl _ _).alloc (Nat.le_refl _) _;have hx1:=zaq.fresh wr #[.string (bsB n0),.int .i64 n1,.int .i64 n2,.int .i64 n3,.bool n4,.int .i64 n5,.int .i64 n6,.string (bsB n7),.int .i64 n8,.int .i64 n9] 50;have hza:wr.heap.size<(wr.alloc (.cells #[.string (bsB n0),.int .i64 n1,.int .i64 n2,.int .i64 n3,.bool n4,.int .i64 n5,.int .i64 n6,.string (bsB n7),.int .i64 n8,.int .i64 n9] 50)).heap.size:=by simp
   have hbv:Below (wr.alloc (.cells #[.string (bsB n0),.int .i64 n1,.int .i64 n2,.int .i64 n3,.bool n4,.int .i64 n5,.int .i64 n6,.string (bsB n7),.int .i64 n8,.int .i64 n9] 50)).heap.size (wr.alloc (.cells #[.string (bsB n0),.int .i64 n1,.int .i64 n2,.int .i64 n3,.bool n4,.int .i64 n5,.int .i64 n6,.string (bsB n7),.int .i64 n8,.int .i64 n9] 50)) ((wr.alloc (.cells #[.string (bsB n0),.int .i64 n1,.int .i64 n2,.int .i64 n3,.bool n4,.int .i64 n5,.int .i64 n6,.string (bsB n7),.int .i64 n8,.int .i64 n9] 50)).alloc (.cells #[.string (bsB n0),.int .i64 n1,.int .i64 n2,.int .i64 n3,.bool n4,.int .i64 n5,.int .i64 n6] 48)):=(Below.refl _ _).alloc (Nat.le_refl _) _;have hy1:=zaq.fresh (wr.alloc (.cells #[.string (bsB n0),.int .i64 n1,.int .i64 n2,.int .i64 n3,.bool n4,.int .i64 n5,.int .i64 n6,.string (bsB n7),.int .i64 n8,.int .i64 n9] 50)) #[.string (bsB n0),.int .i64 n1,.int .i64 n2,.int .i64 n3,.bool n4,.int .i64 n5,.int .i64 n6] 48;rw[World.size_alloc]at hy1;have HX7:=lhd (hx1.below hbv hza);have HY7:=lhd hy1;have HB7:=lhd (zd5 hba hbv);have HZ7:=lhd (show((wr.alloc (.cells #[.string (bsB n0),.int .i64 n1,.int .i64 n2,.int .i64 n3,.bool n4,.int .i64 n5,.int .i64 n6,.string (bsB n7),.int .i64 n8,.int .i64 n9] 50)).alloc (.cells #[.string (bsB n0),.int .i64 n1,.int .i64 n2,.int .i64 n3,.bool n4,.int .i64 n5,.int .i64 n6] 48)).heap.size=wr.heap.size+2 by simp);clear hba hx1 hza hbv hy1;go_upto_region 7 with fail;generalize (wr.alloc (.cells #[.string (bsB n0),.int .i64 n1,.int .i64 n2,.int .i64 n3,.bool n4,.int .i64 n5,.int .i64 n6,.string (bsB n7),.int .i64 n8,.int .i64 n9] 50)).alloc (.cells #[.string (bsB n0),.int .i64 n1,.int .i64 n2,.int .i64 n3,.bool n4,.int .i64 n5,.int .i64 n6] 48)=w7 at*;clear d0 d1 d2 d3 d4 d5 d6 d7 d8 d9 q4 q5;obtain⟨bx,hbx⟩:∃b,b=wr.heap.size:=⟨_,rfl⟩;rw[←hbx]at HX7 HY7 HZ7⊢;obtain⟨bv,hbv⟩:∃b,b=bx+1:=⟨_,rfl⟩;rw[←hbv]at HY7⊢;have HBX:=lhd hbx;have HBV:=lhd hbv;clear hbx hbv;have y2:=HY7.out.cell (j:=2) rfl;by_cases hsc:n2=p
   rotate_left
   ·have hq:(n2 !=p)=true:=by rw[bne_iff_ne];exact hsc
    have HSC2:=lhd (HSC.out.trans (by rw[if_neg hsc,List.append_nil]));clear hsc HSC HPT;go_wp2_with fail;go_roundw;case rel=>exact⟨k+1,hlt,by go_num,by rw[HSC2.out],zd5 HB.out HB7.out,((HB7.out).block w.heap.size HSZ.out).trans HX.out⟩
    case measure=>simp[intOf];omega
   have HSC2:=lhd (HSC.out.trans (by rw[if_pos hsc]));have hpt:=HPT.out hsc;have hlr:=HLN.out;subst hsc;have hq:(n2 !=n2)=false:=by simp
   clear HSC HPT;have x3:=HX7.out.cell (j:=9) rfl;have x2:=HX7.out.cell (j:=8) rfl;go_upto_if 33 with fail
   clear y2 hq x2 x3;go_cut [9]from 29 to 33 (fun u wc=>u=.int .i64 n∧w7=wc)
   case first=>
    by_cases h1:n8=1
    ·have hb:(n8==1)=true:=by rw[h1];rfl
     have HE:=lhd (show n=64 by rw[HNN.out,if_pos h1]);clear h1;go_wp2_with fail;go_meet
     case rel=>exact⟨by rw[HE.out],rfl⟩
    ·have hb:(n8==1)=false:=by rw[beq_eq_false_iff_ne];exact h1
     have HE:=lhd (show n=n9 by rw[HNN.out,if_neg h1]);clear h1;go_wp2_with fail;go_meet
     case rel=>exact⟨by rw[HE.out],rfl⟩
   case rest=>
   obtain⟨rfl,rfl⟩:=hcut
   have HSV:=lhd (show ∀V,Below w7.heap.size w7 V→V.cell? ⟨bx,7,none⟩=some (.string (bsB n7))∧V.cell? ⟨bv,0,none⟩=some (.string (bsB n0))∧V.cell? ⟨bv,1,none⟩=some (.int .i64 n1)∧V.cell? ⟨bv,4,none⟩=some (.bool n4)∧V.cell? ⟨bv,5,none⟩=some (.int .i64 n5)∧V.cell? ⟨bv,6,none⟩=some (.int .i64 n6)from fun V hV=>by
    have hq:=HZ7.out;have hb:=HBV.out;have h1:=HX7.out.below hV (by omega);have h2:=HY7.out.below hV (by omega);exact⟨h1.cell (j:=7) rfl,h2.cell (j:=0) rfl,h2.cell (j:=1) rfl,h2.cell (j:=4) rfl,h2.cell (j:=5) rfl,h2.cell (j:=6) rfl⟩)
   go_upto_region 11 with fail;refine zqn (S:=fun V=>V.cell? ⟨bx,7,none⟩=some (.string (bsB n7))∧V.cell? ⟨bv,0,none⟩=some (.string (bsB n0))∧V.cell? ⟨bv,1,none⟩=some (.int .i64 n1)∧V.cell? ⟨bv,4,none⟩=some (.bool n4)∧V.cell? ⟨bv,5,none⟩=some (.int .i64 n5)∧V.cell? ⟨bv,6,none⟩=some (.int .i64 n6)) [0,1,2,4,5,6,8,9,10,11,12,13,14,15,16,17,18,19,20,21,23,25,26] [false,false,false,false,false,false,false,false,false,false,false,false,false,false,false,false,false,false,false,false,false,false,false,false,false,false,false] (by kernel_rfl) (by kernel_rfl) (by rfl) (HSV.out _ (Below.refl _ _).drew) (fun hHeld hStat=>?_);have hbq:Below w7.heap.size w7 w7.drew:=(Below.refl _ _).drew;generalize w7.drew=wC at*;refine tkQ 0 (v:=?_) hStat hHeld rfl rfl ?_;refine tkV 1 (.pointer (some ⟨bv,1,none⟩)) hStat hHeld rfl rfl ?_;refine tkQ 2 (v:=?_) hStat hHeld rfl rfl ?_;refine tkQ 5 (v:=?_) hStat hHeld rfl rfl ?_;refine tkQ 6 (v:=?_) hStat hHeld rfl rfl ?_;refine tkV 10 (.pointer (some ⟨bx,7,none⟩)) hStat hHeld rfl rfl ?_;refine tkV 14 (.pointer (some ⟨bv,0,none⟩)) hStat hHeld rfl rfl ?_;refine tkV 16 (.pointer (some ⟨bv,4,none⟩)) hStat hHeld rfl rfl ?_;refine tkV 18 (.pointer (some ⟨bv,5,none⟩)) hStat hHeld rfl rfl ?_;refine tkV 20 (.pointer (some ⟨bv,6,none⟩)) hStat hHeld rfl rfl ?_;refine tkQ 11 (v:=?_) hStat hHeld rfl rfl ?_;refine tkQ 15 (v:=?_) hStat hHeld rfl rfl ?_;refine tkQ 17 (v:=?_) hStat hHeld rfl rfl ?_;refine tkQ 19 (v:=?_) hStat hHeld rfl rfl ?_;refine tkQ 21 (v:=?_) hStat hHeld rfl rfl ?_;refine oneH 3 (fun K hK=>?_);go_simp;refine((HVN.out _)).mono ?_;rintro e wq ⟨rfl,hbz⟩;have hbq:=zd5 hbq hbz;clear hHeld hbz;go_wp2_with fail;refine hK.out _ _ (HSV.out _ hbq) (fun hHeld=>?_);clear hK;try simp only[tkS]
   refine tkL 4 (v:=?_) hStat hHeld rfl rfl ?_ ?_;rotate_left
   ·intro w h;(try dsimp only at h);go_simp;rw[if_neg (by omega)]
   refine oneH 7 (fun K hK=>?_);go_simp;refine((HDC.out _)).mono ?_;rintro e wq ⟨rfl,hbz⟩;have hbq:=zd5 hbq hbz;clear hHeld hbz;go_wp2_with fail;refine hK.out _ _ (HSV.out _ hbq) (fun hHeld=>?_);clear hK;try simp only[tkS]
   refine tkL 8 (v:=?_) hStat hHeld rfl rfl ?_ ?_;rotate_left
   ·intro w h;(try dsimp only at h);go_simp;rw[if_neg (by omega)]
   refine tkL 9 (v:=?_) hStat hHeld rfl rfl ?_ ?_;rotate_left
   ·intro w h;(try dsimp only at h);go_simp;rw[if_neg (by omega)]
   refine tkL 12 (v:=?_) hStat hHeld rfl rfl ?_ ?_;rotate_left
   ·intro w h;(try dsimp only at h);go_simp;rw[if_neg (by omega)]
   refine tkL 13 (v:=?_) hStat hHeld rfl rfl ?_ ?_;rotate_left
   ·intro w h;(try dsimp only at h);go_simp;rw[if_neg (by omega)]
   refine oneH 22 (fun K hK=>?_);go_simp;refine((HFR.out _)).mono ?_;rintro e wq ⟨rfl,hbz⟩;have hbq:=zd5 hbq hbz;clear hHeld hbz;go_wp2_with fail;refine hK.out _ _ (HSV.out _ hbq) (fun hHeld=>?_);clear hK;try simp only[tkS]
   refine tkL 23 (v:=?_) hStat hHeld rfl rfl ?_ ?_;rotate_left
   ·intro w h;(try dsimp only at h);go_simp;rw[if_neg (by omega)]
   refine oneH 24 (fun K hK=>?_);go_simp;refine(HLI.out _).mono ?_;rintro e wq ⟨rfl,rfl⟩;clear hHeld;go_wp2_with fail;refine hK.out _ _ (HSV.out _ hbq) (fun hHeld=>?_);clear hK;try simp only[tkS]
   have zz:(bsB (inV d.D n2 k)).size+(bsB RV).size≤1000000000:=by rw[zbk,zbk];omega
   refine tkL 25 (v:=?_) hStat hHeld rfl rfl ?_ ?_;rotate_left
   ·intro w h;(try dsimp only at h);go_simp;rw[if_neg (by omega)]
   refine tkQ 26 (v:=?_) hStat hHeld rfl rfl ?_;refine wpAnyH_done (by kernel_rfl) ?_ _;clear hHeld hStat;go_wp2_with fail;go_roundw;case rel=>exact⟨k+1,hlt,by go_num,by rw[zqR,HSC2.out],zd5 HB.out (zd5 HB7.out hbq),((zd5 HB7.out hbq).block w.heap.size HSZ.out).trans HX.out⟩
   case measure=>simp[intOf];omega
  ·obtain rfl:k=d.D.length:=by omega
   have HB0:=HB;have HX0:=HX;clear HB HX HSZ hlt hk q4;go_wp2_with fail;clear q5;go_loopw [5,10] (fun so sk wr=>∃k:Nat,k≤d.S.length∧sk=.int .i64 k∧so=.string (bsB (inV d.D p d.D.length++inS d.S d.D f p k))∧Below w.heap.size w wr∧wr.heap[w.heap.size]? =some (.cells (vBox d (.slice aS d.S.length cS) (.slice aD d.D.length cD)) 25 (0,0))) (fun _ sk _=>d.S.length-(intOf sk).toNat)
   case atStart=>exact⟨0,Nat.zero_le _,rfl,by rw[zrr,List.append_nil],HB0.out,HX0.out⟩
   case round=>
    clear HB0 HX0;obtain⟨k,hk,rfl,rfl,hbb,hxx⟩:=hrel;have HB:=lhd hbb;have HX:=lhd hxx;have HSZ:=lhd (show w.heap.size<wr.heap.size from(Array.getElem?_eq_some_iff.1 hxx).1);obtain⟨q0,q1,q2,q3,q4,q5⟩:=zop hxx;clear hbb hxx q0 q1 q2 q3 q5;by_cases hlt:k<d.S.length
    ·obtain⟨bS,oS,rfl,hcl⟩:=(HSS.out.below HB.out).scs hlt;have HSC:=lhd (zrm d.S d.D f p k);have hfs:=HV.out.sf k hlt;rw[zrH hlt]at hfs;rw[zrH hlt,show d.S.getD k ([],0,0)=d.S[k]by simp[hlt]]at HSC
     have HPT:=lhd (fun h=>by
      have:=zrt (D:=d.D) (f:=f) hlt (p:=p) h;rwa [show d.S.getD k ([],0,0)=d.S[k]by simp[hlt],←HRR.out]at this)
     rw[zrH hlt]at HPT;have hnm:=HV.out.sm _ (List.getElem_mem hlt);have HCD:=lhd (fun(W:World) (hb:Below w.heap.size w W) (m:Nat) (u:Value) (hu:(scC d.S[k])[m]? =some u)=>zsz (HSS.out.below hb) hlt m u hu);generalize d.S[k]=s at hcl HSC hfs HPT hnm HCD;obtain⟨m0,m1,m2⟩:=s;dsimp only at hfs hnm HSC HPT;have d2:wr.cell? ⟨bS,oS+k*3+2,none⟩=some (.int .i64 m2):=hcl 2 _ rfl;have hw:IntKind.i64.wrap ((k:Int)+1)=(k:Int)+1:=IntWalk.i64_in _ (by omega);have hk0:(0:Int)≤(k:Int):=by omega
     have hk1:(k:Int)<(d.S.length:Int):=by omega
     clear hcl;by_cases hsc:m2=p
     rotate_left
     ·have hq:(m2==p)=false:=by rw[beq_eq_false_iff_ne];exact hsc
      have HSC2:=lhd (HSC.out.trans (by rw[if_neg hsc,List.append_nil]));clear hsc HSC HPT;go_wp2_with fail;go_roundw;case rel=>exact⟨k+1,hlt,by go_num,by rw[HSC2.out],HB.out,HX.out⟩
      case measure=>simp[intOf];omega
     have HSC2:=lhd (HSC.out.trans (by rw[if_pos hsc]));have hpt:=HPT.out hsc;have hlr:=HLN.out;subst hsc;have hq:(m2==m2)=true:=by simp
     clear HSC HPT;obtain⟨f',rfl⟩:∃f',f=f'+1:=⟨f-1,by omega⟩;have HIN:=lhd (fun(W:World) (hb:Below w.heap.size w W)=>HIH.out f' rfl (k:Int) W (by omega) (by omega) (HSS.out.below hb) (HSD.out.below hb) (by omega) (by omega));have hnl:=zhy (l:=zl4) (m:=8) (by decide) m1;have hml:=zs3 hnm.1;have HSN:=lhd (fun W=>zrN m1 W);have HLI:=lhd (fun W=>zsm zlC (zhx zl4 m1++32::m0) W (by simp only[List.length_append,List.length_cons,zlC,List.length_nil];omega));rw[←zsy]at HLI;have HVR:=lhd (show zgM zlC (zhx zl4 m1++32::m0)=zl2 (m0,m1,m2)from rfl);rw[HVR.out]at HLI;have HLU:=lhd (fun W=>zsm zlE [] W (by decide));have z1:(bsB (zhx zl4 m1)).size≤8:=by rw[zbk];exact hnl
     have z2:(bsB m0).size≤32:=by rw[zbk];exact hml
     clear hnl hml HVR hnm;generalize bsB (zhx zl4 m1)=y1 at*;obtain⟨RS,hRS⟩:∃r,r=zl2 (m0,m1,m2):=⟨_,rfl⟩;obtain⟨RU,hRU⟩:∃r,r=zgM zlE []:=⟨_,rfl⟩;obtain⟨RI,hRI⟩:∃r,r=zff d.S d.D (f'+1) (k:Int):=⟨_,rfl⟩;rw[←hRS]at HSC2 hpt HLI;rw[←hRU]at HSC2 hpt HLU;rw[←hRI]at HSC2 hpt HIN;clear hRS hRU hRI;obtain⟨LV,hLV⟩:∃l,l=inV d.D m2 d.D.length:=⟨_,rfl⟩;obtain⟨LS,hLS⟩:∃l,l=inS d.S d.D (f'+1) m2 k:=⟨_,rfl⟩;rw[←hLV]at hpt;rw[←hLS]at hpt HSC2
     have zz:(bsB (LV++LS)).size+((bsB RS).size+((bsB RI).size+(bsB RU).size))≤1000000000:=by
      rw[zbk,zbk,zbk,zbk,List.length_append];omega
     rw[←hLV,←hLS];obtain⟨Y0,hY0⟩:∃y,y=bsB (LV++LS):=⟨_,rfl⟩;rw[←hY0]at zz⊢;have HY0:=lhd hY0;have HLV:=lhd hLV;have HLS:=lhd hLS;clear hY0 hLV hLS
     have HSV:=lhd (show ∀V,Below wr.heap.size wr V→V.cell? ⟨w.heap.size,0,none⟩=some (.int .i64 d.sc)∧V.cell? ⟨w.heap.size,1,none⟩=some (.string (bsB d.dt))∧V.cell? ⟨w.heap.size,2,none⟩=some (.string (bsB d.vn))∧V.cell? ⟨w.heap.size,3,none⟩=some (.string (bsB d.cm))∧V.cell? ⟨w.heap.size,4,none⟩=some (.slice (some ⟨bS,oS,none⟩) d.S.length cS)∧V.cell? ⟨w.heap.size,5,none⟩=some (.slice aD d.D.length cD)∧V.cell? ⟨bS,oS+k*3,none⟩=some (.string (bsB m0))∧V.cell? ⟨bS,oS+k*3+1,none⟩=some (.int .i64 m1)from fun V hV=>by
      obtain⟨e0,e1,e2,e3,e4,e5⟩:=zop ((hV.block w.heap.size HSZ.out).trans HX.out);have hb:=zd5 HB.out hV;exact⟨e0,e1,e2,e3,e4,e5,HCD.out V hb 0 _ rfl,HCD.out V hb 1 _ rfl⟩)
     go_upto_region 16 with fail;clear d2 hq q4 hpt hlr hfs;refine zqn (S:=fun V=>V.cell? ⟨w.heap.size,0,none⟩=some (.int .i64 d.sc)∧V.cell? ⟨w.heap.size,1,none⟩=some (.string (bsB d.dt))∧V.cell? ⟨w.heap.size,2,none⟩=some (.string (bsB d.vn))∧V.cell? ⟨w.heap.size,3,none⟩=some (.string (bsB d.cm))∧V.cell? ⟨w.heap.size,4,none⟩=some (.slice (some ⟨bS,oS,none⟩) d.S.length cS)∧V.cell? ⟨w.heap.size,5,none⟩=some (.slice aD d.D.length cD)∧V.cell? ⟨bS,oS+k*3,none⟩=some (.string (bsB m0))∧V.cell? ⟨bS,oS+k*3+1,none⟩=some (.int .i64 m1)) [0,1,2,3,4,5,6,8,9,10,11,12,13,14,15,17,18,19,21,23,24] [false,false,false,false,false,false,false,false,false,false,false,false,false,false,false,false,false,false,false,false,false,false,false,false,false] (by kernel_rfl) (by kernel_rfl) (by rfl) (HSV.out _ (Below.refl _ _).drew) (fun hHeld hStat=>?_);have hbq:Below wr.heap.size wr wr.drew:=(Below.refl _ _).drew;generalize wr.drew=wC at*;refine tkQ 0 (v:=?_) hStat hHeld rfl rfl ?_;refine tkV 1 (.pointer (some ⟨w.heap.size,4,none⟩)) hStat hHeld rfl rfl ?_;refine tkQ 2 (v:=?_) hStat hHeld rfl rfl ?_;refine tkQ 3 (v:=?_) hStat hHeld rfl rfl ?_;refine tkQ 4 (v:=?_) hStat hHeld rfl rfl ?_;refine tkQ 5 (v:=?_) hStat hHeld rfl rfl ?_;refine tkQ 6 (v:=?_) hStat hHeld rfl rfl ?_;refine tkV 9 (.pointer (some ⟨w.heap.size,4,none⟩)) hStat hHeld rfl rfl ?_;refine tkQ 10 (v:=?_) hStat hHeld rfl rfl ?_;refine tkQ 11 (v:=?_) hStat hHeld rfl rfl ?_;refine tkQ 12 (v:=?_) hStat hHeld rfl rfl ?_;refine tkQ 13 (v:=?_) hStat hHeld rfl rfl ?_;refine tkQ 14 (v:=?_) hStat hHeld rfl rfl ?_;refine tkQ 18 (v:=?_) hStat hHeld rfl rfl ?_;refine tkQ 19 (v:=?_) hStat hHeld rfl rfl ?_;refine oneH 7 (fun K hK=>?_);go_simp;refine((HSN.out _)).mono ?_;rintro e wq ⟨rfl,hbz⟩;have hbq:=zd5 hbq hbz;clear hHeld hbz;go_wp2_with fail;refine hK.out _ _ (HSV.out _ hbq) (fun hHeld=>?_);clear hK;try simp only[tkS]
     refine tkL 8 (v:=?_) hStat hHeld rfl rfl ?_ ?_;rotate_left
     ·intro w h;(try dsimp only at h);go_simp;rw[if_neg (by omega)]
     refine tkL 15 (v:=?_) hStat hHeld rfl rfl ?_ ?_;rotate_left
     ·intro w h;(try dsimp only at h);go_simp;rw[if_neg (by omega)]
     refine oneH 16 (fun K hK=>?_);go_simp;refine(HLI.out _).mono ?_;rintro e wq ⟨rfl,rfl⟩;clear hHeld;go_wp2_with fail;refine hK.out _ _ (HSV.out _ hbq) (fun hHeld=>?_);clear hK;try simp only[tkS]
     refine tkL 17 (v:=?_) hStat hHeld rfl rfl ?_ ?_;rotate_left
     ·intro w h;(try dsimp only at h);go_simp;rw[if_neg (by omega)]
     refine oneH 20 (fun K hK=>?_);go_simp;refine((HIN.out _ (zd5 HB.out hbq))).mono ?_;rintro e wq ⟨rfl,hbz⟩;have hbq:=zd5 hbq hbz;clear hHeld hbz;go_wp2_with fail;refine hK.out _ _ (HSV.out _ hbq) (fun hHeld=>?_);clear hK;try simp only[tkS]
     refine tkL 21 (v:=?_) hStat hHeld rfl rfl ?_ ?_;rotate_left
     ·intro w h;(try dsimp only at h);go_simp;rw[if_neg (by omega)]
     refine oneH 22 (fun K hK=>?_);go_simp;refine(HLU.out _).mono ?_;rintro e wq ⟨rfl,rfl⟩;clear hHeld;go_wp2_with fail;refine hK.out _ _ (HSV.out _ hbq) (fun hHeld=>?_);clear hK;try simp only[tkS]
     refine tkL 23 (v:=?_) hStat hHeld rfl rfl ?_ ?_;rotate_left
     ·intro w h;(try dsimp only at h);go_simp;rw[if_neg (by omega)]
     refine tkQ 24 (v:=?_) hStat hHeld rfl rfl ?_;refine wpAnyH_done (by kernel_rfl) ?_ _;clear hHeld hStat;go_wp2_with fail;go_roundw;case rel=>exact⟨k+1,hlt,by go_num,by rw[HSC2.out,HY0.out,zqR,zqR,zqR];simp only[List.append_assoc],zd5 HB.out hbq,(hbq.block w.heap.size HSZ.out).trans HX.out⟩
     case measure=>simp[intOf];omega
    ·obtain rfl:k=d.S.length:=by omega
     have HE:=lhd (HRR.out.trans (zrs d.S d.D f p));go_wp2_with fail;go_ret;exact⟨by rw[HE.out];rfl,HB.out⟩
theorem zsi (d:DD) (vS vD:Value) (hv:VD d):∀f,InP d vS vD f
 |0=>zsj d vS vD hv 0 fun _ h=>by omega
 |f+1=>zsj d vS vD hv (f+1) fun f' h=>by
  obtain rfl:f=f':=by omega
  exact zsi d vS vD hv f
end Go.Proofs.YtcdekelomkcahaaGreatDoor
