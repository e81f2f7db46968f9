import Derived.Test.YtcdekelomkcahaaGreatDoorZ00
import Derived.Below
import Derived.Deep.RegionLawGrows
import Derived.RangeFuncBox
import Derived.Test.YtcdekelomkcahaaGreatDoorZ07
import Derived.Test.YtcdekelomkcahaaGreatDoorZ25
set_option maxRecDepth 100000
set_option maxHeartbeats 16000000
namespace Go.Proofs.YtcdekelomkcahaaGreatDoor
open Go.RowKit
def nbF (s:List Bs) (x:BsM):Option Value:=if x∈s then some (.int .i64 (s.idxOf x:Nat))else none
theorem zhD {s:List Bs} {c:Bs} (h:c∉s) (y:BsM):(if y=c then some (.int .i64 (s.length:Nat))else nbF s y)=nbF (s++ [c]) y:=by
 unfold nbF;by_cases hy:y=c
 ·subst hy;rw[if_pos rfl,if_pos (by simp),List.idxOf_append,if_neg h];simp
 ·rw[if_neg hy];by_cases hm:y∈s
  ·rw[if_pos hm,if_pos (by simp[hm]),List.idxOf_append,if_pos hm]
  ·rw[if_neg hm,if_neg (by simp[hm,hy])]
theorem zoZ:∀(l m:List Dcl) (s:List Bs),zoY (l++m) s=zoY l s++zoY m (zmr l s)
 | [],_,_=>rfl
 |x::l,m,s=>by
  show vrD x _::zoY (l++m) _=vrD x _::(zoY l _++_);rw[zoZ l m];rfl
theorem zmD (P:List Dcl) (x:Dcl):zmr (P++ [x]) []=zmp (zmr P []) x.code:=by rw[zmv];rfl
theorem zpa (P:List Dcl) (x:Dcl):zoY (P++ [x]) []=zoY P []++ [vrD x ((zmr (P++ [x]) []).idxOf x.code:Nat)]:=by
 rw[zoZ,zmD];rfl
theorem zgu {D P R:List Dcl} {x:Dcl} (hD:D=P++ [x]++R):knD (P++ [x]) x.code=some (oldD D x):=by
 obtain⟨y,hy⟩:∃y,knD (P++ [x]) x.code=some y:=by
  cases h:knD (P++ [x]) x.code with
  |some y=>exact⟨y,rfl⟩
  |none=>
   unfold knD at h;exact absurd (List.find?_eq_none.1 h x (List.mem_append_right _ (List.mem_singleton.2 rfl))) (by simp)
 rw[hy];unfold oldD;unfold knD at hy;rw[hD,List.find?_append,hy];rfl
theorem zgw {D:List Dcl} {k:Nat} (hk:k<D.length):knD (D.take k++ [D[k]]) D[k].code=some (oldD D D[k]):=
 zgu (R:=D.drop (k+1)) (by rw[←List.take_succ_eq_append_getElem hk,List.take_append_drop])
theorem zbx {P:List Dcl} {x:Dcl} (h:knD P x.code≠none) (y:BsM):cF P y=cF (P++ [x]) y:=by
 unfold cF knD at*;rw[List.find?_append];cases hz:P.find? fun d=>decide (d.code=y)with
 |some d=>rfl
 |none=>
  by_cases e:y=x.code
  ·subst e;exact absurd hz h
  ·rw[List.find?_cons,decide_eq_false (fun h=>e h.symm)];rfl
theorem zgs {D:List Dcl} {c:Bs} (h:knD D c≠none):c∈zmr D []:=by
 obtain⟨y,hy⟩:=Option.ne_none_iff_exists'.1 h;unfold knD at hy;exact zmz.2 (.inr ⟨y,List.mem_of_find?_eq_some hy,of_decide_eq_true (List.find?_some (p:=fun z:Dcl=>decide (z.code=c)) hy)⟩)
theorem zmC {P:List Dcl} {x:Dcl} (h:knD P x.code≠none):zmr (P++ [x]) []=zmr P []:=by
 rw[zmD];exact if_pos (zgs h)
theorem zmA {P:List Dcl} {x:Dcl} (h:knD P x.code=none):zmr (P++ [x]) []=zmr P []++ [x.code]:=by
 rw[zmD];exact if_neg (zgt h)
theorem zmy (P:List Dcl):(zmr P []).length≤P.length:=by
 have:∀(l:List Dcl) (s:List Bs),(zmr l s).length≤s.length+l.length:=by
  intro l;induction l with
  |nil=>intro s;exact Nat.le_refl _
  |cons x l ih=>
   intro s;show(zmr l (zmp s x.code)).length≤_;have h1:=ih (zmp s x.code);have h2:(zmp s x.code).length≤s.length+1:=by unfold zmp;split<;>simp
   simp only[List.length_cons];omega
 simpa using this P []
theorem zhC (P:List Dcl) (x:Dcl):nbF (zmr (P++ [x]) []) x.code=some (.int .i64 ((zmr (P++ [x]) []).idxOf x.code:Nat)):=
 if_pos (zmz.2 (.inr ⟨x,by simp,rfl⟩))
theorem zoT {d:DD} (h:(decide (-15≤d.sc)&&decide (d.sc≤2)&&zp2 d.dt&&zp2 d.vn&&zp2 d.cm)=false):zoN d=false:=by
 unfold zoN;rw[h];simp
theorem zoS {d:DD} {x:Dcl} (hx:x∈d.D) (h:okV (oldD d.D x) x=false):zoN d=false:=by
 unfold zoN
 have:d.D.all (fun x=>okV (oldD d.D x) x)=false:=by
  rw[←Bool.not_eq_true,List.all_eq_true];intro hh;rw[hh x hx]at h;cases h
 rw[this];simp
theorem zoQ {d:DD} (h:(decide (-15≤d.sc)&&decide (d.sc≤2)&&zp2 d.dt&&zp2 d.vn&&zp2 d.cm)=true) (ha:∀x∈d.D,okV (oldD d.D x) x=true):
 zoN d=(decide ((zmr d.D []).length≤64)&&hOk d.S (zoY d.D [])):=by
 unfold zoN;rw[h,List.all_eq_true.2 ha,Bool.true_and,Bool.true_and]
theorem zo8 {D:List Dcl} {m:Nat} (h:∀x∈D,x.nm.length≤m):∀v∈zoY D [],v.nm.length≤m:=by
 have:∀(l:List Dcl) (s:List Bs),(∀x∈l,x.nm.length≤m)→∀v∈zoY l s,v.nm.length≤m:=fun l=>by
  induction l with
  |nil=>intro s _ v hv;cases hv
  |cons x l ih=>
   intro s hl v hv;rcases List.mem_cons.1 hv with rfl|hv
   ·exact hl x List.mem_cons_self
   ·exact ih _ (fun y hy=>hl y (List.mem_cons_of_mem _ hy)) v hv
 exact this D [] h
theorem zo9 (D:List Dcl):∀v∈zoY D [],0≤v.sg∧v.sg≤(D.length:Int):=by
 have:∀(l:List Dcl) (s:List Bs),∀v∈zoY l s,0≤v.sg∧v.sg≤((s.length+l.length:Nat):Int):=fun l=>by
  induction l with
  |nil=>intro s v hv;cases hv
  |cons x l ih=>
   intro s v hv;have h2:(zmp s x.code).length≤s.length+1:=by unfold zmp;split<;>simp
   rcases List.mem_cons.1 hv with rfl|hv
   ·have h1:=List.idxOf_lt_length_of_mem (zmq s x.code);show 0≤(((zmp s x.code).idxOf x.code:Nat):Int)∧(((zmp s x.code).idxOf x.code:Nat):Int)≤_;simp only[List.length_cons];omega
   ·have:=ih _ v hv;simp only[List.length_cons];omega
 have h:=this D [];simpa using h
set_option linter.unusedSimpArgs false
theorem zr2 (n:Int) (w:World):Calls Tryz.prog 81 #[.int .i64 n] w fun e w'=>e=.returned (.int .i64 (zgo n))∧w=w':=by
 by_cases h3:n=3
 ·subst h3;go_enter Tryz.func81,Tryz.ntmps81;go_wp2_with fail;go_ret;exact⟨rfl,rfl⟩
 ·have b3:(n==3)=false:=by simpa using h3
  by_cases h4:n=4
  ·subst h4;go_enter Tryz.func81,Tryz.ntmps81;go_wp2_with fail;go_ret;exact⟨rfl,rfl⟩
  ·have b4:(n==4)=false:=by simpa using h4
   by_cases h6:n=6
   ·subst h6;go_enter Tryz.func81,Tryz.ntmps81;go_wp2_with fail;go_ret;exact⟨rfl,rfl⟩
   ·have b6:(n==6)=false:=by simpa using h6
    by_cases h0:n=0
    ·subst h0;go_enter Tryz.func81,Tryz.ntmps81;go_wp2_with fail;go_ret;exact⟨rfl,rfl⟩
    ·have b0:(n==0)=false:=by simpa using h0
     have HR:=lhd (show 0=zgo n by unfold zgo;rw[if_neg (by omega),if_neg h6,if_neg h0]);clear h3 h4 h6 h0;go_enter Tryz.func81,Tryz.ntmps81;go_wp2_with fail;go_ret;exact⟨zrM HR.out,rfl⟩
theorem zr4 (n:Int) (w:World):Calls Tryz.prog 75 #[.int .i64 n] w fun e w'=>e=.returned (.bool (decide (-15≤n)&&decide (n≤2)))∧w=w':=by
 obtain⟨R,hR⟩:∃R,R=(decide (-15≤n)&&decide (n≤2)):=⟨_,rfl⟩;rw[←hR];by_cases h1: -15≤n
 ·by_cases h2:n≤2
  ·have HR:=lhd (show R=true by rw[hR,decide_eq_true h1,decide_eq_true h2];rfl);clear hR;go_enter Tryz.func75,Tryz.ntmps75;go_wp2_with fail;go_ret;exact⟨zle HR.out.symm,rfl⟩
  ·have HR:=lhd (show R=false by rw[hR,decide_eq_false h2,Bool.and_false]);clear hR;go_enter Tryz.func75,Tryz.ntmps75;go_wp2_with fail;go_ret;exact⟨zle HR.out.symm,rfl⟩
 ·have HR:=lhd (show R=false by rw[hR,decide_eq_false h1,Bool.false_and]);clear hR;go_enter Tryz.func75,Tryz.ntmps75;go_wp2_with fail;go_ret;exact⟨zle HR.out.symm,rfl⟩
theorem zsc (n:Int) (w:World):Calls Tryz.prog 133 #[.int .i64 n] w fun e w'=>e=.returned (.bool (zba n))∧w=w':=by
 unfold zba;obtain⟨R,hR⟩:∃R,R=(decide (-32768≤n)&&decide (n≤32768)):=⟨_,rfl⟩;rw[←hR];by_cases h1: -32768≤n
 ·by_cases h2:n≤32768
  ·have HR:=lhd (show R=true by rw[hR,decide_eq_true h1,decide_eq_true h2];rfl);clear hR;go_enter Tryz.func133,Tryz.ntmps133;go_wp2_with fail;go_ret;exact⟨zle HR.out.symm,rfl⟩
  ·have HR:=lhd (show R=false by rw[hR,decide_eq_false h2,Bool.and_false]);clear hR;go_enter Tryz.func133,Tryz.ntmps133;go_wp2_with fail;go_ret;exact⟨zle HR.out.symm,rfl⟩
 ·have HR:=lhd (show R=false by rw[hR,decide_eq_false h1,Bool.false_and]);clear hR;go_enter Tryz.func133,Tryz.ntmps133;go_wp2_with fail;go_ret;exact⟨zle HR.out.symm,rfl⟩
theorem zsa (m l:Int) (w:World):Calls Tryz.prog 83 #[.int .i64 m,.int .i64 l] w fun e w'=>e=.returned (.int .i64 (zpX m l))∧w=w':=by
 obtain⟨R,hR⟩:∃R,R=zpX m l:=⟨_,rfl⟩;rw[←hR];have HM:=lhd (fun W=>zsc m W);have HL:=lhd (fun W=>zsc l W);unfold zpX at hR;cases hm:zba m
 ·rw[hm]at hR HM;have HR:=lhd (show R=0 from hR);clear hR hm;go_enter Tryz.func83,Tryz.ntmps83;go_wp2_with fail;refine(HM.out _).mono ?_;rintro e w2 ⟨rfl,rfl⟩;go_wp2_with fail;go_ret;exact⟨zrM HR.out.symm,rfl⟩
 ·cases hl:zba l
  ·rw[hm,hl]at hR;rw[hm]at HM;rw[hl]at HL;have HR:=lhd (show R=0 from hR);clear hR hm hl;go_enter Tryz.func83,Tryz.ntmps83;go_wp2_with fail;refine(HM.out _).mono ?_;rintro e w2 ⟨rfl,rfl⟩;go_wp2_with fail;refine(HL.out _).mono ?_;rintro e w3 ⟨rfl,rfl⟩;go_wp2_with fail;go_ret;exact⟨zrM HR.out.symm,rfl⟩
  ·have h1:=hm;have h2:=hl;unfold zba at h1 h2;simp at h1 h2;rw[hm,hl]at hR;rw[hm]at HM;rw[hl]at HL;have hR:R=max m l-min m l+1:=hR;by_cases hml:m<l
   ·have HR:=lhd (show R=l-m+1 by omega);have e1:IntKind.i64.wrap (l-m)=l-m:=IntWalk.i64_in _ (by omega);have e2:IntKind.i64.wrap (l-m+1)=l-m+1:=IntWalk.i64_in _ (by omega);clear hR hm hl h1 h2;go_enter Tryz.func83,Tryz.ntmps83;go_wp2_with fail;refine(HM.out _).mono ?_;rintro e w2 ⟨rfl,rfl⟩;go_wp2_with fail;refine(HL.out _).mono ?_;rintro e w3 ⟨rfl,rfl⟩;go_wp2_with fail;go_ret;exact⟨zrM HR.out.symm,rfl⟩
   ·have HR:=lhd (show R=m-l+1 by omega);have e1:IntKind.i64.wrap (m-l)=m-l:=IntWalk.i64_in _ (by omega);have e2:IntKind.i64.wrap (m-l+1)=m-l+1:=IntWalk.i64_in _ (by omega);clear hR hm hl h1 h2;go_enter Tryz.func83,Tryz.ntmps83;go_wp2_with fail;refine(HM.out _).mono ?_;rintro e w2 ⟨rfl,rfl⟩;go_wp2_with fail;refine(HL.out _).mono ?_;rintro e w3 ⟨rfl,rfl⟩;go_wp2_with fail;go_ret;exact⟨zrM HR.out.symm,rfl⟩
theorem zsf (v u:Value) (S:List Sc) (V:List Vr) (w:World) (hs:SlR w v S.length (scs S)) (hv:SlR w u V.length (vrs V)):
 Calls Tryz.prog 162 #[v,u] w fun e w'=>e=.returned (.bool (zcV S V))∧w=w':=by
 obtain⟨a,cap,rfl,hc,hm⟩:=hs.shape;obtain⟨a2,cap2,rfl,hc2,hm2⟩:=hv.shape;unfold maxLen at hm hm2;obtain⟨R,hR⟩:∃R,R=zcV S V:=⟨_,rfl⟩;rw[←hR];have HDR:=lhd hR;have HS:=lhd hs;have HV:=lhd hv;clear hs hv hR;go_enter Tryz.func162,Tryz.ntmps162;go_wp2_with fail
 go_loopw [5] (fun i wr=>∃(j:Nat),j≤S.length∧i=.int .i64 j∧(∀i,∀hi:i<S.length,i<j→ -1≤S[i].2.2∧S[i].2.2<(i:Int))∧w=wr)
  (fun i _=>S.length-(intOf i).toNat)
 case atStart=>exact⟨0,Nat.zero_le _,rfl,fun i hi h=>absurd h (Nat.not_lt_zero _),rfl⟩
 case round=>
  obtain⟨j,hj,rfl,hok,rfl⟩:=hrel;have HOK:=lhd hok;clear hok;by_cases hlt:j<S.length
  ·obtain⟨b,o,rfl,hcell⟩:=HS.out.scs hlt;have d2:w.cell? ⟨b,o+j*3+2,none⟩=some (.int .i64 S[j].2.2):=hcell 2 _ rfl;have hw:IntKind.i64.wrap ((j:Int)+1)=(j:Int)+1:=IntWalk.i64_in _ (by omega);clear hcell;by_cases h1: -1≤S[j].2.2
   ·by_cases h2:S[j].2.2<(j:Int)
    ·have HNX:=lhd (show ∀i,∀hi:i<S.length,i<j+1→ -1≤S[i].2.2∧S[i].2.2<(i:Int)from fun i hi h=>by
      rcases Nat.lt_or_ge i j with h3|h3
      ·exact HOK.out i hi h3
      ·obtain rfl:i=j:=by omega
       exact⟨h1,h2⟩)
     have b1:decide (S[j].2.2< -1)=false:=by rw[decide_eq_false_iff_not];omega
     have b2:decide ((j:Int)≤S[j].2.2)=false:=by rw[decide_eq_false_iff_not];omega
     generalize S[j].2.2=x at d2 h1 h2 b1 b2;go_wp2_with fail;go_roundw;case rel=>exact⟨j+1,hlt,by go_num,HNX.out,by first|trivial|rfl⟩
     case measure=>simp[intOf];omega
    ·have HR:=lhd (show R=false by rw[HDR.out];exact zrg (.inl ⟨j,hlt,fun h=>h2 h.2⟩));have b1:decide (S[j].2.2< -1)=false:=by rw[decide_eq_false_iff_not];omega
     have b2:decide ((j:Int)≤S[j].2.2)=true:=by rw[decide_eq_true_iff];omega
     generalize S[j].2.2=x at d2 h1 h2 b1 b2;go_wp2_with fail;go_ret;exact⟨zle HR.out.symm,rfl⟩
   ·have HR:=lhd (show R=false by rw[HDR.out];exact zrg (.inl ⟨j,hlt,fun h=>h1 h.1⟩));have b1:decide (S[j].2.2< -1)=true:=by rw[decide_eq_true_iff];omega
    generalize S[j].2.2=x at d2 h1 b1;go_wp2_with fail;go_ret;exact⟨zle HR.out.symm,rfl⟩
  ·obtain rfl:j=S.length:=by omega
   have HSO:=lhd (show ∀i,∀hi:i<S.length,-1≤S[i].2.2∧S[i].2.2<(i:Int)from fun i hi=>HOK.out i hi hi);clear HOK;go_wp2_with fail
   go_loopw [6] (fun i wr=>∃(q:Nat),q≤V.length∧i=.int .i64 q∧(∀i,∀hi:i<V.length,i<q→ -1≤V[i].sc∧V[i].sc<(S.length:Int)∧0≤V[i].sg)∧w=wr)
    (fun i _=>V.length-(intOf i).toNat)
   case atStart=>exact⟨0,Nat.zero_le _,rfl,fun i hi h=>absurd h (Nat.not_lt_zero _),rfl⟩
   case round=>
    obtain⟨q,hq,rfl,hok,rfl⟩:=hrel;have HOK:=lhd hok;clear hok;by_cases hqt:q<V.length
    ·obtain⟨b2,o2,rfl,hcell⟩:=HV.out.vrs hqt;have d2:w.cell? ⟨b2,o2+q*7+2,none⟩=some (.int .i64 V[q].sc):=hcell 2 _ rfl;have d3:w.cell? ⟨b2,o2+q*7+3,none⟩=some (.int .i64 V[q].sg):=hcell 3 _ rfl;have hw:IntKind.i64.wrap ((q:Int)+1)=(q:Int)+1:=IntWalk.i64_in _ (by omega);clear hcell;have HNV:=lhd (fun(h:¬(-1≤V[q].sc∧V[q].sc<(S.length:Int)∧0≤V[q].sg))=>show R=false by rw[HDR.out];exact zrg (.inr ⟨_,List.getElem_mem hqt,h⟩));by_cases h1: -1≤V[q].sc
     ·by_cases h2:V[q].sc<(S.length:Int)
      ·by_cases h3:0≤V[q].sg
       ·have HNX:=lhd (show ∀i,∀hi:i<V.length,i<q+1→ -1≤V[i].sc∧V[i].sc<(S.length:Int)∧0≤V[i].sg from fun i hi h=>by
         rcases Nat.lt_or_ge i q with h4|h4
         ·exact HOK.out i hi h4
         ·obtain rfl:i=q:=by omega
          exact⟨h1,h2,h3⟩)
        have b1:decide (V[q].sc< -1)=false:=by rw[decide_eq_false_iff_not];omega
        have b2:decide ((S.length:Int)≤V[q].sc)=false:=by rw[decide_eq_false_iff_not];omega
        have b3:decide (V[q].sg<0)=false:=by rw[decide_eq_false_iff_not];omega
        generalize V[q].sc=x at d2 h1 h2 b1 b2;generalize V[q].sg=y at d3 h3 b3;go_wp2_with fail;go_roundw;case rel=>exact⟨q+1,hqt,by go_num,HNX.out,by first|trivial|rfl⟩
        case measure=>simp[intOf];omega
       ·have HR:=lhd (HNV.out fun h=>h3 h.2.2);have b1:decide (V[q].sc< -1)=false:=by rw[decide_eq_false_iff_not];omega
        have b2:decide ((S.length:Int)≤V[q].sc)=false:=by rw[decide_eq_false_iff_not];omega
        have b3:decide (V[q].sg<0)=true:=by rw[decide_eq_true_iff];omega
        clear HNV;generalize V[q].sc=x at d2 h1 h2 b1 b2;generalize V[q].sg=y at d3 h3 b3;go_wp2_with fail;go_ret;exact⟨zle HR.out.symm,rfl⟩
      ·have HR:=lhd (HNV.out fun h=>h2 h.2.1);have b1:decide (V[q].sc< -1)=false:=by rw[decide_eq_false_iff_not];omega
       have b2:decide ((S.length:Int)≤V[q].sc)=true:=by rw[decide_eq_true_iff];omega
       clear HNV;generalize V[q].sc=x at d2 h1 h2 b1 b2;go_wp2_with fail;go_ret;exact⟨zle HR.out.symm,rfl⟩
     ·have HR:=lhd (HNV.out fun h=>h1 h.1);have b1:decide (V[q].sc< -1)=true:=by rw[decide_eq_true_iff];omega
      clear HNV;generalize V[q].sc=x at d2 h1 b1;go_wp2_with fail;go_ret;exact⟨zle HR.out.symm,rfl⟩
    ·obtain rfl:q=V.length:=by omega
     have HR:=lhd (show R=true by
      rw[HDR.out];refine zrf HSO.out fun v hv=>?_;obtain⟨i,hi,rfl⟩:=List.mem_iff_getElem.1 hv;exact HOK.out i hi hi)
     go_wp2_with fail;go_ret;exact⟨zle HR.out.symm,rfl⟩
end Go.Proofs.YtcdekelomkcahaaGreatDoor
