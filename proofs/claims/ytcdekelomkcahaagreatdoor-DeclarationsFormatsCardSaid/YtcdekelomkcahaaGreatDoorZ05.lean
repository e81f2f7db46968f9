import Derived.Test.YtcdekelomkcahaaGreatDoorZ00
import Derived.Test.YtcdekelomkcahaaGreatDoorZ02
set_option maxRecDepth 100000
set_option maxHeartbeats 16000000
namespace Go.Proofs.YtcdekelomkcahaaGreatDoor
structure PSok (V:Vals) (K:Bs→Option Dc) (s:PS):Prop where
 v:zoO V K 0 false s.out=true
 l:zgA 0 s.out=s.last
 o:offA false s.out=s.off
theorem zgB:∀(a b:List Rc) (x:Int),zgA x (a++b)=zgA (zgA x a) b
 | [],_,_=>rfl
 |_::a,b,_=>zgB a b _
theorem ziy:∀(a b:List Rc) (x:Bool),offA x (a++b)=offA (offA x a) b
 | [],_,_=>rfl
 |_::a,b,_=>ziy a b _
theorem PSok.prob {V:Vals} {K:Bs→Option Dc} {s:PS} (h:PSok V K s) (e:Int) (w:Wd):PSok V K (s.prob e w):=⟨h.v,h.l,h.o⟩
theorem PSok.app {V:Vals} {K:Bs→Option Dc} {s s':PS} (h:PSok V K s) {r:Rc} (hv:zoO V K s.last s.off [r]=true) (ho:s'.out=s.out++ [r]) (hl:s'.last=zgA s.last [r]) (hf:s'.off=offA s.off [r]):PSok V K s':=
 ⟨by rw[ho,zoR,h.v,h.l,h.o,hv];rfl,by rw[ho,zgB,h.l,hl],by rw[ho,ziy,h.o,hf]⟩
theorem PSok.same {V:Vals} {K:Bs→Option Dc} {s s':PS} (h:PSok V K s) (ho:s'.out=s.out) (hl:s'.last=s.last) (hf:s'.off=s.off):PSok V K s':=
 ⟨by rw[ho];exact h.v,by rw[ho,h.l,hl],by rw[ho,h.o,hf]⟩
theorem PSok.time {V:Vals} {K:Bs→Option Dc} {s:PS} (h:PSok V K s) (w:Wd):PSok V K (znJ s w):=by
 unfold znJ;split
 ·exact h.same rfl rfl rfl
 ·rename_i t ht
  split
  ·exact h.same rfl rfl rfl
  ·rename_i hn
   refine h.app (r:=(0,t,[],[])) ?_ rfl rfl rfl;unfold zoO zoO;rw[if_pos rfl];dsimp only;rw[decide_eq_false (show ¬t<s.last by omega),decide_eq_true (show t≤1099511627776 by omega)];rfl
theorem PSok.dump {V:Vals} {K:Bs→Option Dc} {s:PS} (h:PSok V K s) (w:Wd):PSok V K (zdS s w):=by
 unfold zdS PS.put
 have h1:PSok V K (if s.opn=true then s.prob 10 w else s):=by
  split
  ·exact h.prob _ _
  ·exact h
 generalize (if s.opn=true then s.prob 10 w else s)=s1 at h1⊢;dsimp only;split
 ·exact h1.same rfl rfl rfl
 ·exact h1.app (r:=(4,0,[],[])) rfl rfl rfl rfl
theorem PSok.turn {V:Vals} {K:Bs→Option Dc} {s:PS} (h:PSok V K s) (w:Wd) (o:Bool):PSok V K (znZ s w o):=by
 unfold znZ
 have h1:PSok V K (if(s.opn||(s.off==o))=true then s.prob 10 w else s)∧(if(s.opn||(s.off==o))=true then s.prob 10 w else s).off=s.off∧(if(s.opn||(s.off==o))=true then s.prob 10 w else s).skip=s.skip:=by
  split
  ·exact⟨h.prob _ _,rfl,rfl⟩
  ·exact⟨h,rfl,rfl⟩
 generalize (if(s.opn||(s.off==o))=true then s.prob 10 w else s)=s1 at h1⊢;obtain⟨h1,h2,h3⟩:=h1;dsimp only;split
 ·exact h1.same rfl rfl rfl
 ·rename_i hn
  have hn':(s.off==o)=false∧s.skip=false:=by simpa using hn
  unfold PS.put;dsimp only;rw[if_neg (by rw[h3,hn'.2];simp)]
  have hoo:s1.off=!o:=by
   rw[h2];exact(show ∀x y:Bool,(x==y)=false→x=!y by decide) _ _ hn'.1
  refine h1.app (r:=(if o=true then 2 else 3,0,[],[])) ?_ rfl ?_ ?_
  ·rw[hoo];cases o<;>rfl
  ·cases o<;>rfl
  ·rw[hoo];cases o<;>rfl
theorem PSok.fin {V:Vals} {K:Bs→Option Dc} {s:PS} (h:PSok V K s) (w:Wd):PSok V K (endP s w):=by
 unfold endP;split
 ·exact h.same rfl rfl rfl
 ·exact h.same rfl rfl rfl
theorem PSok.change {V:Vals} (hV:ValsOk V) {l:List Dc} {s:PS} (h:PSok V (knL V l) s) (w hw:Wd) (code text:Bs) (kinds:List Int):PSok V (knL V l) (zbE V (knL V l) s w hw code text kinds):=by
 unfold zbE;split
 ·exact h
 ·rename_i hs
  split
  ·exact h.prob _ _
  ·rename_i x hx
   split
   ·exact h.prob _ _
   ·split
    ·exact h.prob _ _
    ·rename_i hp
     split
     ·split
      ·exact h
      ·exact h.prob _ _
     ·rename_i hof
      unfold PS.put;rw[if_neg hs];obtain⟨hc,hcode⟩:=zgv hx;obtain⟨ht,hco⟩:=zbX.1 hc
      have hpv:V.par x.2.1 x.2.2 text=((V.par x.2.1 x.2.2 text).1,0):=by
       have:=Classical.not_not.1 hp;rw[←this]
      have hvv:=hV.par_ok _ _ _ _ hpv;refine h.app (r:=(1,0,code,(V.par x.2.1 x.2.2 text).1)) ?_ rfl rfl rfl;unfold zoO zoO;rw[if_neg (by omega),if_pos rfl];dsimp only;rw[hx];dsimp only
      have hcm:cmdL V x.2.1 x.2.2 (V.par x.2.1 x.2.2 text).1 code≠ []:=by
       unfold cmdL;rw[if_pos (by rw[ht,hvv,←hcode,hco];rfl)];split
       ·intro hh;have:=(List.append_eq_nil_iff.1 hh).2;exact(zb4 (hcode▸hco)).1 this
       ·simp
      rw[decide_eq_false hcm]
      have:(s.off&&decide (x.2.1=0))=false:=by
       rw[Bool.and_eq_false_iff,decide_eq_false_iff_not];by_cases ho:s.off=true
       ·exact .inr fun hk=>hof ⟨ho,hk⟩
       ·exact .inl (by simpa using ho)
      rw[this];rfl
theorem PSok.step {V:Vals} (hV:ValsOk V) {l:List Dc} {s:PS} (h:PSok V (knL V l) s) (w:Wd) (t:List Wd):PSok V (knL V l) (zjB V (knL V l) s w t).1:=by
 unfold zjB;split
 ·exact h.prob _ _
 ·split
  ·exact h.time w
  ·split
   ·split
    ·exact h.dump w
    ·split
     ·exact h.turn w true
     ·split
      ·exact h.turn w false
      ·split
       ·exact h.fin w
       ·unfold zmo;split
        ·exact h.prob _ _
        ·dsimp only;split
         ·exact h
         ·exact h.prob _ _
   ·split
    ·split
     ·dsimp only;split
      ·exact h
      ·exact h.prob _ _
     ·exact h.change hV _ _ _ _ _
    ·split
     ·exact h.prob _ _
     ·split
      ·dsimp only;split
       ·exact h
       ·exact h.prob _ _
      ·exact h.change hV _ _ _ _ _
theorem PSok.run {V:Vals} (hV:ValsOk V) {l:List Dc}:∀(n:Nat) (ws:List Wd) (s:PS),ws.length≤n→PSok V (knL V l) s→PSok V (knL V l) (pRun V (knL V l) s ws)
 |_,[],s,_,h=>by rw[zjA];exact h
 |0,w::t,s,hl,h=>by simp at hl
 |n+1,w::t,s,hl,h=>by
  rw[zjz];have:=zjC V (knL V l) s w t;exact PSok.run hV n _ _ (by simp at hl;omega) (h.step hV w t)
def PS.pre (p:List Pb) (s:PS):PS:={s with wrong:=p++s.wrong}
open Go.RowKit
theorem beqB (s:ByteArray) (l:Bs):(s.toList==l)=decide (s.data.toList=l):=by
 rw[ByteArray.toList_eq];by_cases h:s.data.toList=l
 ·rw[decide_eq_true h,beq_iff_eq];exact h
 ·rw[decide_eq_false h,beq_eq_false_iff_ne];exact h
set_option linter.unusedSimpArgs false in
theorem zos (s:ByteArray) (w:World) (hm:s.size≤140737488351232):Calls Tryz.prog 153 #[.string s] w fun e w'=>e=.returned (.bool (zb1 s.data.toList))∧w'=w:=by
 go_enter Tryz.func153,Tryz.ntmps153;go_wp2_with fail;go_loop [6] (fun i=>∃k:Nat,k≤s.size∧i=.int .i64 k∧(s.data.toList.take k).all prn=true) (fun i=>s.size-(intOf i).toNat)
 case atStart=>exact⟨0,Nat.zero_le _,rfl,rfl⟩
 case round=>
  obtain⟨k,hk,rfl,hall⟩:=hrel;have HA:=lhd hall;clear hall;by_cases hlt:k<s.size
  ·have hlt2:(k:Int)<(s.size:Int):=by omega
   have HT:=lhd (zaG (p:=prn) hlt);have HN:=lhd (fun h=>zaF (p:=prn) hlt h);by_cases hp:33≤(s[k]'hlt).toNat∧(s[k]'hlt).toNat≤126
   ·have hb1:decide (((s[k]'hlt).toNat:Int)<33)=false:=by rw[decide_eq_false_iff_not];omega
    have hb2:decide ((126:Int)<((s[k]'hlt).toNat:Int))=false:=by rw[decide_eq_false_iff_not];omega
    have HA2:=lhd (show(s.data.toList.take (k+1)).all prn=true by
     rw[HT.out,HA.out];unfold prn;rw[decide_eq_true hp.1,decide_eq_true hp.2];rfl)
    clear hp;go_wp2_with fail;go_round
    case rel=>exact⟨k+1,by omega,by go_num,HA2.out⟩
    case measure=>simp[intOf];omega
   ·have HR:=lhd (show zb1 s.data.toList=false by
     unfold zb1
     rw[HN.out (by
      unfold prn;rw[Bool.and_eq_false_iff,decide_eq_false_iff_not,decide_eq_false_iff_not];omega)]
     simp)
    by_cases h1:(s[k]'hlt).toNat<33
    ·have hb1:decide (((s[k]'hlt).toNat:Int)<33)=true:=by rw[decide_eq_true_iff];omega
     go_wp2_with fail;refine bodyPost_ret (v:=.bool false) (by simp[results,Tryz.results153,go_sem]) rfl ?_;rw[HR.out];exact⟨rfl,rfl⟩
    ·have hb1:decide (((s[k]'hlt).toNat:Int)<33)=false:=by rw[decide_eq_false_iff_not];omega
     have hb2:decide ((126:Int)<((s[k]'hlt).toNat:Int))=true:=by rw[decide_eq_true_iff];omega
     go_wp2_with fail;refine bodyPost_ret (v:=.bool false) (by simp[results,Tryz.results153,go_sem]) rfl ?_;rw[HR.out];exact⟨rfl,rfl⟩
  ·obtain rfl:k=s.size:=by omega
   have hlt2:¬(s.size:Int)<(s.size:Int):=by omega
   have HAL:=lhd (show s.data.toList.all prn=true by
    have:=HA.out;rwa [List.take_of_length_le (by simp)]at this)
   have HSZ:=lhd (show s.data.toList.length=s.size by simp);clear hlt;by_cases h0:s.size=0
   ·obtain rfl:s=⟨#[]⟩:=by
     have:s.data=#[]:=Array.eq_empty_of_size_eq_zero h0;cases s;simp_all
    have HR:=lhd (show zb1 (⟨#[]⟩:ByteArray).data.toList=false from rfl);have hb1:(⟨#[]⟩:ByteArray).toList.isEmpty=true:=by rw[ByteArray.toList_eq];rfl
    go_wp2_with fail;refine bodyPost_ret (v:=.bool false) (by simp[results,Tryz.results153,go_sem]) rfl ?_;rw[HR.out];exact⟨rfl,rfl⟩
   ·have hb1:=znM s h0;by_cases h8:s.size≤8
    ·have hb2:decide ((s.size:Int)≤8)=true:=by rw[decide_eq_true_iff];omega
     by_cases he:s.data.toList=[36,101,110,100]
     ·have hb3:(s.toList==[36,101,110,100])=true:=by rw[beqB,decide_eq_true he]
      have HR:=lhd (show zb1 s.data.toList=false by rw[he];decide);clear he;go_wp2_with fail;refine bodyPost_ret (v:=.bool false) (by simp[results,Tryz.results153,go_sem]) rfl ?_;rw[HR.out];exact⟨rfl,rfl⟩
     ·have hb3:(s.toList==[36,101,110,100])=false:=by rw[beqB,decide_eq_false he]
      have HR:=lhd (show zb1 s.data.toList=true by
       unfold zb1;rw[HAL.out,decide_eq_false he,decide_eq_true (show s.data.toList.length≤8 by have:=HSZ.out;omega),decide_eq_false (fun e=>by have h2:=HSZ.out;rw[e]at h2;simp at h2;omega)];rfl)
      clear he;go_wp2_with fail;refine bodyPost_ret (v:=.bool true) (by simp[results,Tryz.results153,go_sem]) rfl ?_;rw[HR.out];exact⟨rfl,rfl⟩
    ·have hb2:decide ((s.size:Int)≤8)=false:=by rw[decide_eq_false_iff_not];omega
     have HR:=lhd (show zb1 s.data.toList=false by
      unfold zb1;rw[decide_eq_false (show ¬s.data.toList.length≤8 by have:=HSZ.out;omega)];simp)
     go_wp2_with fail;refine bodyPost_ret (v:=.bool false) (by simp[results,Tryz.results153,go_sem]) rfl ?_;rw[HR.out];exact⟨rfl,rfl⟩
def seqN:Nat→List Vr→Option Nat
 |n,[]=>some n
 |n,v::l=>if(n:Int)<v.sg then none else if v.sg=(n:Int)then seqN (n+1) l else seqN n l
theorem zmE:∀(l:List Vr) (n m:Nat),(∀v∈l,0≤v.sg)→seqN n l=some m→numF (rgI n) l=(l,rgI m)
 | [],n,m,_,h=>by
   unfold seqN at h;obtain rfl:=Option.some.inj h;rfl
 |v::l,n,m,h0,h=>by
  have hv:=h0 v (by simp);have hl:∀x∈l,0≤x.sg:=fun x hx=>h0 x (by simp[hx]);unfold seqN at h;split at h
  ·cases h
  split at h
  ·rename_i h1 h2
   have e:=zmE l (n+1) m hl h;rw[zig (by rw[List.contains_eq_mem,decide_eq_true_iff,zlj];omega),h2,←zlk,e,zli];exact Prod.ext (by rw[←h2]) rfl
  ·rename_i h1 h2
   have e:=zmE l n m hl h;obtain⟨k,hk⟩:∃k:Nat,v.sg=(k:Int):=⟨v.sg.toNat,by omega⟩;rw[zif (by rw[List.contains_eq_mem,decide_eq_true_iff,zlj];omega),e];refine Prod.ext ?_ rfl;show({v with sg:=((rgI n).idxOf v.sg:Int)}:Vr)::l=v::l;rw[hk,zlh (by omega),←hk]
theorem zir:∀(l:List Vr) (n:Nat) (r:List Int),(∀v∈l,0≤v.sg)→numF (rgI n) l=(l,r)→∃m,seqN n l=some m
 | [],n,r,_,_=>⟨n,rfl⟩
 |v::l,n,r,h0,h=>by
  have hv:=h0 v (by simp);have hl:∀x∈l,0≤x.sg:=fun x hx=>h0 x (by simp[hx]);unfold seqN;by_cases hc:(rgI n).contains v.sg=true
  ·rw[zif hc]at h;injection h with h1 h2;injection h1 with h1 h3;obtain⟨m,hm⟩:=zir l n r hl (Prod.ext h3 h2);rw[List.contains_eq_mem,decide_eq_true_iff,zlj]at hc;exact⟨m,by rw[if_neg (by omega),if_neg (by omega)];exact hm⟩
  ·rw[zig hc]at h;injection h with h1 h2;injection h1 with h1 h3;have e:v.sg=(n:Int):=by have:=congrArg Vr.sg h1;dsimp only at this;rw[zli]at this;exact this.symm
   rw[e,←zlk]at h3 h2;obtain⟨m,hm⟩:=zir l (n+1) r hl (Prod.ext h3 h2);exact⟨m,by rw[if_neg (by omega),if_pos e];exact hm⟩
structure HierR (S:List Sc) (V:List Vr) (m:Nat):Prop where
 c:zbF S V=0
 n:∀i,i+1<S.length→0≤parS S (i+1)→insF (parS S) S.length (parS S (i+1)) (i:Nat)=true
 s:Srt (fun v:Vr=>v.sc) V
 q:seqN 0 V=some m
theorem zlJ {S:List Sc} (hF:Fst (parS S) S.length) (h:preS S=List.range S.length):scF S=S:=by
 unfold scF;rw[h];refine(List.map_congr_left (g:=fun i=>S.getD i ([],0,0)) fun i hi=>?_).trans ((zeu S id).trans (List.map_id _));rw[zjX (by have:=hF i (List.mem_range.1 hi);have:=List.mem_range.1 hi;omega)];rfl
theorem zpj {S:List Sc} {V:List Vr} (hV:∀v∈V,v.sc<(S.length:Int)) (h:preS S=List.range S.length):vr1 S V=V:=by
 unfold vr1;rw[h];refine(List.map_congr_left (g:=id) fun v hv=>?_).trans (List.map_id _);rw[zjX (hV v hv)];rfl
theorem ze5 {S:List Sc} {V:List Vr} {m:Nat}:HierR S V m↔zi8 S V=(S,V,rgI m,0):=by
 constructor
 ·intro h;have hc:=zbN.1 h.c;have hF:=zc0 hc.d;have hV:=zc6 hc.d
  have hN:Nxt (parS S) S.length:=fun i hi h0=>by
   obtain⟨q,hq⟩:∃q:Nat,parS S (i+1)=(q:Int):=⟨(parS S (i+1)).toNat,by omega⟩;have:=h.n i hi h0;rw[hq,zfu hF i S.length (by omega) (by omega)]at this;rw[hq];rcases this with h|h
   ·exact .inl (by omega)
   ·exact .inr h
  have hp:preS S=List.range S.length:=(zkv hF).1 hN;have e1:=zlJ hF hp;have e2:=zpj (fun v hv=>(hV v hv).2.1) hp;have e3:=zmE V 0 m (fun v hv=>(hV v hv).2.2) h.q;unfold zi8 vrF vr2;rw[if_neg (by rw[h.c];simp),e1,e2,zfN h.s];rw[show rgI 0=[]from rfl]at e3;rw[e3]
 ·intro h;unfold zi8 at h;by_cases h0:zbF S V≠0
  ·rw[if_pos h0]at h;injection h with _ h;injection h with _ h;injection h with _ h;exact absurd h h0
  ·rw[if_neg h0]at h;injection h with h1 h;injection h with h2 h;injection h with h3 _;have h0:zbF S V=0:=by omega
   have hc:=zbN.1 h0;have hF:=zc0 hc.d;have hV:=zc6 hc.d;have hp:preS S=List.range S.length:=by have:=zkc hF;rwa [h1]at this
   have e2:=zpj (fun v hv=>(hV v hv).2.1) hp;have hs:Srt (fun v:Vr=>v.sc) V:=by have:=zpp (S:=S) (V:=V);rwa [h2]at this
   have h4:vrF S V=(V,rgI m):=Prod.ext h2 h3;have h5:=h4;unfold vrF vr2 at h5;rw[e2,zfN hs]at h5;obtain⟨m',hm⟩:=zir V 0 (rgI m) (fun v hv=>(hV v hv).2.2) h5;have h6:=zmE V 0 m' (fun v hv=>(hV v hv).2.2) hm;rw[show rgI 0=[]from rfl,h5]at h6;have h7:=congrArg (fun x=>x.2.length) h6;dsimp only at h7;rw[zli,zli]at h7;subst h7;refine⟨h0,fun i hi hq0=>?_,hs,hm⟩;obtain⟨q,hq⟩:∃q:Nat,parS S (i+1)=(q:Int):=⟨(parS S (i+1)).toNat,by omega⟩;have:=(zkv hF).2 hp i hi hq0;rw[hq]at this⊢;rw[zfu hF i S.length (by omega) (by omega)];rcases this with h|h
   ·exact .inl (by omega)
   ·exact .inr h
set_option linter.unusedSimpArgs false
theorem zlf {k:IntKind} {a b:Int} (h:a=b):Ending.returned (.int k a)=.returned (.int k b):=by rw[h]
theorem zhX (n:Int) (w:World):Calls Tryz.prog 120 #[.int .i64 n] w fun e w'=>e=.returned (.bool (zba n))∧w=w':=by
 have HR:=lhd (show(decide (-32768≤n)&&decide (n≤32768))=zba n from rfl);by_cases h1: -32768≤n
 ·have b1:decide (-32768≤n)=true:=by simpa using h1
  by_cases h2:n≤32768
  ·have b2:decide (n≤32768)=true:=by simpa using h2
   rw[b1,b2]at HR;go_enter Tryz.func120,Tryz.ntmps120;go_wp2_with fail;go_ret;exact⟨zle HR.out,rfl⟩
  ·have b2:decide (n≤32768)=false:=by simpa using h2
   rw[b1,b2]at HR;go_enter Tryz.func120,Tryz.ntmps120;go_wp2_with fail;go_ret;exact⟨zle HR.out,rfl⟩
 ·have b1:decide (-32768≤n)=false:=by simpa using h1
  rw[b1]at HR;go_enter Tryz.func120,Tryz.ntmps120;go_wp2_with fail;go_ret;exact⟨zle HR.out,rfl⟩
theorem zhV (m l:Int) (w:World):Calls Tryz.prog 68 #[.int .i64 m,.int .i64 l] w fun e w'=>e=.returned (.int .i64 (zpX m l))∧w=w':=by
 have H1:=lhd (zhX m w);have H2:=lhd (zhX l w);cases h1:zba m
 ·rw[h1]at H1;have HR:=lhd (show(0:Int)=zpX m l by unfold zpX;rw[h1];rfl);clear h1;go_enter Tryz.func68,Tryz.ntmps68;go_wp2_with fail;refine H1.out.mono ?_;rintro e w1 ⟨rfl,rfl⟩;go_wp2_with fail;go_ret;exact⟨zlf HR.out,rfl⟩
 ·rw[h1]at H1;cases h2:zba l
  ·rw[h2]at H2;have HR:=lhd (show(0:Int)=zpX m l by unfold zpX;rw[h2,Bool.and_false];rfl);clear h1 h2;go_enter Tryz.func68,Tryz.ntmps68;go_wp2_with fail;refine H1.out.mono ?_;rintro e w1 ⟨rfl,rfl⟩;go_wp2_with fail;refine H2.out.mono ?_;rintro e w1 ⟨rfl,rfl⟩;go_wp2_with fail;go_ret;exact⟨zlf HR.out,rfl⟩
  ·rw[h2]at H2;have HR:=lhd (show max m l-min m l+1=zpX m l by unfold zpX;rw[h1,h2];rfl)
   have hb: -32768≤m∧m≤32768∧ -32768≤l∧l≤32768:=by
    unfold zba at h1 h2;simp only[Bool.and_eq_true,decide_eq_true_iff]at h1 h2;omega
   obtain⟨q1,q2,q3,q4⟩:=hb;clear h1 h2;rcases Int.lt_trichotomy m l with hml|rfl|hml
   all_goals
    go_enter Tryz.func68,Tryz.ntmps68;go_wp2_with fail;refine H1.out.mono ?_;rintro e w1 ⟨rfl,rfl⟩;go_wp2_with fail;refine H2.out.mono ?_;rintro e w1 ⟨rfl,rfl⟩;go_wp2_with fail;go_ret;exact⟨zlf (by have:=HR.out;omega),rfl⟩
theorem znT (n:Int) (w:World):Calls Tryz.prog 63 #[.int .i64 n] w fun e w'=>e=.returned (.bool (decide (-15≤n)&&decide (n≤2)))∧w=w':=by
 by_cases h1: -15≤n
 ·have b1:decide (-15≤n)=true:=by simpa using h1
  by_cases h2:n≤2
  ·have b2:decide (n≤2)=true:=by simpa using h2
   go_enter Tryz.func63,Tryz.ntmps63;go_wp2_with fail;go_ret;exact⟨by simp[b1,b2],rfl⟩
  ·have b2:decide (n≤2)=false:=by simpa using h2
   go_enter Tryz.func63,Tryz.ntmps63;go_wp2_with fail;go_ret;exact⟨by simp[b1,b2],rfl⟩
 ·have b1:decide (-15≤n)=false:=by simpa using h1
  go_enter Tryz.func63,Tryz.ntmps63;go_wp2_with fail;go_ret;exact⟨by simp[b1],rfl⟩
theorem zh1 (s:ByteArray) (w:World) (hm:s.size≤140737488351232):Calls Tryz.prog 146 #[.string s] w fun e w'=>e=.returned (.bool (s.data.toList.all prn))∧w=w':=by
 obtain⟨R,hR⟩:∃R,R=s.data.toList.all prn:=⟨_,rfl⟩;rw[←hR];have HRR:=lhd hR;clear hR;go_enter Tryz.func146,Tryz.ntmps146;go_wp2_with fail;go_loop [6] (fun i=>∃k:Nat,k≤s.size∧i=.int .i64 k∧(s.data.toList.take k).all prn=true) (fun i=>s.size-(intOf i).toNat)
 case atStart=>exact⟨0,Nat.zero_le _,rfl,rfl⟩
 case round=>
  obtain⟨k,hk,rfl,hall⟩:=hrel;have HA:=lhd hall;clear hall;by_cases hlt:k<s.size
  ·have hlt2:(k:Int)<(s.size:Int):=by omega
   have HT:=lhd (zaG (p:=prn) hlt);have HN:=lhd (fun h=>zaF (p:=prn) hlt h);by_cases hp:33≤(s[k]'hlt).toNat∧(s[k]'hlt).toNat≤126
   ·have hb1:decide (((s[k]'hlt).toNat:Int)<33)=false:=by rw[decide_eq_false_iff_not];omega
    have hb2:decide ((126:Int)<((s[k]'hlt).toNat:Int))=false:=by rw[decide_eq_false_iff_not];omega
    have HA2:=lhd (show(s.data.toList.take (k+1)).all prn=true by
     rw[HT.out,HA.out];unfold prn;rw[decide_eq_true hp.1,decide_eq_true hp.2];rfl)
    clear hp;go_wp2_with fail;go_round
    case rel=>exact⟨k+1,by omega,by go_num,HA2.out⟩
    case measure=>simp[intOf];omega
   ·have HR:=lhd (show s.data.toList.all prn=false from HN.out (by
     unfold prn;rw[Bool.and_eq_false_iff,decide_eq_false_iff_not,decide_eq_false_iff_not];omega))
    by_cases h1:(s[k]'hlt).toNat<33
    ·have hb1:decide (((s[k]'hlt).toNat:Int)<33)=true:=by rw[decide_eq_true_iff];omega
     go_wp2_with fail;go_ret;exact⟨zle (HRR.out.trans HR.out).symm,rfl⟩
    ·have hb1:decide (((s[k]'hlt).toNat:Int)<33)=false:=by rw[decide_eq_false_iff_not];omega
     have hb2:decide ((126:Int)<((s[k]'hlt).toNat:Int))=true:=by rw[decide_eq_true_iff];omega
     go_wp2_with fail;go_ret;exact⟨zle (HRR.out.trans HR.out).symm,rfl⟩
  ·obtain rfl:k=s.size:=by omega
   have HR:=lhd (show s.data.toList.all prn=true by
    have:=HA.out;rwa [List.take_of_length_le (by simp)]at this)
   go_wp2_with fail;go_ret;exact⟨zle (HRR.out.trans HR.out).symm,rfl⟩
open Go.RowKit Go.Shelf
attribute [local go_sem] Oper.semAt_some
def upI (S:List Sc) (i:Int):Nat→Int
 |0=>i
 |k+1=>parS S (upI S i k).toNat
theorem zoh (S:List Sc) (i:Int):∀k,upI S i (k+1)=upI S (parS S i.toNat) k
 |0=>rfl
 |k+1=>by rw[upI,zoh S i k];rfl
theorem zom {S:List Sc} (hF:Fst (parS S) S.length):∀(f:Nat) (i:Int),i<(f:Int)→ -1≤i→i<(S.length:Int)→
 (∀k,k<(upL S f i).length→0≤upI S i k∧upI S i k<(S.length:Int)∧(upL S f i)[k]? =some (upI S i k).toNat)∧upI S i (upL S f i).length= -1
 |0,i,h1,h2,h3=>⟨fun k hk=>by simp[upL]at hk,by show i= -1;omega⟩
 |f+1,i,h1,h2,h3=>by
  by_cases h0:i<0
  ·have e:upL S (f+1) i=[]:=by rw[upL,if_pos h0]
   rw[e];exact⟨fun k hk=>by simp at hk,by show i= -1;omega⟩
  ·have hn:i.toNat<S.length:=by omega
   have hp:parS S i.toNat=S[i.toNat].2.2:=by simp[parS,List.getD,hn]
   have e:upL S (f+1) i=i.toNat::upL S f (parS S i.toNat):=by
    rw[upL,if_neg h0,List.getElem?_eq_getElem hn,hp]
   have hq:=hF i.toNat hn;obtain⟨h4,h5⟩:=zom hF f (parS S i.toNat) (by omega) hq.1 (by omega);rw[e];refine⟨fun k hk=>?_,by rw[List.length_cons,zoh];exact h5⟩;cases k with
   |zero=>exact⟨by show 0≤i;omega,h3,rfl⟩
   |succ k=>
    rw[zoh,List.getElem?_cons_succ];exact h4 k (by simpa using hk)
theorem zbC {w:World} {b o:Nat} {u:Value} (h:w.cell? ⟨b,o,none⟩=some u):∃C T fr,w.heap[b]? =some (.cells C T fr)∧C[o]? =some u:=by
 unfold World.cell? at h;cases hb:w.heap[b]? with
 |none=>simp[hb]at h
 |some x=>
  simp only[hb]at h;cases x with
  |cells C T fr=>exact⟨C,T,fr,rfl,by simpa using h⟩
  |_=>simp at h
theorem zbB {w:World} {b o:Nat} {u:Value} {C:Array Value} {T:TypeId} {fr:Nat×Nat} (h:w.heap[b]? =some (.cells C T fr)) (hu:C[o]? =some u):w.cell? ⟨b,o,none⟩=some u:=by simp[World.cell?,h,hu]
theorem Same0.cell {w W:World} (h:Same0 w W) {b o:Nat} {u:Value} (hc:w.cell? ⟨b,o,none⟩=some u):W.cell? ⟨b,o,none⟩=some u:=by
 obtain⟨C,T,fr,h1,h2⟩:=zbC hc;exact zbB (h.cells _ _ _ _ h1) h2
theorem SlR.same0 {w W:World} {v:Value} {n:Nat} {xs:List Value} (h:SlR w v n xs) (hs:Same0 w W):SlR W v n xs:=by
 obtain⟨a,cap,hv,h1,h2,h3,h4⟩:=h;refine⟨a,cap,hv,h1,h2,h3,fun hn=>?_⟩;obtain⟨b,o,ha,hc⟩:=h4 hn;exact⟨b,o,ha,fun j u hj=>hs.cell (hc j u hj)⟩
theorem Same0.refl (w:World):Same0 w w:=⟨Nat.le_refl _,fun _ _ _ _ h=>h⟩
theorem Same0.trans {a b c:World} (h:Same0 a b) (k:Same0 b c):Same0 a c:=⟨Nat.le_trans h.size k.size,fun _ _ _ _ hi=>k.cells _ _ _ _ (h.cells _ _ _ _ hi)⟩
theorem Same0.of_below {a b:World} (h:Below a.heap.size a b):Same0 a b:=⟨h.size,fun i _ _ _ hi=>by rw[h.block i (Array.getElem?_eq_some_iff.1 hi).1];exact hi⟩
theorem Same0.turn {w0 W V:World} {B:Nat} {T:TypeId} (h:Same0 w0 W) (hB:w0.heap.size≤B) (ht:TurnI B T W V):Same0 w0 V:=
 ⟨Nat.le_trans h.size ht.size,fun b C T' fr hb=>by rw[ht.low b (by have:=(Array.getElem?_eq_some_iff.1 hb).1;omega)];exact h.cells _ _ _ _ hb⟩
def KpU (N:Nat) (T1 T2:TypeId) (W V:World):Prop:=∀(b:Nat) (C:Array Value) (T:TypeId) (fr:Nat×Nat),(b<N∨(T≠T1∧T≠T2))→W.heap[b]? =some (.cells C T fr)→V.heap[b]? =some (.cells C T fr)
theorem KpU.trans {N:Nat} {T1 T2:TypeId} {A B C:World} (h:KpU N T1 T2 A B) (k:KpU N T1 T2 B C):KpU N T1 T2 A C:=fun b D T fr hT hb=>k b D T fr hT (h b D T fr hT hb)
theorem KpU.same0 {N:Nat} {T1 T2:TypeId} {W V:World} (h:Same0 W V):KpU N T1 T2 W V:=fun b C T fr _ hb=>h.cells b C T fr hb
theorem KpU.below {N:Nat} {T1 T2:TypeId} {W V:World} (h:Below W.heap.size W V):KpU N T1 T2 W V:=KpU.same0 (Same0.of_below h)
theorem KpU.old {w0 W V:World} {T1 T2:TypeId} (h:Same0 w0 W) (k:KpU w0.heap.size T1 T2 W V) (hz:W.heap.size≤V.heap.size):Same0 w0 V:=
 ⟨Nat.le_trans h.size hz,fun b C T fr hb=>k b C T fr (.inl (Array.getElem?_eq_some_iff.1 hb).1) (h.cells _ _ _ _ hb)⟩
attribute [local go_sem] Oper.semAt_some
theorem zeI {W:World} {b:Nat} {x x':Value} {T:TypeId} (h:W.heap[b]? =some (.cells #[x] T (0,0))):(W.setCell ⟨b,0,none⟩ x').heap[b]? =some (.cells #[x'] T (0,0)):=by
 simp[World.setCell,Array.getElem?_modify,h]
theorem zeG {W:World} {b b':Nat} {x':Value} {o:Obj} (hne:b≠b') (h:W.heap[b]? =some o):(W.setCell ⟨b',0,none⟩ x').heap[b]? =some o:=by
 rw[Below.heap_setCell _ _ _ _ hne];exact h
theorem ziF {W:World} {b:Nat} {x:Value} {T:TypeId} (h:W.heap[b]? =some (.cells #[x] T (0,0))):W.cell? ⟨b,0,none⟩=some x∧W.frozen? ⟨b,0,none⟩=false:=⟨by simp[World.cell?,h],by simp[World.frozen?,h]⟩
def upE (L:List Nat) (k:Nat):Array Value:=#[.int .i64 ((L.getD k 0:Nat):Int)]
def zhg (bi:Nat) (w:World):Nat:=match w.cell? ⟨bi,0,none⟩with
 |some v=>(intOf v+1).toNat
 |none=>0
theorem zog (n:Nat) (hn:2≤n) (lp bi bs B N:Nat) (T1 T2:TypeId) (hT1:T1≠3∧T1≠22) (hT2:T2≠3∧T2≠22) (S:List Sc) (i0:Int) (v:Value) (w0 W:World) (J:Nat→World→Prop)
 (hF:Fst (parS S) S.length) (hi0: -1≤i0) (hi1:i0<(S.length:Int)) (hNw:N=w0.heap.size) (hB:N≤B) (hBi:B≤bi) (hbs:bs≠bi) (hs:SlR w0 v S.length (scs S)) (h0w:Same0 w0 W)
 (hJ:∀k X Y,J k X→TurnJ B 3 X Y→J k Y)
 (hY:∀k W1,J k W1→k<(upL S (i0.toNat+1) i0).length→YieldAt Fence.wide (n-1) Tryz.prog lp (upE (upL S (i0.toNat+1) i0) k) W1 fun e W'=>e=.returned (.bool true)∧J (k+1) W'∧(KpU N T1 T2 W1 W'∧W1.heap.size≤W'.heap.size))
 (hci:W.heap[bi]? =some (.cells #[.int .i64 i0] 3 (0,0))) (hcs:W.heap[bs]? =some (.cells #[v] 22 (0,0))) (h0:J 0 W):
 CallsIn Fence.wide n Tryz.prog 177 #[.func (.yield lp) #[] #[],.pointer (some ⟨bi,0,none⟩),.pointer (some ⟨bs,0,none⟩)] W fun e W'=>(∃v,e=.returned v)∧J (upL S (i0.toNat+1) i0).length W':=by
 have hro:Fence.wide.round=none:=rfl;obtain⟨hsp,hend⟩:=zom hF (i0.toNat+1) i0 (by omega) hi0 hi1;have HSP:=lhd hsp;have HEND:=lhd hend;clear hsp hend;generalize upL S (i0.toNat+1) i0=L at*;obtain⟨a,cap,rfl,hcp,hm⟩:=hs.shape;unfold maxLen at hm;have HS:=lhd hs;have HJ:=lhd hJ;have HY:=lhd hY;have HF:=lhd hF;have HCI:=lhd hci;have HCS:=lhd hcs;have H0W:=lhd h0w;have HT:=lhd (And.intro hT1 hT2);have HN:=lhd hNw;have HI:=lhd (And.intro hi0 hi1);clear hs hJ hY hF hci hcs h0w hT1 hT2 hNw hi0 hi1;refine callsIn_of_wp Tryz.func177 rfl trivial ?_ hro;simp only[Tryz.ntmps177,List.size_toArray,List.length_cons,List.length_nil,Nat.reduceAdd,Nat.reduceSub,Array.replicate_succ,Array.replicate_zero,List.push_toArray,List.append_toArray,List.nil_append,List.cons_append];gi_wp2
 gi_loopw [4] (fun _ wr=>∃k:Nat,k≤L.length∧J k wr∧Same0 w0 wr∧wr.heap[bi]? =some (.cells #[.int .i64 (upI S i0 k)] 3 (0,0))∧wr.heap[bs]? =some (.cells #[.slice a S.length cap] 22 (0,0)))
  (fun _ wr=>zhg bi wr)
 case atStart=>exact⟨0,Nat.zero_le _,h0,H0W.out,HCI.out,HCS.out⟩
 case round=>
  obtain⟨k,hk,hjk,hsa,hbi,hbs2⟩:=hrel;obtain⟨ci,fi⟩:=ziF hbi;obtain⟨cs,fs⟩:=ziF hbs2;have HBI:=lhd hbi;have HBS:=lhd hbs2;have HSA:=lhd hsa;have HJK:=lhd hjk;have hme:zhg bi wr=(upI S i0 k+1).toNat:=by unfold zhg;rw[ci];rfl
  have HME:=lhd hme;clear hbi hbs2 hsa hme;by_cases hlt:k<L.length
  ·obtain⟨q0,q1,q2⟩:=HSP.out k hlt;obtain⟨fn,tmps,assign,body,hy,hR⟩:=HY.out k wr hjk hlt;have HR:=lhd hR;have HLD:=lhd (show(L.getD k 0:Nat)=(upI S i0 k).toNat by rw[List.getD,q2];rfl);have HNX:=lhd (show upI S i0 (k+1)=parS S (upI S i0 k).toNat from rfl);obtain⟨m,hm2⟩:=Int.eq_ofNat_of_zero_le q0;rw[hm2]at q1 HNX ci HBI HME HLD;rw[Int.toNat_natCast]at HNX HLD;have hmS:m<S.length:=by omega
   unfold upE at hy;rw[HLD.out]at hy;clear q0 q2 hR hjk hm2 q1;have h1n:1≤n:=by omega
   gi_wp2
   refine HR.out.mono ?_;rintro e W3 ⟨rfl,hj3,hk3,hz3⟩;have HJ3:=lhd hj3;have HSA3:=lhd (show Same0 w0 W3 from KpU.old HSA.out (HN.out▸hk3) hz3);have HBI3:=lhd (hk3 bi _ 3 _ (.inr ⟨fun e=>HT.out.1.1 e.symm,fun e=>HT.out.2.1 e.symm⟩) HBI.out);have HBS3:=lhd (hk3 bs _ 22 _ (.inr ⟨fun e=>HT.out.1.2 e.symm,fun e=>HT.out.2.2 e.symm⟩) HBS.out);clear hj3 hk3 hz3 ci fi cs fs hy;obtain⟨ci,fi⟩:=ziF HBI3.out;obtain⟨cs,fs⟩:=ziF HBS3.out;obtain⟨b,o,rfl,hcell⟩:=(HS.out.same0 HSA3.out).scs hmS;have hps:parS S m=S[m].2.2:=by simp[parS,List.getD,hmS]
   have HQ:=lhd (HF.out m hmS);rw[hps]at HNX HQ;generalize S[m]=x at hcell HNX HQ;obtain⟨nm,ty,pa⟩:=x;dsimp only at HNX HQ;have d2:W3.cell? ⟨b,o+m*3+2,none⟩=some (.int .i64 pa):=hcell 2 _ rfl;clear hcell hps;gi_wp2
   go_roundw;case rel=>exact⟨k+1,hlt,HJ.out _ _ _ HJ3.out (TurnJ.setCell HBI3.out hBi 0 _),HSA3.out.turn (HN.out▸hB) (TurnJ.setCell (T:=3) HBI3.out hBi 0 _).i,by rw[HNX.out];exact zeI HBI3.out,zeG hbs HBS3.out⟩
   case measure=>
    rw[HME.out];have e:((W3.setCell ⟨bi,0,none⟩ (.int .i64 pa)).cell? ⟨bi,0,none⟩)=some (.int .i64 pa):=(ziF (zeI (x':=.int .i64 pa) HBI3.out)).1;unfold zhg;rw[e];have:=HQ.out;simp[intOf];omega
  ·obtain rfl:k=L.length:=by omega
   have hend:=HEND.out;rw[hend]at ci;clear hend;gi_wp2
   go_end0
   exact⟨⟨_,rfl⟩,HJK.out⟩
attribute [local go_sem] Oper.semAt_some
def strV (s:Bs):Value:=.string (bsB s)
def strs (l:List Bs):List Value:=l.map strV
theorem zno:(Tryz.prog.info? 9).map (fun i=>(i.zero,i.size,i.bytes))=some (some (.string ⟨#[]⟩),1,16):=by kernel_rfl
theorem zjv {W V:World} {B B' e size n:Nat} {v:Value} {xs:List Value} {T:TypeId} (h:W.ownsRow B e size v n xs) (ht:TurnI B' T W V) (hne:e≠T):V.ownsRow B e size v n xs:=by
 obtain⟨h1,h2⟩:=h;refine⟨h1,?_⟩;rcases h2 with h2|⟨g,cap,cur,e0,hb,hg,hr⟩
 ·exact .inl h2
 ·exact .inr ⟨g,cap,cur,e0,hb,ht.cells _ _ _ _ hne hg,hr⟩
theorem zjp {W V:World} {B e size n:Nat} {v:Value} {xs:List Value} (h:W.ownsRow B e size v n xs) (ht:Same0 W V):V.ownsRow B e size v n xs:=by
 obtain⟨h1,h2⟩:=h;refine⟨h1,?_⟩;rcases h2 with h2|⟨g,cap,cur,e0,hb,hg,hr⟩
 ·exact .inl h2
 ·exact .inr ⟨g,cap,cur,e0,hb,ht.cells _ _ _ _ hg,hr⟩
theorem za4 {B:Nat} {w W V:World} {T:TypeId} (h:Below B w W) (ht:TurnI B T W V):Below B w V:=
 ⟨ht.os.trans h.os,ht.tape.trans h.tape,ht.output.trans h.output,Nat.le_trans h.size ht.size,fun b hb=>(ht.low b hb).trans (h.block b hb)⟩
structure PtI (w:World) (v:Value) (nms:List Bs) (vo:Value) (W:World):Prop where
 bs:W.heap[w.heap.size]? =some (.cells #[v] 22 (0,0))
 bo:W.heap[w.heap.size+1]? =some (.cells #[vo] 65 (0,0))
 o:W.ownsRow w.heap.size 9 1 vo nms.length (strs nms)
 b:Below w.heap.size w W
theorem PtI.turn {w W V:World} {v vo:Value} {nms:List Bs} (h:PtI w v nms vo W) (ht:TurnI w.heap.size 3 W V):PtI w v nms vo V:=
 ⟨ht.cells _ _ _ _ (by decide) h.bs,ht.cells _ _ _ _ (by decide) h.bo,zjv h.o ht (by decide),za4 h.b ht⟩
theorem PtI.same {w W V:World} {v vo:Value} {nms:List Bs} (h:PtI w v nms vo W) (hb:Below W.heap.size W V):PtI w v nms vo V:=
 ⟨(Same0.of_below hb).cells _ _ _ _ h.bs,(Same0.of_below hb).cells _ _ _ _ h.bo,zjp h.o (Same0.of_below hb),h.b.trans (hb.mono h.b.size)⟩
def nmS (S:List Sc) (j:Nat):Bs:=(S.getD j ([],0,0)).1
theorem PtI.add {w W W':World} {v vo v':Value} {nms:List Bs} {nm:Bs} (h:PtI w v nms vo W) (ho:W'.ownsRow w.heap.size 9 1 v' (nms.length+1) (strs nms++ [strV nm])) (hg:W.grownBy W' vo.ownBlock):
 PtI w v (nms++ [nm]) v' (W'.setCell ⟨w.heap.size+1,0,none⟩ v')∧W'.cell? ⟨w.heap.size,0,none⟩=some v∧W'.frozen? ⟨w.heap.size+1,0,none⟩=false∧W'.cell? ⟨w.heap.size+1,0,none⟩=some vo∧
  KpU w.heap.size 9 65 W (W'.setCell ⟨w.heap.size+1,0,none⟩ v')∧W.heap.size≤(W'.setCell ⟨w.heap.size+1,0,none⟩ v').heap.size∧KeepsOthers W (W'.setCell ⟨w.heap.size+1,0,none⟩ v'):=by
 have hne:∀(i:Nat) (D:Array Value) (T:TypeId) (fr:Nat×Nat),W.heap[i]? =some (.cells D T fr)→T≠9→W'.heap[i]? =some (.cells D T fr):=by
  intro i D T fr hi hT
  rw[hg.block i (Array.getElem?_eq_some_iff.1 hi).1 (fun q=>by
   rcases h.o.2 with⟨rfl,-⟩|⟨g',cap',cur,rfl,-,hgb,-⟩
   ·cases q
   ·injection q with q;subst q;rw[hgb]at hi;injection hi with hi;injection hi with _ h5 _;exact hT h5.symm)]
  exact hi
 have h1:=hne _ _ _ _ h.bs (by decide);have h2:=hne _ _ _ _ h.bo (by decide);obtain⟨c1,f1⟩:=ziF h1;obtain⟨c2,f2⟩:=ziF h2;have hb:Below w.heap.size w W':=h.b.grown hg (h.b.size) (fun k hk=>(h.o.lt _ hk).1);refine⟨⟨zeG (by omega) h1,zeI h2,?_,hb.setCell (p:=⟨w.heap.size+1,0,none⟩) (by show w.heap.size≤w.heap.size+1;omega) _⟩,c1,f2,c2,?_,?_,?_⟩
 ·rw[List.length_append,List.length_singleton];have e:strs (nms++ [nm])=strs nms++ [strV nm]:=by simp[strs]
  rw[e];refine ownsRow_setCell_other (a:=⟨w.heap.size+1,0,none⟩) ho (fun q=>?_) _;rcases ho.2 with⟨rfl,-⟩|⟨g',cap',cur,rfl,-,hgb,-⟩
  ·cases q
  ·injection q with q;subst q;rw[hgb]at h2;injection h2 with h2;injection h2 with _ h5 _;exact absurd h5 (by decide)
 ·intro b C T fr hT hb';rcases hT with hT|⟨hT1,hT2⟩
  ·have e1:W'.heap[b]? =W.heap[b]? :=hg.block b (Array.getElem?_eq_some_iff.1 hb').1 (fun q=>by have:=(h.o.lt _ q.symm).1;omega);exact zeG (by omega) (e1.trans hb')
  ·have h3:=hne _ _ _ _ hb' hT1;refine zeG ?_ h3;rintro rfl;rw[h2]at h3;injection h3 with h3;injection h3 with _ h5 _;exact hT2 h5.symm
 ·have:=hg.size;simpa using this
 ·refine(KeepsOthers.of_grownBy hg fun j o ej hj=>?_).trans (KeepsOthers.setCell _ _ _);rcases h.o.2 with⟨rfl,_⟩|⟨g,cap,cur,rfl,_,hgb,_⟩
  ·simp[Value.ownBlock]at ej
  ·obtain rfl:g=j:=by simpa[Value.ownBlock] using ej
   rw[hgb]at hj;cases hj;rfl
def zas (w:World) (v:Value) (S:List Sc) (L:List Nat) (k:Nat) (W:World):Prop:=∃vo,PtI w v ((L.take k).map (nmS S)) vo W
open Go.RowKit Go.WideMaps
theorem zqB (w:World):(zeroValue 4).run Tryz.prog w=.ok (.bool false) w:=by kernel_rfl
theorem zeZ (s:Sc) (w:World):Calls Tryz.prog 108 #[scV s] w fun e w'=>e=.returned (zbI (zlM s))∧Below w.heap.size w w':=by
 obtain⟨nm,ty,pa⟩:=s;go_enter Tryz.func108,Tryz.ntmps108;go_wp2_with fail;refine bodyPost_ret (v:=zbI (pa,nm)) (by simp[results,Tryz.results108,go_sem,zbI]) rfl ⟨rfl,((Below.refl _ _).alloc (Nat.le_refl _) _).alloc (by simp) _⟩
theorem ze4 (x:Vr) (w:World):Calls Tryz.prog 110 #[vrV x] w fun e w'=>e=.returned (zdU (zpk x))∧Below w.heap.size w w':=by
 obtain⟨nm,ty,sc,sg,rg,mb,lb⟩:=x;go_enter Tryz.func110,Tryz.ntmps110;go_wp2_with fail;refine bodyPost_ret (v:=zdU (sc,nm,rg,mb,lb)) (by simp[results,Tryz.results110,go_sem,zdU]) rfl ⟨rfl,((Below.refl _ _).alloc (Nat.le_refl _) _).alloc (by simp) _⟩
open Classical in
noncomputable def zms {κ:Type} (L:List κ) (x:κ):Option Value:=if x∈L then some (.bool true)else none
open Classical in
noncomputable def inB {κ:Type} (L:List κ) (x:κ):Bool:=decide (x∈L)
theorem zmu {κ:Type} [DecidableEq κ] (L:List κ) (x y:κ):(if y=x then some (.bool true)else zms L y)=zms (L++ [x]) y:=by
 unfold zms;by_cases h:y=x
 ·subst h;simp
 ·rw[if_neg h];simp[h]
open Classical in
theorem zfa {κ:Type} {L:List κ} {x:κ}:inB L x=true↔x∈L:=by
 unfold inB;exact⟨of_decide_eq_true,decide_eq_true⟩
theorem zmt {κ:Type} (L:List κ) (x:κ):(zms L x).getD (.bool false)=.bool (inB L x):=by
 unfold zms inB;split<;>simp[*]
theorem zh7 {κ:Type} {L:List κ} {x:κ}:(L++ [x]).Nodup↔L.Nodup∧x∉L:=by
 rw[List.nodup_append];constructor
 ·rintro⟨h1,-,h3⟩;exact⟨h1,fun h=>h3 x h x (by simp) rfl⟩
 ·rintro⟨h1,h2⟩;exact⟨h1,by simp,fun a ha b hb e=>by rw[List.mem_singleton]at hb;subst hb e;exact h2 ha⟩
theorem ze1 (v:Value) (L:List Sc) (w:World) (hs:SlR w v L.length (scs L)) (hl:L.length≤1000) (hd:∀x∈L,(Lit.int .i64 x.2.2).wf=true∧x.1.length≤maxLen):
 Calls Tryz.prog 107 #[v,(.func (.func 108) #[] #[])] w fun e w'=>e=.returned (.bool (uniq zlM L))∧Below w.heap.size w w':=by
 obtain⟨a,cap,rfl,-,-⟩:=hs.shape;have HS:=lhd hs;have HD:=lhd (show ∀x∈L,(zbH).dom (zlM x)from hd);have HM0:=lhd (KMap.made zbH w);have HB0:=lhd (show Below w.heap.size w (w.alloc (.map #[] 0))from(Below.refl _ _).alloc (Nat.le_refl _) _);obtain⟨R,hR⟩:∃R,R=uniq zlM L:=⟨_,rfl⟩;rw[←hR];have HR:=lhd hR;clear hs hd hR;have hmm:= @run_makeMap Tryz.prog;go_enter Tryz.func107,Tryz.ntmps107;go_wp2_with fail;clear hmm;go_loopw [11] (fun i wr=>∃k:Nat,k≤L.length∧i=.int .i64 k∧((L.take k).map zlM).Nodup∧KMap zbH wr w.heap.size k (zms ((L.take k).map zlM))∧Below w.heap.size w wr) (fun i _=>L.length-(intOf i).toNat)
 case atStart=>exact⟨0,Nat.zero_le _,rfl,by simp,HM0.out,HB0.out⟩
 case round=>
  obtain⟨k,hk,rfl,hnd,hm,hb⟩:=hrel;have HND:=lhd hnd;have HM:=lhd hm;have HB:=lhd hb;clear hnd hm hb;by_cases hlt:k<L.length
  ·obtain⟨b,o,rfl,hcell⟩:=(HS.out.below HB.out).scs hlt;have HTK:=lhd (show(L.take (k+1)).map zlM=(L.take k).map zlM++ [zlM L[k]]by rw[List.take_succ_eq_append_getElem hlt,List.map_append];rfl);have HDK:=lhd (HD.out L[k] (List.getElem_mem hlt))
   have HNO:=lhd (fun(hin:zlM L[k]∈(L.take k).map zlM)=>(show R=false by
    rw[HR.out,←Bool.not_eq_true,zoc];intro hall;rw[←List.take_append_drop (k+1) L,List.map_append,HTK.out,List.nodup_append]at hall;exact(zh7.1 hall.1).2 hin))
   have HKY:=lhd (fun W=>zeZ L[k] W);generalize hxk:L[k]=x at*;clear hxk;generalize hseen:(L.take k).map zlM=seen at*;clear hseen;obtain⟨kx,hkx⟩:∃kx,zlM x=kx:=⟨_,rfl⟩;have HKV:=lhd (show ∀W,Calls Tryz.prog 108 #[scV x] W fun e w'=>e=.returned (zbI kx)∧Below W.heap.size W w' by rw[←hkx];exact HKY.out);rw[hkx]at HTK HDK HNO;clear HKY hkx
   have HLK:=lhd (fun(W:World) (hW:Below wr.heap.size wr W)=>(show(Instr.lookup 180 (.map (some w.heap.size)) (zbI kx) false).run Tryz.prog W=.ok (.bool (inB seen kx)) W by
    have:=(HM.out.below hW HM.out.lt).look1 (t:=180) Tryz.underlying180 (zqB W) kx HDK.out;rw[zmt]at this;exact this))
   have HIN:=lhd (show ∀b,inB seen kx=b→(b=true→kx∈seen)∧(b=false→kx∉seen)by
    rintro b rfl;exact⟨zfa.1,fun h hm=>by rw[zfa.2 hm]at h;cases h⟩)
   have HMB:=lhd (fun(W:World) (hW:Below wr.heap.size wr W)=>HM.out.below hW HM.out.lt);obtain⟨nm,ty,pa⟩:=x;have d0:wr.cell? ⟨b,o+k*3,none⟩=some (.string (bsB nm)):=hcell 0 _ rfl;have d1:wr.cell? ⟨b,o+k*3+1,none⟩=some (.int .i64 ty):=hcell 1 _ rfl;have d2:wr.cell? ⟨b,o+k*3+2,none⟩=some (.int .i64 pa):=hcell 2 _ rfl;clear hcell;go_wp2_with fail;refine(HKV.out _).mono ?_;rintro e w1 ⟨rfl,hb1⟩;have HX1:=lhd ((zaq.fresh wr #[.string (bsB nm),.int .i64 ty,.int .i64 pa] 84).below hb1 (by simp));have hb2:=zd3 hb1;have hlk:=HLK.out _ hb2;have HB2:=lhd hb2;obtain⟨q0,q1⟩:=HIN.out _ rfl;have QQ:=lhd (And.intro q0 q1);clear hb1 hb2 q0 q1;cases hin:inB seen kx
   ·rw[hin]at hlk QQ;clear hin;have z0:=HX1.out.cell (j:=0) rfl;have z1:=HX1.out.cell (j:=1) rfl;have z2:=HX1.out.cell (j:=2) rfl;have HNI:=lhd (QQ.out.2 rfl);go_wp2_with fail;refine(HKV.out _).mono ?_;rintro e w2 ⟨rfl,hb3⟩;have HB3:=lhd (zd5 HB2.out hb3);have HM3:=lhd (HMB.out _ HB3.out);clear hb3 hlk;go_wp2_with (refine zqm _ rfl _ _ _ 180 rfl 4 Tryz.underlying180 w.heap.size k _ rfl HM3.out (by unfold maxLen;omega) kx (.bool true) rfl rfl HDK.out ?_;intro w3 hm3 hg3)
    have HM4:=lhd (hm3.ext (fun s=>zmu seen kx s));have HB4:=lhd ((HB.out.trans (HB3.out.mono HB.out.size)).grown hg3 (by have:=HB.out.size;have:=HB3.out.size;omega) (fun j ej=>by injection ej with ej;omega));clear hm3 hg3;go_wp2_with fail;go_roundw;case rel=>exact⟨k+1,hlt,by go_num,by rw[HTK.out];exact zh7.2 ⟨HND.out,HNI.out⟩,by rw[HTK.out];exact HM4.out,HB4.out⟩
    case measure=>simp[intOf];omega
   ·rw[hin]at hlk QQ;clear hin;have HRF:=lhd (show R=false from HNO.out (QQ.out.1 rfl));go_wp2_with fail;go_ret;exact⟨zle HRF.out.symm,HB.out.trans (HB2.out.mono HB.out.size)⟩
  ·obtain rfl:k=L.length:=by omega
   have HRT:=lhd (show R=true by
    rw[HR.out,zoc];have:=HND.out;rwa [List.take_of_length_le (Nat.le_refl _)]at this)
   clear hlt;go_wp2_with fail;go_ret;exact⟨zle HRT.out.symm,HB.out⟩
theorem ze2 (v:Value) (L:List Vr) (w:World) (hs:SlR w v L.length (vrs L)) (hl:L.length≤1000) (hd:∀x∈L,((Lit.int .i64 x.sc).wf=true∧x.nm.length≤maxLen)∧(Lit.int .i64 x.mb).wf=true∧(Lit.int .i64 x.lb).wf=true):
 Calls Tryz.prog 109 #[v,(.func (.func 110) #[] #[])] w fun e w'=>e=.returned (.bool (uniq zpk L))∧Below w.heap.size w w':=by
 obtain⟨a,cap,rfl,-,-⟩:=hs.shape;have HS:=lhd hs;have HD:=lhd (show ∀x∈L,(zdT).dom (zpk x)from hd);have HM0:=lhd (KMap.made zdT w);have HB0:=lhd (show Below w.heap.size w (w.alloc (.map #[] 0))from(Below.refl _ _).alloc (Nat.le_refl _) _);obtain⟨R,hR⟩:∃R,R=uniq zpk L:=⟨_,rfl⟩;rw[←hR];have HR:=lhd hR;clear hs hd hR;have hmm:= @run_makeMap Tryz.prog;go_enter Tryz.func109,Tryz.ntmps109;go_wp2_with fail;clear hmm;go_loopw [11] (fun i wr=>∃k:Nat,k≤L.length∧i=.int .i64 k∧((L.take k).map zpk).Nodup∧KMap zdT wr w.heap.size k (zms ((L.take k).map zpk))∧Below w.heap.size w wr) (fun i _=>L.length-(intOf i).toNat)
 case atStart=>exact⟨0,Nat.zero_le _,rfl,by simp,HM0.out,HB0.out⟩
 case round=>
  obtain⟨k,hk,rfl,hnd,hm,hb⟩:=hrel;have HND:=lhd hnd;have HM:=lhd hm;have HB:=lhd hb;clear hnd hm hb;by_cases hlt:k<L.length
  ·obtain⟨b,o,rfl,hcell⟩:=(HS.out.below HB.out).vrs hlt;have HTK:=lhd (show(L.take (k+1)).map zpk=(L.take k).map zpk++ [zpk L[k]]by rw[List.take_succ_eq_append_getElem hlt,List.map_append];rfl);have HDK:=lhd (HD.out L[k] (List.getElem_mem hlt))
   have HNO:=lhd (fun(hin:zpk L[k]∈(L.take k).map zpk)=>(show R=false by
    rw[HR.out,←Bool.not_eq_true,zoc];intro hall;rw[←List.take_append_drop (k+1) L,List.map_append,HTK.out,List.nodup_append]at hall;exact(zh7.1 hall.1).2 hin))
   have HKY:=lhd (fun W=>ze4 L[k] W);generalize hxk:L[k]=x at*;clear hxk;generalize hseen:(L.take k).map zpk=seen at*;clear hseen;obtain⟨kx,hkx⟩:∃kx,zpk x=kx:=⟨_,rfl⟩;have HKV:=lhd (show ∀W,Calls Tryz.prog 110 #[vrV x] W fun e w'=>e=.returned (zdU kx)∧Below W.heap.size W w' by rw[←hkx];exact HKY.out);rw[hkx]at HTK HDK HNO;clear HKY hkx
   have HLK:=lhd (fun(W:World) (hW:Below wr.heap.size wr W)=>(show(Instr.lookup 181 (.map (some w.heap.size)) (zdU kx) false).run Tryz.prog W=.ok (.bool (inB seen kx)) W by
    have:=(HM.out.below hW HM.out.lt).look1 (t:=181) Tryz.underlying181 (zqB W) kx HDK.out;rw[zmt]at this;exact this))
   have HIN:=lhd (show ∀b,inB seen kx=b→(b=true→kx∈seen)∧(b=false→kx∉seen)by
    rintro b rfl;exact⟨zfa.1,fun h hm=>by rw[zfa.2 hm]at h;cases h⟩)
   have HMB:=lhd (fun(W:World) (hW:Below wr.heap.size wr W)=>HM.out.below hW HM.out.lt);obtain⟨nm,ty,sc,sg,rg,mb,lb⟩:=x;have d0:wr.cell? ⟨b,o+k*7,none⟩=some (.string (bsB nm)):=hcell 0 _ rfl;have d1:wr.cell? ⟨b,o+k*7+1,none⟩=some (.int .i64 ty):=hcell 1 _ rfl;have d2:wr.cell? ⟨b,o+k*7+2,none⟩=some (.int .i64 sc):=hcell 2 _ rfl;have d3:wr.cell? ⟨b,o+k*7+3,none⟩=some (.int .i64 sg):=hcell 3 _ rfl;have d4:wr.cell? ⟨b,o+k*7+4,none⟩=some (.bool rg):=hcell 4 _ rfl;have d5:wr.cell? ⟨b,o+k*7+5,none⟩=some (.int .i64 mb):=hcell 5 _ rfl;have d6:wr.cell? ⟨b,o+k*7+6,none⟩=some (.int .i64 lb):=hcell 6 _ rfl;clear hcell;go_wp2_with fail;refine(HKV.out _).mono ?_;rintro e w1 ⟨rfl,hb1⟩;have HX1:=lhd ((zaq.fresh wr #[.string (bsB nm),.int .i64 ty,.int .i64 sc,.int .i64 sg,.bool rg,.int .i64 mb,.int .i64 lb] 48).below hb1 (by simp));have hb2:=zd3 hb1;have hlk:=HLK.out _ hb2;have HB2:=lhd hb2;obtain⟨q0,q1⟩:=HIN.out _ rfl;have QQ:=lhd (And.intro q0 q1);clear hb1 hb2 q0 q1;cases hin:inB seen kx
   ·rw[hin]at hlk QQ;clear hin;have z0:=HX1.out.cell (j:=0) rfl;have z1:=HX1.out.cell (j:=1) rfl;have z2:=HX1.out.cell (j:=2) rfl;have z3:=HX1.out.cell (j:=3) rfl;have z4:=HX1.out.cell (j:=4) rfl;have z5:=HX1.out.cell (j:=5) rfl;have z6:=HX1.out.cell (j:=6) rfl;have HNI:=lhd (QQ.out.2 rfl);go_wp2_with fail;refine(HKV.out _).mono ?_;rintro e w2 ⟨rfl,hb3⟩;have HB3:=lhd (zd5 HB2.out hb3);have HM3:=lhd (HMB.out _ HB3.out);clear hb3 hlk;go_wp2_with (refine zqm _ rfl _ _ _ 181 rfl 4 Tryz.underlying181 w.heap.size k _ rfl HM3.out (by unfold maxLen;omega) kx (.bool true) rfl rfl HDK.out ?_;intro w3 hm3 hg3)
    have HM4:=lhd (hm3.ext (fun s=>zmu seen kx s));have HB4:=lhd ((HB.out.trans (HB3.out.mono HB.out.size)).grown hg3 (by have:=HB.out.size;have:=HB3.out.size;omega) (fun j ej=>by injection ej with ej;omega));clear hm3 hg3;go_wp2_with fail;go_roundw;case rel=>exact⟨k+1,hlt,by go_num,by rw[HTK.out];exact zh7.2 ⟨HND.out,HNI.out⟩,by rw[HTK.out];exact HM4.out,HB4.out⟩
    case measure=>simp[intOf];omega
   ·rw[hin]at hlk QQ;clear hin;have HRF:=lhd (show R=false from HNO.out (QQ.out.1 rfl));go_wp2_with fail;go_ret;exact⟨zle HRF.out.symm,HB.out.trans (HB2.out.mono HB.out.size)⟩
  ·obtain rfl:k=L.length:=by omega
   have HRT:=lhd (show R=true by
    rw[HR.out,zoc];have:=HND.out;rwa [List.take_of_length_le (Nat.le_refl _)]at this)
   clear hlt;go_wp2_with fail;go_ret;exact⟨zle HRT.out.symm,HB.out⟩
theorem zsB (n:Nat) (v:Vr) (l:List Vr):seqN n (v::l)=if(n:Int)<v.sg then none else if v.sg=(n:Int)then seqN (n+1) l else seqN n l:=rfl
theorem zsA:∀(A B:List Vr) (n:Nat),seqN n (A++B)=(seqN n A).bind fun m=>seqN m B
 | [],_,_=>rfl
 |v::A,B,n=>by
  rw[List.cons_append,zsB,zsB];split
  ·rfl
  ·split
   ·exact zsA A B _
   ·exact zsA A B _
theorem zsD {V:List Vr} {i:Nat} (hi:i<V.length):V=V.take i++V[i]::V.drop (i+1):=by
 rw[←List.drop_eq_getElem_cons hi,List.take_append_drop]
theorem zsC {V:List Vr} {i n:Nat} (h:seqN 0 (V.take i)=some n) (hi:i<V.length) (hv:(n:Int)<V[i].sg) (m:Nat):seqN 0 V≠some m:=by
 rw[zsD hi,zsA,h];show seqN n (V[i]::V.drop (i+1))≠some m;unfold seqN;rw[if_pos hv];simp
theorem zsE {V:List Vr} {i n:Nat} (h:seqN 0 (V.take i)=some n) (hi:i<V.length) (hv:¬(n:Int)<V[i].sg):seqN 0 (V.take (i+1))=some (if V[i].sg=(n:Int)then n+1 else n):=by
 rw[List.take_succ_eq_append_getElem hi,zsA,h];show seqN n [V[i]]=_;unfold seqN;rw[if_neg hv];split<;>rfl
theorem zsG {α:Type} {k:α→Int} {V:List α} {i j:Nat} (hi:i<V.length) (hj:j<i) (h:k V[i]<k (V[j]'(by omega))):¬Srt k V:=fun hs=>by
 have:=List.pairwise_iff_getElem.1 hs j i (by omega) hi hj;omega
theorem zsH {α:Type} {k:α→Int}:∀{V:List α},(∀i,∀hi:i+1<V.length,k (V[i]'(by omega))≤k V[i+1])→Srt k V
 | [],_=>List.Pairwise.nil
 | [x],_=>by unfold Srt;simp
 |x::y::V,h=>by
  have ih:=zsH (k:=k) (V:=y::V) fun i hi=>h (i+1) (by simpa using hi);have h0:k x≤k y:=h 0 (by simp);refine List.pairwise_cons.2 ⟨fun z hz=>?_,ih⟩;rcases List.mem_cons.1 hz with rfl|hz
  ·exact h0
  ·have:=(List.pairwise_cons.1 ih).1 z hz;omega
end Go.Proofs.YtcdekelomkcahaaGreatDoor
