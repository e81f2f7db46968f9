import Derived.Test.YtfppgpamkdkckaaGreatDoorZ00
import Derived.Deep.AppendLies
import Derived.Deep.RegionLaw
import Derived.Laws.BytesArg
import Derived.Laws.BytesString
import Derived.Maps.AppendAt
import Derived.Test.YtfppgpamkdkckaaGreatDoorZ08
set_option maxRecDepth 100000
set_option maxHeartbeats 16000000
namespace Go.Proofs.YtfppgpamkdkckaaGreatDoor
theorem zrj {p:UInt8→Bool} {a b:Bs} (ha:∀c∈a,p c=true) (hb:∀c t,b=c::t→p c=false):(a++b).takeWhile p=a:=by
 induction a with
 |nil=>
  cases b with
  |nil=>rfl
  |cons c t=>rw[List.nil_append,List.takeWhile_cons,if_neg (by rw[hb c t rfl];simp)]
 |cons x a ih=>
  rw[List.cons_append,List.takeWhile_cons,if_pos (ha x (by simp)),ih (fun c hc=>ha c (by simp[hc]))]
theorem znr {t a d r:Bs} (ht:t=a++(d++r)) (hd:∀c∈d,zhj c=true) (hr:∀c u,r=c::u→zhj c=false):zd5 (bsB t) a.length=d.length∧subL (bsB t) a.length d.length=d:=by
 unfold zd5 subL;rw[zbq,ht,List.drop_left,zrj hd hr];exact⟨rfl,by simp⟩
theorem zgN {set t a r:Bs} {c:UInt8} (ht:t=a++c::r):zkR set (bsB t) a.length=set.contains c:=by
 unfold zkR;rw[zbq,ht];simp
theorem zfc (u:Nat) (h:u≤1048576):zfb (Lib.decDigits u)=(u:Int):=by
 induction u using Nat.strongRecOn with
 |_ u ih=>
  rw[Lib.decDigits];split
  ·rename_i h1
   have:=(zea ⟨u,h1⟩).1;have h2:=(zea ⟨u,h1⟩).2;unfold isD at this;rw[Bool.and_eq_true,decide_eq_true_iff,decide_eq_true_iff]at this;show min 1048576 (10*0+(((UInt8.ofNat (48+u)).toNat:Int)-48))=(u:Int);simp only at this h2;omega
  ·rw[zfd,ih (u/10) (by omega) (by omega)];have:=(zea ⟨u % 10,by omega⟩).1;have h2:=(zea ⟨u % 10,by omega⟩).2;unfold isD at this;rw[Bool.and_eq_true,decide_eq_true_iff,decide_eq_true_iff]at this;simp only at this h2;omega
theorem zfe {t a:Bs} {f:Int} (ht:t=a++101::Lib.itoa f) (h0: -1000≤f) (h1:f≤1000):expS (bsB t) a.length=some (f,t.length):=by
 unfold expS;rw[zgN ht,if_pos (by decide)];have hda:∀u:Nat,∀c∈Lib.decDigits u,zhj c=true:=fun u=>List.all_eq_true.1 (zdF u);by_cases hf:f<0
 ·have hi:Lib.itoa f=45::Lib.decDigits f.natAbs:=by rw[Lib.itoa,if_pos hf]
  rw[hi]at ht
  have hx:ze9 (bsB t) (a.length+1)=(true,a.length+1+1):=by
   unfold ze9;have:=zgN (set:=[45]) (t:=t) (a:=a++ [101]) (c:=45) (r:=Lib.decDigits f.natAbs) (by rw[ht];simp);rw[List.length_append,List.length_singleton]at this;rw[this,if_pos (by decide)]
  rw[hx];dsimp only;obtain⟨e1,e2⟩:=znr (t:=t) (a:=a++ [101,45]) (d:=Lib.decDigits f.natAbs) (r:=[]) (by rw[ht];simp) (hda _) (by intro c u h;cases h);have hlen:List.length (a++ [101,45]:Bs)=a.length+1+1:=by simp
  rw[hlen]at e1 e2;rw[e1,e2,if_neg (by have:=zdG f.natAbs;intro h;exact this (List.eq_nil_of_length_eq_zero h)),if_pos rfl,zfc _ (by omega)];rw[show-((f.natAbs:Nat):Int)=f by omega,show a.length+1+1+(Lib.decDigits f.natAbs).length=t.length by rw[ht];simp;omega]
 ·have hi:Lib.itoa f=Lib.decDigits f.toNat:=by rw[Lib.itoa,if_neg hf]
  rw[hi]at ht
  have hx:ze9 (bsB t) (a.length+1)=(false,a.length+1):=by
   cases hd:Lib.decDigits f.toNat with
   |nil=>exact absurd hd (zdG _)
   |cons c r=>
    have hc:=hda f.toNat c (by rw[hd];simp);unfold zhj at hc;rw[Bool.and_eq_true,decide_eq_true_iff,decide_eq_true_iff]at hc
    have hh:∀set,zkR set (bsB t) (a.length+1)=set.contains c:=fun set=>by
     have:=zgN (set:=set) (t:=t) (a:=a++ [101]) (c:=c) (r:=r) (by rw[ht,hd];simp);rwa [List.length_append,List.length_singleton]at this
    unfold ze9;rw[hh,hh];have h45:c≠45:=fun h=>by subst h;exact absurd hc.1 (by decide)
    have h43:c≠43:=fun h=>by subst h;exact absurd hc.1 (by decide)
    rw[if_neg (by simp[h45]),if_neg (by simp[h43])]
  rw[hx];dsimp only;obtain⟨e1,e2⟩:=znr (t:=t) (a:=a++ [101]) (d:=Lib.decDigits f.toNat) (r:=[]) (by rw[ht];simp) (hda _) (by intro c u h;cases h);have hlen:List.length (a++ [101]:Bs)=a.length+1:=by simp
  rw[hlen]at e1 e2;rw[e1,e2,if_neg (by have:=zdG f.toNat;intro h;exact this (List.eq_nil_of_length_eq_zero h)),if_neg (by simp),zfc _ (by omega)];rw[show((f.toNat:Nat):Int)=f by omega,show a.length+1+(Lib.decDigits f.toNat).length=t.length by rw[ht];simp;omega]
theorem zq4 (l:Bs):(zq2 48 l).getLast? ≠some 48:=by
 unfold zq2;rw[List.getLast?_reverse];intro hh;have:=List.head?_dropWhile_not (· ==48) l.reverse;rw[hh]at this;simp at this
theorem zq3 {l:Bs} (h:l.getLast? ≠some 48):zq2 48 l=l:=by
 unfold zq2;cases hr:l.reverse with
 |nil=>have:=congrArg List.reverse hr;simp at this;rw[this];rfl
 |cons c t=>
  have hl:l=t.reverse++ [c]:=by have:=congrArg List.reverse hr;simpa using this
  have hc:c≠48:=by
   intro hc;apply h;rw[hl,hc];simp
  rw[List.dropWhile_cons,if_neg (by simpa using hc),←hr,List.reverse_reverse]
theorem zer {l:Bs} (h:l.head? ≠some 48):l.dropWhile (· ==48)=l:=by
 cases l with
 |nil=>rfl
 |cons c t=>
  rw[List.dropWhile_cons,if_neg];intro hc;apply h;simp at hc;rw[hc];rfl
theorem zj5 (n:Num):zj3 (zj3 n)=zj3 n:=by
 obtain⟨g,d,e⟩:=n;by_cases h:zq2 48 (d.dropWhile (· ==48))=[]
 ·have:zj3 (g,d,e)=(false,[],0):=by unfold zj3;dsimp only;rw[if_pos h]
  rw[this];rfl
 ·have e1:zj3 (g,d,e)=(g,zq2 48 (d.dropWhile (·==48)),e+(((d.dropWhile (·==48)).length:Int)-(zq2 48 (d.dropWhile (·==48))).length)):=by unfold zj3;dsimp only;rw[if_neg h]
  have hh:(zq2 48 (d.dropWhile (· ==48))).head? ≠some 48:=by
   have hp:=zq6 48 (d.dropWhile (· ==48));have hd:=List.head?_dropWhile_not (· ==48) d;obtain⟨q,hq⟩:=hp;cases ht:zq2 48 (d.dropWhile (· ==48))with
   |nil=>exact absurd ht h
   |cons c t=>
    rw[ht]at hq;rw[←hq]at hd;intro h8;simp at h8;subst h8;simp at hd
  have hl:=zq4 (d.dropWhile (· ==48));rw[e1];generalize zq2 48 (d.dropWhile (· ==48))=d2 at h hh hl;unfold zj3;dsimp only;rw[zer hh,zq3 hl,if_neg h,Int.sub_self,Int.add_zero]
theorem zq9 {g:Bool} {d:Bs} {e:Int} {c:UInt8} (h:c∈(zj3 (g,d,e)).2.1):c∈d:=by
 unfold zj3 at h;dsimp only at h;split at h
 ·cases h
 ·obtain⟨q,hq⟩:=zq6 48 (d.dropWhile (·==48));have:c∈d.dropWhile (· ==48):=by rw[←hq];exact List.mem_append_left _ h
  exact(List.dropWhile_sublist _).mem this
theorem zpT {s:ByteArray} {k:Nat} {c:UInt8} (h:c∈subL s k (zd5 s k)):zhj c=true:=by
 unfold subL zd5 at h
 have:∀(l:Bs),l.take (l.takeWhile zhj).length=l.takeWhile zhj:=fun l=>by
  induction l with
  |nil=>rfl
  |cons x l ih=>
   rw[List.takeWhile_cons];split
   ·rw[List.length_cons,List.take_succ_cons,ih]
   ·rfl
 rw[this]at h;exact(List.all_eq_true.1 List.all_takeWhile) c h
theorem znW {s:ByteArray} {n:Num} (h:znT s=some n):zj3 n=n∧∀c∈n.2.1,zhj c=true:=by
 unfold znT at h;split at h
 ·cases h
 ·dsimp only at h;split at h
  ·cases h
  ·split at h
   ·cases h
   ·rename_i ds ex k hf
    split at h
    ·cases h
    ·split at h
     ·injection h with h;subst h;refine⟨zj5 _,fun c hc=>?_⟩;have hc:=zq9 hc;unfold zfP at hf;split at hf
      ·split at hf
       ·cases hf
       ·injection hf with hf;injection hf with hf _;subst hf;rcases List.mem_append.1 hc with hc|hc<;>exact zpT hc
      ·injection hf with hf;injection hf with hf _;subst hf;exact zpT hc
     ·cases h
theorem zeb {c:UInt8} (h:zhj c=true):c≠45∧c≠43∧c≠46∧c≠101:=by
 unfold zhj at h;rw[Bool.and_eq_true,decide_eq_true_iff,decide_eq_true_iff]at h;refine⟨?_,?_,?_,?_⟩<;>(intro e;subst e;revert h;decide)
theorem zhx {f:Int} (h0: -400≤f) (h1:f≤400):(Lib.itoa f).length≤4:=by
 have hd:∀u:Nat,u≤400→(Lib.decDigits u).length≤3:=fun u hu=>by
  rw[Lib.decDigits_length]
  exact zje 2 u (by
   have:(10:Nat)^(2+1)=1000:=by decide
   omega)
 unfold Lib.itoa;split
 ·have:=hd f.natAbs (by omega);simp;omega
 ·have:=hd f.toNat (by omega);omega
theorem zn5 {n:Num} {t:Bs} (ht:zj3 n=n) (hd:∀c∈n.2.1,zhj c=true) (h:zj2 n=(t,0)):znT (bsB t)=some n:=by
 obtain⟨g,ds,ex⟩:=n;dsimp only at hd;unfold zj2 at h;dsimp only at h;cases ds with
 |nil=>
  rw[if_pos rfl]at h;injection h with h _;subst h;have:zj3 (g,[],ex)=(false,[],0):=rfl;rw[this]at ht;rw[←ht];decide+kernel
 |cons d0 rest=>
  rw[if_neg (by simp)]at h;split at h
  ·injection h with _ h;cases h
  rename_i hb
  injection h with h _;have hl:rest.length≤16:=by simp at hb;omega
  obtain⟨f,hf⟩:∃f:Int,f=ex+((d0::rest).length:Int)-1:=⟨_,rfl⟩;rw[←hf]at h hb;have hf0: -400≤f∧f≤400:=by simp at hb;omega
  have hil:=zhx hf0.1 hf0.2;have hd0:=hd d0 (by simp);obtain⟨n45,n43,n46,n101⟩:=zeb hd0;obtain⟨sg,hsg⟩:∃sg:Bs,sg=(if g then [45]else []):=⟨_,rfl⟩;obtain⟨fr,hfr⟩:∃fr:Bs,fr=(if 1<(d0::rest).length then [46]++(d0::rest).drop 1 else []):=⟨_,rfl⟩;rw[←hsg,←hfr]at h;have htx:t=sg++([d0]++(fr++101::Lib.itoa f)):=by rw[←h];simp
  clear h;have hsgl:sg.length≤1:=by rw[hsg];split<;>simp
  have hfrl:fr.length≤17:=by rw[hfr];split<;>simp;omega
  have hsign:zo8 (bsB t)=(g,sg.length):=by
   unfold zo8;cases g with
   |true=>
    rw[if_pos rfl]at hsg;have:=zgN (set:=[45]) (t:=t) (a:=[]) (c:=45) (r:=[d0]++(fr++101::Lib.itoa f)) (by rw[htx,hsg];rfl);rw[List.length_nil]at this;rw[this,if_pos (by decide),hsg];rfl
   |false=>
    rw[if_neg (by simp)]at hsg;have:∀set,zkR set (bsB t) 0=set.contains d0:=fun set=>zgN (set:=set) (t:=t) (a:=[]) (c:=d0) (r:=fr++101::Lib.itoa f) (by rw[htx,hsg];rfl);rw[this,this,if_neg (by simp[n45]),if_neg (by simp[n43]),hsg];rfl
  have hfhead:∀c u,fr++101::Lib.itoa f=c::u→zhj c=false:=by
   intro c u he;rw[hfr]at he;split at he
   ·injection he with he _;subst he;decide
   ·injection he with he _;subst he;decide
  obtain⟨e1,e2⟩:=znr (t:=t) (a:=sg) (d:=[d0]) (r:=fr++101::Lib.itoa f) htx (by simp[hd0]) hfhead;rw[List.length_singleton]at e1 e2
  have hfrac:zfP (bsB t) (sg.length+1) [d0]=some (d0::rest,-(rest.length:Int),sg.length+1+fr.length):=by
   unfold zfP;cases rest with
   |nil=>
    rw[if_neg (by simp)]at hfr;have:=zgN (set:=[46]) (t:=t) (a:=sg++ [d0]) (c:=101) (r:=Lib.itoa f) (by rw[htx,hfr];simp);rw[List.length_append,List.length_singleton]at this;rw[this,if_neg (by decide),hfr];rfl
   |cons r1 rs=>
    rw[if_pos (by simp)]at hfr;have:=zgN (set:=[46]) (t:=t) (a:=sg++ [d0]) (c:=46) (r:=r1::rs++101::Lib.itoa f) (by rw[htx,hfr];simp);rw[List.length_append,List.length_singleton]at this;rw[this,if_pos (by decide)]
    obtain⟨f1,f2⟩:=znr (t:=t) (a:=sg++ [d0,46]) (d:=r1::rs) (r:=101::Lib.itoa f) (by rw[htx,hfr];simp) (fun c hc=>hd c (List.mem_cons_of_mem _ hc)) (by
     intro c u he;injection he with he _;subst he;decide)
    rw[show(sg++ [d0,46]).length=sg.length+1+1 by simp]at f1 f2;rw[f1,f2,if_neg (by simp),hfr];simp;omega
  have hexp:expS (bsB t) (sg.length+1+fr.length)=some (f,t.length):=by
   have:=zfe (t:=t) (a:=sg++([d0]++fr)) (f:=f) (by rw[htx];simp) (by omega) (by omega);rw[show(sg++([d0]++fr)).length=sg.length+1+fr.length by simp;omega]at this;exact this
  unfold znT;rw[zbt,if_neg (by rw[htx];simp;omega),hsign];dsimp only;rw[e1,if_neg (by omega),e2,hfrac];dsimp only;rw[hexp];dsimp only;rw[if_pos rfl];congr 1
  rw[show-(rest.length:Int)+f=ex by rw[hf];simp;omega];exact ht
def okD (c:UInt8):Bool:=codeOf c != -1
def digC (c:UInt8):Bool:=c==48||c==49||c==120||c==122||c==88||c==90
def lowC (c:UInt8):UInt8:=if c=88∨c=90 then c+32 else c
def extL (n:Int) (s:Bs):Bs×Int:=if n<1∨128<n then([],1)else if s=[]∨s.all okD=false then([],3)else if n<s.length then([],8)else(extB n.toNat s,0)
def pbL (n:Int) (t:Bs):Bs×Int:=if t=[]∨t.all digC=false then([],3)else if n<t.length then([],8)else extL n (t.map lowC)
def decP (t:Bs):Bs×Int:=match znT (bsB t)with
 |none=>([],3)
 |some n=>zj2 n
def evP (t:Bs):Bs×Int:=if t.length≠1∨t.all digC=false then([],3)else([],0)
def parV (k n:Int) (t:Bs):Bs×Int:=if vt k n=false then([],7)else if k=0 then pbL n t else if k=1 then decP t else if k=2 then unqR t else evP t
def fmtV (k:Int) (v:Bs):Bs:=if k=0 then shoL v else if k=1 then v else if k=2 then quoL v else [49]
def cv:Vals:=⟨vt,fun k n v=>vv k n (bsB v),fun k n=>(vi k n).data.toList,parV,fun k _ v=>fmtV k v⟩
theorem zkM {c:UInt8} (h:okD c=true):c=48∨c=49∨c=120∨c=122:=by
 unfold okD codeOf at h;by_cases h0:c=48
 ·exact .inl h0
 by_cases h1:c=49
 ·exact .inr (.inl h1)
 by_cases h2:c=120
 ·exact .inr (.inr (.inl h2))
 by_cases h3:c=122
 ·exact .inr (.inr (.inr h3))
 rw[if_neg h0,if_neg h1,if_neg h2,if_neg h3]at h;exact absurd h (by decide)
theorem zkN {c:UInt8} (h:okD c=true):digC c=true∧lowC c=c∧isW c=false:=by
 rcases zkM h with rfl|rfl|rfl|rfl<;>decide
theorem zbh {n:Int} {v:Bs}:vv 0 n (bsB v)=true↔vt 0 n=true∧v≠ []∧v.length≤128∧(∀c∈v,okD c=true)∧(v.length:Int)=n:=by
 unfold vv bvIs;rw[if_pos rfl,zbq,zbt,Bool.and_eq_true,Bool.and_eq_true,Bool.and_eq_true,Bool.and_eq_true,decide_eq_true_iff,decide_eq_true_iff,decide_eq_true_iff,List.all_eq_true];constructor
 ·rintro⟨a,⟨⟨b,c⟩,d⟩,e⟩;exact⟨a,by intro h;rw[h]at b;simp at b,c,d,e⟩
 ·rintro⟨a,b,c,d,e⟩;exact⟨a,⟨⟨List.length_pos_iff.2 b,c⟩,d⟩,e⟩
theorem zth {n:Int} (h:vt 0 n=true):1≤n∧n≤128:=by
 unfold vt at h;simp at h;exact h
theorem zfO {s:Bs} (hs:s≠ []) (h:∀c∈s,okD c=true):okD (frD s)=true:=by
 cases s with
 |nil=>exact absurd rfl hs
 |cons c t=>
  have:=h c (by simp);show okD (if c=49 then 48 else c)=true;split
  ·decide
  ·exact this
theorem zdP {v:Bs} (h:zdH (bsB v)=true):∀c∈v,isW c=false:=by
 unfold zdH at h;split at h
 ·cases h
 ·rename_i n hn
  rw[decide_eq_true_iff,zbq]at h;obtain⟨-,hd⟩:=znW hn;unfold zj2 at h;have hdw:∀c,zhj c=true→isW c=false:=fun c hc=>zhi hc;split at h
  ·injection h with h _;subst h;decide
  ·split at h
   ·injection h with _ h;cases h
   ·injection h with h _;intro c hc;rw[←h]at hc;rcases List.mem_append.1 hc with hc|hc
    ·split at hc
     ·rw[List.mem_singleton]at hc;subst hc;decide
     ·cases hc
    rcases List.mem_append.1 hc with hc|hc
    ·exact hdw c (hd c (List.mem_of_mem_take hc))
    rcases List.mem_append.1 hc with hc|hc
    ·split at hc
     ·rcases List.mem_append.1 hc with hc|hc
      ·rw[List.mem_singleton]at hc;subst hc;decide
      ·exact hdw c (hd c (List.mem_of_mem_drop hc))
     ·cases hc
    rcases List.mem_append.1 hc with hc|hc
    ·rw[List.mem_singleton]at hc;subst hc;decide
    ·unfold Lib.itoa at hc;split at hc
     ·rcases List.mem_cons.1 hc with rfl|hc
      ·decide
      ·exact hdw c (List.all_eq_true.1 (zdF _) c hc)
     ·exact hdw c (List.all_eq_true.1 (zdF _) c hc)
theorem ztj {k n:Int} (h:vt k n=true):k=0∨k=1∨k=2∨k=3:=by
 unfold vt at h;simp only[Bool.or_eq_true,Bool.and_eq_true,decide_eq_true_iff]at h;omega
theorem zto {k n:Int} {v:ByteArray} (h:vv k n v=true):vt k n=true:=by
 unfold vv at h;rw[Bool.and_eq_true]at h;exact h.1
theorem zdy:ValsOk cv where
 par_fmt k n v ht hv:=by
  show parV k n (fmtV k v)=(v,0);unfold parV;rw[if_neg (by rw[show vt k n=true from ht];simp)];rcases ztj ht with rfl|rfl|rfl|rfl
  ·obtain⟨-,hne,hl,hok,hn⟩:=zbh.1 hv;obtain⟨n1,n2⟩:=zth ht;rw[if_pos rfl,show fmtV 0 v=shoL v from rfl];have hm:∀c∈shoL v,okD c=true:=fun c hc=>hok c (zoN hc);have hsl:=zoM v
   have hmap:(shoL v).map lowC=shoL v:=by
    conv=>rhs;rw[←List.map_id (shoL v)]
    exact List.map_congr_left fun c hc=>(zkN (hm c hc)).2.1
   unfold pbL
   rw[if_neg (by
    rintro(h|h)
    ·exact zoO hne h
    ·rw[List.all_eq_true.2 (fun c hc=>(zkN (hm c hc)).1)]at h;cases h),if_neg (by omega),hmap]
   unfold extL
   rw[if_neg (by omega),if_neg (by
    rintro(h|h)
    ·exact zoO hne h
    ·rw[List.all_eq_true.2 hm]at h;cases h),if_neg (by omega),show n.toNat=v.length by omega,zfh]
  ·rw[if_neg (by omega),if_pos rfl]
   have hv2:zdH (bsB v)=true:=by
    have:vv 1 n (bsB v)=true:=hv;unfold vv at this;rw[Bool.and_eq_true]at this;simpa using this.2
   show decP v=(v,0);unfold zdH at hv2;unfold decP;split at hv2
   ·cases hv2
   ·rename_i m hm
    rw[hm];rw[decide_eq_true_iff,zbq]at hv2;exact hv2
  ·rw[if_neg (by omega),if_neg (by omega),if_pos rfl];have:vv 2 n (bsB v)=true:=hv;unfold vv at this;rw[Bool.and_eq_true]at this;have h2:=this.2;rw[if_neg (by omega),if_neg (by omega),if_pos rfl,decide_eq_true_iff,zbt]at h2;exact zrz h2
  ·rw[if_neg (by omega),if_neg (by omega),if_neg (by omega)];have:vv 3 n (bsB v)=true:=hv;unfold vv nilB at this;rw[Bool.and_eq_true]at this;have h2:=this.2;rw[if_neg (by omega),if_neg (by omega),if_neg (by omega),decide_eq_true_iff,zbt]at h2;rw[List.eq_nil_of_length_eq_zero h2];decide
 par_ok k n t v h:=by
  show vv k n (bsB v)=true;have h:parV k n t=(v,0):=h;unfold parV at h;split at h
  ·injection h with _ h;cases h
  rename_i ht
  have ht:vt k n=true:=by simpa using ht
  rcases ztj ht with rfl|rfl|rfl|rfl
  ·rw[if_pos rfl]at h;unfold pbL at h;split at h
   ·injection h with _ h;cases h
   rename_i hd
   split at h
   ·injection h with _ h;cases h
   rename_i hl
   unfold extL at h;obtain⟨n1,n2⟩:=zth ht;rw[if_neg (by omega)]at h;split at h
   ·injection h with _ h;cases h
   rename_i hd2
   split at h
   ·injection h with _ h;cases h
   rename_i hl2
   injection h with h _
   have hd3:∀c∈t.map lowC,okD c=true:=by
    have:(t.map lowC).all okD=true:=by
     cases hq:(t.map lowC).all okD with
     |true=>rfl
     |false=>exact absurd (.inr hq) hd2
    exact List.all_eq_true.1 this
   have hne:t.map lowC≠ []:=fun hq=>hd2 (.inl hq);generalize t.map lowC=u at h hd3 hne hl2;rw[zbh]
   have hlv:(v.length:Int)=n:=by
    rw[←h];unfold extB;rw[List.length_append,List.length_replicate];omega
   refine⟨ht,by intro hq;rw[hq]at hlv;simp at hlv;omega,by omega,?_,hlv⟩;intro c hc;rw[←h]at hc;rcases List.mem_append.1 hc with hc|hc
   ·rw[List.eq_of_mem_replicate hc];exact zfO hne hd3
   ·exact hd3 c hc
  ·rw[if_neg (by omega),if_pos rfl]at h;unfold vv;rw[ht,if_neg (by omega),if_pos rfl];unfold decP at h;split at h
   ·injection h with _ h;cases h
   ·rename_i m hm
    obtain⟨h1,h2⟩:=znW hm;have:=zn5 h1 h2 h;unfold zdH;rw[this];dsimp only;rw[zbq,h];simp
  ·rw[if_neg (by omega),if_neg (by omega),if_pos rfl]at h;have:=zry h;unfold vv;rw[ht,if_neg (by omega),if_neg (by omega),if_pos rfl,zbt,decide_eq_true this];rfl
  ·rw[if_neg (by omega),if_neg (by omega),if_neg (by omega)]at h;unfold evP at h;split at h
   ·injection h with _ h;cases h
   injection h with h _;subst h;unfold vv;rw[ht];rfl
 vi_ok k n ht:=by
  show vv k n (bsB (vi k n).data.toList)=true;rw[zbs];have ht:vt k n=true:=ht;unfold vv vi;rw[ht,if_pos rfl,Bool.true_and];rcases ztj ht with rfl|rfl|rfl|rfl
  ·rw[if_pos rfl,if_pos rfl];obtain⟨n1,n2⟩:=zth ht;unfold allR
   rw[if_neg (by
    rintro(h|h|h)
    ·omega
    ·omega
    ·exact absurd h (by decide))]
   unfold bvIs;rw[Bool.and_eq_true,Bool.and_eq_true,Bool.and_eq_true,decide_eq_true_iff,decide_eq_true_iff,decide_eq_true_iff,List.all_eq_true];have hs:(⟨(List.replicate n.toNat 120).toArray⟩:ByteArray).size=n.toNat:=by simp[ByteArray.size]
   rw[hs];refine⟨⟨⟨by omega,by omega⟩,fun c hc=>?_⟩,by omega⟩;rw[show(⟨(List.replicate n.toNat (120:UInt8)).toArray⟩:ByteArray).data.toList=List.replicate n.toNat 120 by simp]at hc;rw[List.eq_of_mem_replicate hc];decide
  ·show zdH (⟨#[48]⟩:ByteArray)=true;decide+kernel
  ·rfl
  ·rfl
 solid k n v ht hv:=by
  show ∀c∈fmtV k v,isW c=false;rcases ztj ht with rfl|rfl|rfl|rfl
  ·obtain⟨-,-,-,hok,-⟩:=zbh.1 hv;exact fun c hc=>(zkN (hok c (zoN hc))).2.2
  ·have:vv 1 n (bsB v)=true:=hv;unfold vv at this;rw[Bool.and_eq_true]at this;have h2:=this.2;rw[if_neg (by omega),if_pos rfl]at h2;exact zdP h2
  ·exact fun c hc=>zmz (zmy hc)
  ·show ∀c∈([49]:Bs),isW c=false;decide
 one v hv:=by
  obtain⟨-,hne,-,hok,hn⟩:=zbh.1 (show vv 0 1 (bsB v)=true from hv);show fmtV 0 v=[48]∨fmtV 0 v=[49]∨fmtV 0 v=[120]∨fmtV 0 v=[122];match v,hne,hok,hn with
  | [c],_,hok,_=>
    show [c]=[48]∨ [c]=[49]∨ [c]=[120]∨ [c]=[122];rcases zkM (hok c (by simp))with rfl|rfl|rfl|rfl<;>simp
  |c::d::t,_,_,hn=>exfalso;simp at hn;omega
 ev n v:=rfl
 kind k n h:=ztj h
 vt_vv k n v h:=zto h
open Go.RowKit
theorem zoP {s:ByteArray} (h:s.size≤100000):(shoB s).size≤100000:=by
 unfold shoB;rw[zbt];have:=zoM s.data.toList;have h2:s.data.toList.length=s.size:=by simp
 omega
def cmdB (k n:Int) (s id:ByteArray):ByteArray:=bsB (cmdL cv k n s.data.toList id.data.toList)
theorem zcy {k n:Int} {s id:ByteArray} (h:(vt k n&&vv k n s&&codeOk id.data.toList)=false):cmdB k n s id=⟨#[]⟩:=by
 unfold cmdB cmdL;rw[if_neg (by show ¬(vt k n&&vv k n (bsB s.data.toList)&&codeOk id.data.toList)=true;rw[zbs,h];simp)];rfl
theorem zcz {k n:Int} {s id:ByteArray} (h:(vt k n&&vv k n s&&codeOk id.data.toList)=true) (h2:zoQ k n=true):cmdB k n s id=bsB (fmtV k s.data.toList)++id:=by
 unfold cmdB cmdL;rw[if_pos (by show(vt k n&&vv k n (bsB s.data.toList)&&codeOk id.data.toList)=true;rw[zbs,h]),if_pos h2];show bsB (fmtV k s.data.toList++id.data.toList)=_;apply ByteArray.ext;simp[bsB]
theorem zcw {k n:Int} {s id:ByteArray} (h:(vt k n&&vv k n s&&codeOk id.data.toList)=true) (h2:zoQ k n=false):cmdB k n s id=(⟨#[letter k]⟩++bsB (fmtV k s.data.toList))++⟨#[32]⟩++id:=by
 unfold cmdB cmdL;rw[if_pos (by show(vt k n&&vv k n (bsB s.data.toList)&&codeOk id.data.toList)=true;rw[zbs,h]),if_neg (by rw[h2];simp)];show bsB (letter k::fmtV k s.data.toList++32::id.data.toList)=_;apply ByteArray.ext;simp[bsB]
theorem zrV (n:Int) (s id:ByteArray) (w:World) (hv:vt 0 n=true) (hs:s.size≤100000) (hid:id.size≤100000):
 Calls Tryz.prog 57 #[.int .i64 0,.int .i64 n,.string s,.string id] w fun e w'=>e=.returned (.string (cmdB 0 n s id))∧Below w.heap.size w w':=by
 have hs2:s.size≤maxLen:=by unfold maxLen;omega
 go_enter Tryz.func57,Tryz.ntmps57;go_wp2_with fail;refine(zsq 0 n _).mono ?_;rintro e w1 ⟨C,rfl,hb,hC⟩;have HB:=lhd hb;rw[hv];rcases hC with⟨-,h⟩|⟨B,hK,⟨-,rfl⟩|⟨h,-⟩|⟨h,-⟩|⟨h,-⟩⟩
 ·rw[hv]at h;cases h
 ·have HX:=lhd hv;clear hb hv hK;unfold kd0;have hrow:=zan.fresh w1 (kd0 B) 162;unfold kd0 at hrow;have HROW:=lhd hrow;clear hrow;go_wp2_with fail;refine(zbg n s _ hs2).mono ?_;rintro e w2 ⟨rfl,hb2⟩;have HB2:=lhd (zfj HB.out (zfg hb2));have c5:=(HROW.out.below hb2 (by simp)).cell (j:=5) rfl;have c6:=(HROW.out.below hb2 (by simp)).cell (j:=6) rfl;clear hb2;cases hvv:(bvIs s&&decide ((s.size:Int)=n))
  ·have HR:=lhd (zcy (k:=0) (n:=n) (s:=s) (id:=id) (by unfold vv;rw[if_pos rfl,hvv];simp));clear hvv;go_wp2_with fail;refine bodyPost_ret (v:=.string ⟨#[]⟩) (by simp[results,Tryz.results57,go_sem]) rfl ?_;rw[HR.out];exact⟨rfl,HB2.out⟩
  ·have HVV:=lhd (show vv 0 n s=true by unfold vv;rw[if_pos rfl,hvv,HX.out];rfl);have HFS:=lhd (zoP hs);have HBV:=lhd (show bvIs s=true by rw[Bool.and_eq_true]at hvv;exact hvv.1);clear hvv;go_wp2_with fail;refine(zr6 id _ (by omega)).mono ?_;rintro e w3 ⟨rfl,rfl⟩;cases hc:codeOk id.data.toList
   ·have HR:=lhd (zcy (k:=0) (n:=n) (s:=s) (id:=id) (by rw[hc];simp));clear hc;go_wp2_with fail;refine bodyPost_ret (v:=.string ⟨#[]⟩) (by simp[results,Tryz.results57,go_sem]) rfl ?_;rw[HR.out];exact⟨rfl,HB2.out⟩
   ·have HAL:=lhd (show(vt 0 n&&vv 0 n s&&codeOk id.data.toList)=true by rw[HX.out,HVV.out,hc];rfl);clear hc;by_cases h1:n=1
    ·have HR:=lhd (zcz HAL.out (by subst h1;rfl));have hb1:(n==1)=true:=by rw[beq_iff_eq];exact h1
     clear h1;go_wp2_with fail;refine(zbf s _ HBV.out).mono ?_;rintro e w4 ⟨rfl,hb4⟩;have HB4:=lhd (zfj HB2.out hb4);clear hb4;have hq1:¬9223372036854775807<(shoB s).size+id.size:=by have:=HFS.out;omega
     go_wp2_with fail;refine bodyPost_ret (v:=.string (shoB s++id)) (by simp[results,Tryz.results57,go_sem]) rfl ⟨by rw[HR.out];rfl,HB4.out⟩
    ·have HR:=lhd (zcw HAL.out (by unfold zoQ;simp[h1]));have hb1:(n==1)=false:=by rw[beq_eq_false_iff_ne];exact h1
     clear h1;have hlt:w1.heap.size<w3.heap.size:=zbU c5;have hq1:¬9223372036854775807<1+(shoB s).size:=by have:=HFS.out;omega
     have hq2:¬9223372036854775807<1+(shoB s).size+1:=by have:=HFS.out;omega
     have hq3:¬9223372036854775807<1+(shoB s).size+1+id.size:=by have:=HFS.out;omega
     have hq4:¬9223372036854775807<(⟨#[98]⟩:ByteArray).size+(shoB s).size:=hq1;go_upto_region 6 with fail
     go_region_held3 (fun w'=>w'.cell? ⟨w1.heap.size,5,none⟩=some (Value.func (.func 226) #[] #[])∧w'.cell? ⟨w1.heap.size,6,none⟩=some (.string ⟨#[98]⟩))
      (first|exact⟨d5,d6⟩|exact⟨c5,c6⟩|go_keep)
      (first
        |(go_at_call 226;(with_reducible refine(zbf s _ HBV.out).mono ?_);rintro e w4 ⟨rfl,hb4⟩;have d5:=(hb4.cell (p:=⟨w1.heap.size,5,none⟩) hlt).trans c5;have d6:=(hb4.cell (p:=⟨w1.heap.size,6,none⟩) hlt).trans c6;have HB4:=lhd (zfj HB2.out (zbc hb4));clear hb4)
        |fail "no arm")
     all_goals
      (try (rename_i hh;clear hh))
      go_wp2_with fail;refine bodyPost_ret (v:=.string (cmdB _ _ _ _)) (by rw[HR.out];simp[results,Tryz.results57,go_sem]<;>rfl) rfl ⟨rfl,HB4.out⟩
 ·cases h
 ·cases h
 ·cases h
end Go.Proofs.YtfppgpamkdkckaaGreatDoor
