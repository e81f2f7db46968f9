import Derived.Test.YtbiadennhnokhaaGreatDoorZ23
set_option maxRecDepth 100000
set_option maxHeartbeats 16000000
namespace Go.Proofs.YtbiadennhnokhaaGreatDoor
def mvC (f:ByteArray→ByteArray) (c:Ch):Ch:=(c.1,f c.2)
theorem zsa (f:ByteArray→ByteArray):∀l:List Ch,zr8 (btG f) l=l.map (mvC f)
 | []=>rfl
 |c::l=>by
  have ih:=zsa f l;unfold zr8 at ih⊢;rw[List.filterMap_cons,List.map_cons,ih];rfl
theorem zuF (f:ByteArray→ByteArray) (t:Int):∀(l:List Ch) (v:ByteArray),val (f v) (l.map (mvC f)) t=f (val v l t)
 | [],_=>rfl
 |c::l,v=>by
  rw[List.map_cons,zpG,zpG,←zuF f t l];congr 1
  by_cases h:c.1≤t
  ·rw[if_pos h,if_pos (show(mvC f c).1≤t from h)];rfl
  ·rw[if_neg h,if_neg (show ¬(mvC f c).1≤t from h)]
theorem zs8 {f:ByteArray→ByteArray}:∀{l:List Ch} {a:Int},zah a l→zah a (l.map (mvC f))
 | [],_,_=>trivial
 |_::_,_,⟨h1,h2⟩=>⟨h1,zs8 h2⟩
theorem vv0 {n:Int} {s:ByteArray} (h:vv 0 n s=true):bvIs s=true∧(s.size:Int)=n:=by
 unfold vv at h;have h:=(Bool.and_eq_true _ _▸h).2;rw[if_pos rfl]at h;have h:=Bool.and_eq_true _ _▸h;exact⟨h.1,of_decide_eq_true h.2⟩
theorem zuK {s:ByteArray} (h:bvIs s=true):vv 0 s.size s=true:=by
 have h2:1≤s.size∧s.size≤128:=by
  unfold bvIs at h;simp only[Bool.and_eq_true,decide_eq_true_iff]at h;exact h.1
 unfold vv vt;simp[h];omega
theorem zrL {s:ByteArray}:bvIs s=true↔1≤s.size∧s.size≤128∧∀c∈s.data.toList,zcO c≠ -1:=by
 unfold bvIs;simp only[Bool.and_eq_true,decide_eq_true_iff,List.all_eq_true,bne_iff_ne,and_assoc]
theorem zru {a b:ByteArray} (h:a.data.toList=b.data.toList):a=b:=(zaY a _ h).trans (zaY b _ rfl).symm
theorem zsR (c:UInt8):zcO (invB c)≠ -1:=by
 rcases zsT c with⟨-,h⟩|⟨-,h⟩|⟨-,h⟩|⟨-,h⟩<;>rw[h]<;>decide
theorem zrK {s:ByteArray} (h:bvIs s=true):(zrI s).data.toList=s.data.toList.map invB:=by unfold zrI;rw[if_pos h]
theorem zrv (s:ByteArray):s.size=s.data.toList.length:=by simp
theorem zrJ {s:ByteArray} (h:bvIs s=true):bvIs (zrI s)=true∧(zrI s).size=s.size:=by
 have hl:=zrK h;have hs:(zrI s).size=s.size:=by rw[zrv,hl,List.length_map,←zrv]
 refine⟨zrL.2 ⟨by have:=(zrL.1 h).1;omega,by have:=(zrL.1 h).2.1;omega,fun c hc=>?_⟩,hs⟩;rw[hl]at hc;obtain⟨d,-,rfl⟩:=List.mem_map.1 hc;exact zsR d
theorem zuL {n:Int} {s:ByteArray} (h:vv 0 n s=true):vv 0 n (zrI s)=true:=by
 obtain⟨h1,h2⟩:=vv0 h;obtain⟨h3,h4⟩:=zrJ h1;have:=zuK h3;rw[h4,h2]at this;exact this
theorem vi0 {n:Int} (h:vt 0 n=true):(vi 0 n).data.toList=List.replicate n.toNat 120∧bvIs (vi 0 n)=true∧((vi 0 n).size:Int)=n:=by
 obtain⟨h1,h2⟩:=vv0 (zqB h);refine⟨?_,h1,h2⟩;have hv:=h;unfold vt at hv;have h3:1≤n∧n≤128:=by simpa using hv
 unfold vi;rw[if_pos h,if_pos rfl];unfold allR
 rw[if_neg (by rw[show zcO 120=2 from by decide];omega)]
theorem zsV {n:Int} (h:vt 0 n=true):zrI (vi 0 n)=vi 0 n:=by
 obtain⟨h1,h2,-⟩:=vi0 h;apply zru;rw[zrK h2,h1,List.map_replicate];rfl
theorem zs7 {n w:Int} {l:List Ch} {f:ByteArray→ByteArray} (h:sv 0 n l=true) (hw:vt 0 w=true) (hf:∀s,vv 0 n s=true→vv 0 w (f s)=true):Nrm 0 w (l.map (mvC f)):=by
 have hN:=zof h;refine⟨hw,by rw[List.length_map];exact hN.2.1,zs8 hN.2.2.1,fun c hc=>?_⟩;obtain⟨d,hd,rfl⟩:=List.mem_map.1 hc;exact⟨(hN.2.2.2 d hd).1,hf _ (hN.2.2.2 d hd).2⟩
theorem zsU {n:Int} {l:List Ch} (h:sv 0 n l=true):∃q,invR 0 n l=((0,n,q),0)∧sv 0 n q=true∧q.length≤l.length∧∀t,val (vi 0 n) q t=zrI (val (vi 0 n) l t):=by
 have hv:=(zoh.1 h).1;have hN:=zs7 (f:=zrI) h hv (fun s hs=>zuL hs);refine⟨zih 0 n (l.map (mvC zrI)),?_,hN.sv,?_,fun t=>?_⟩
 ·unfold invR;rw[if_neg (by rw[h];simp),if_neg (by simp),zsa,hN.made]
 ·have:=zh9 0 (l.map (mvC zrI)) (vi 0 n);rw[List.length_map]at this;exact this
 ·rw[hN.val];conv=>lhs;rw[←zsV hv]
  exact zuF zrI t l _
def SlOk (n from_ width:Int):Prop:=0≤from_∧1≤width∧width≤n∧from_≤n-width
theorem zt9 {n from_ width:Int} {s:ByteArray} (h:vv 0 n s=true):(slR s from_ width).2=0↔SlOk n from_ width:=by
 obtain⟨h1,h2⟩:=vv0 h;unfold slR SlOk;rw[if_neg (by rw[h1];simp)];split
 ·rename_i hc
  exact⟨fun h=>by simp at h,fun h=>by omega⟩
 ·rename_i hc
  exact⟨fun _=>by omega,fun _=>rfl⟩
theorem zt6 {n from_ width:Int} {s:ByteArray} (h:vv 0 n s=true) (hc:SlOk n from_ width):
 (slB from_ width s).data.toList=(s.data.toList.drop (n.toNat-from_.toNat-width.toNat)).take width.toNat:=by
 obtain⟨h1,h2⟩:=vv0 h;unfold SlOk at hc;unfold slB slR;rw[if_neg (by rw[h1];simp),if_neg (by omega)];show(s.extract _ _).data.toList=_;rw[Lib.extract_data];have:s.size=n.toNat:=by omega
 rw[this];congr 1
 omega
theorem zuM {n from_ width:Int} {s:ByteArray} (h:vv 0 n s=true) (hc:SlOk n from_ width):vv 0 width (slB from_ width s)=true:=by
 have hl:=zt6 h hc;obtain⟨h1,h2⟩:=vv0 h;obtain⟨i1,i2,i3⟩:=zrL.1 h1;have hc':=hc;unfold SlOk at hc'
 have hs:(slB from_ width s).size=width.toNat:=by
  rw[zrv,hl,List.length_take,List.length_drop,←zrv];omega
 have hb:bvIs (slB from_ width s)=true:=zrL.2 ⟨by omega,by omega,fun c hcm=>by
  rw[hl]at hcm;exact i3 c (List.mem_of_mem_drop (List.mem_of_mem_take hcm))⟩
 have:=zuK hb;rw[hs,show((width.toNat:Nat):Int)=width by omega]at this;exact this
theorem zt7 {n from_ width:Int} (h:vt 0 n=true) (hc:SlOk n from_ width):vt 0 width=true∧slB from_ width (vi 0 n)=vi 0 width:=by
 have hv:=zqB h;have hw:=zuN (zuM hv hc);refine⟨hw,zru ?_⟩;rw[zt6 hv hc,(vi0 h).1,(vi0 hw).1,List.drop_replicate,List.take_replicate];unfold SlOk at hc;congr 1
 omega
theorem zub {n:Int} {l:List Ch} {from_ width:Int} (h:sv 0 n l=true):zua 0 n l from_ width=((0,0,[]),2)∨SlOk n from_ width:=by
 have hz:=zt9 (from_:=from_) (width:=width) (zqB (zoh.1 h).1);by_cases hc:SlOk n from_ width
 ·exact .inr hc
 ·refine .inl ?_;unfold zua;rw[if_neg (by rw[h];simp),if_neg (by simp),if_pos (fun e=>hc (hz.1 e))]
theorem zud {n:Int} {l:List Ch} {from_ width:Int} (h:sv 0 n l=true) (hc:SlOk n from_ width):
 ∃p,zua 0 n l from_ width=((0,width,p),0)∧sv 0 width p=true∧p.length≤l.length∧∀t,val (vi 0 width) p t=slB from_ width (val (vi 0 n) l t):=by
 have hv:=(zoh.1 h).1;obtain⟨hw,hvi⟩:=zt7 hv hc;have hN:=zs7 (f:=slB from_ width) h hw (fun s hs=>zuM hs hc);refine⟨zih 0 width (l.map (mvC (slB from_ width))),?_,hN.sv,?_,fun t=>?_⟩
 ·unfold zua;have hz:=(zt9 (from_:=from_) (width:=width) (zqB hv)).2 hc;rw[if_neg (by rw[h];simp),if_neg (by simp),if_neg (fun e=>e hz),zsa,hN.made]
 ·have:=zh9 0 (l.map (mvC (slB from_ width))) (vi 0 width);rw[List.length_map]at this;exact this
 ·rw[hN.val];conv=>lhs;rw[←hvi]
  exact zuF (slB from_ width) t l _
open Go.RowKit
abbrev Dv:=Int×Int×Bool
def svS (s:Sg):Bool:=sv s.1 s.2.1 s.2.2
def ztw (st:Sg) (fr:Int) (inv:Bool) (width:Int):Sg×Bool:=
 if st.1≠0 then(st,true)else
 if(zua st.1 st.2.1 st.2.2 fr width).2=0∧inv=true then
  ((invR (zua st.1 st.2.1 st.2.2 fr width).1.1 (zua st.1 st.2.1 st.2.2 fr width).1.2.1 (zua st.1 st.2.1 st.2.2 fr width).1.2.2).1,
    decide ((invR (zua st.1 st.2.1 st.2.2 fr width).1.1 (zua st.1 st.2.1 st.2.2 fr width).1.2.1 (zua st.1 st.2.1 st.2.2 fr width).1.2.2).2=0))
 else((zua st.1 st.2.1 st.2.2 fr width).1,decide ((zua st.1 st.2.1 st.2.2 fr width).2=0))
def bvX (inv:Bool) (s:ByteArray):ByteArray:=if inv=true then zrI s else s
theorem zty {st:Sg} (h:st.1≠0) (fr:Int) (inv:Bool) (width:Int):ztw st fr inv width=(st,true):=by
 unfold ztw;rw[if_pos h]
def hitF (st s:Sg) (inv:Bool) (fr:Nat):Bool:=(ztw st fr inv s.2.1).2&&decide ((ztw st fr inv s.2.1).1.2.2=s.2.2)
theorem vt0 {n:Int} (h:vt 0 n=true):1≤n∧n≤128:=by
 unfold vt at h;simp at h;exact h
def tryF (st s:Sg) (inv:Bool):Option Nat:=(List.range (st.2.1-s.2.1+1).toNat).find? (hitF st s inv)
def tryD (st s:Sg):Option (Nat×Bool):=
 if st.1≠s.1 then none
 else if s.1≠0 then(if 0≤st.2.1-s.2.1∧hitF st s false 0=true then some (0,false)else none)
 else match tryF st s false with
  |some f=>some (f,false)
  |none=>(tryF st s true).map fun f=>(f,true)
def Der (st s:Sg):Prop:=(tryD st s).isSome=true
theorem zuJ {k n:Int} (h:vt k n=true) (hk:k≠0):n=0:=by
 unfold vt at h;simp[hk]at h;exact h.2
def sgAt (L:List Sg) (i:Nat):Sg:=L.getD i (0,0,[])
theorem ztV {L:List Sg} {i:Nat} (h:i<L.length):sgAt L i=L[i]:=by simp[sgAt,List.getD,List.getElem?_eq_getElem h]
def mkD (k:Nat) (p:Nat×Bool):Dv:=((k:Int),(p.1:Int),p.2)
def zrU (L:List Sg) (st:List Nat) (s:Sg):Option Dv:=
 if s.2.2=[]then some (-1,0,false)else st.findSome? fun k=>(tryD (sgAt L k) s).map (mkD k)
def ztT (i:Nat):Dv:=((i:Int),0,false)
def zuo (L:List Sg) (σ:List Nat×List Dv) (i:Nat):List Nat×List Dv:=
 match zrU L σ.1 (sgAt L i)with
 |some d=>(σ.1,σ.2.set i d)
 |none=>(σ.1++ [i],σ.2.set i (ztT i))
def runF (L:List Sg) (P:List Nat):List Nat×List Dv:=P.foldl (zuo L) ([],List.replicate L.length (0,0,false))
theorem ztQ (L:List Sg) (P:List Nat) (i:Nat):runF L (P++ [i])=zuo L (runF L P) i:=by simp[runF,List.foldl_append]
theorem zup (L:List Sg) (σ:List Nat×List Dv) (i:Nat):(zuo L σ i).2.length=σ.2.length:=by
 unfold zuo;split<;>simp
theorem zus (L:List Sg) (σ:List Nat×List Dv) (i:Nat):(zuo L σ i).1=σ.1∨(zuo L σ i).1=σ.1++ [i]:=by
 unfold zuo;split
 ·exact .inl rfl
 ·exact .inr rfl
theorem zsE (L:List Sg):∀(P:List Nat) (σ:List Nat×List Dv),(P.foldl (zuo L) σ).2.length=σ.2.length
 | [],_=>rfl
 |i::P,σ=>by rw[List.foldl_cons,zsE L P,zup]
theorem ztP (L:List Sg) (P:List Nat):(runF L P).2.length=L.length:=by
 unfold runF;rw[zsE];simp
theorem zsG (L:List Sg):∀(P:List Nat) (σ:List Nat×List Dv),∃Q,(P.foldl (zuo L) σ).1=σ.1++Q∧List.Sublist Q P
 | [],σ=>⟨[],by simp,List.Sublist.refl _⟩
 |i::P,σ=>by
  obtain⟨Q,h1,h2⟩:=zsG L P (zuo L σ i);rw[List.foldl_cons,h1];rcases zus L σ i with h|h
  ·exact⟨Q,by rw[h],h2.cons _⟩
  ·exact⟨i::Q,by rw[h,List.append_assoc];rfl,h2.cons_cons _⟩
theorem ztR (L:List Sg) (P:List Nat):List.Sublist (runF L P).1 P:=by
 obtain⟨Q,h1,h2⟩:=zsG L P ([],List.replicate L.length (0,0,false));unfold runF;rw[h1,List.nil_append];exact h2
theorem ztN (L:List Sg) (P Q:List Nat):runF L (P++Q)=Q.foldl (zuo L) (runF L P):=by simp[runF,List.foldl_append]
theorem zuq (L:List Sg) (σ:List Nat×List Dv) {i j:Nat} (h:i≠j):(zuo L σ i).2[j]? =σ.2[j]? :=by
 unfold zuo;split<;>simp[h]
theorem zsF (L:List Sg) {j:Nat}:∀(P:List Nat) (σ:List Nat×List Dv),j∉P→(P.foldl (zuo L) σ).2[j]? =σ.2[j]?
 | [],_,_=>rfl
 |i::P,σ,h=>by
  rw[List.foldl_cons,zsF L P _ (fun h'=>h (List.mem_cons_of_mem _ h')),zuq L σ (fun e=>h (by rw[e];exact List.mem_cons_self))]
theorem ztO (L:List Sg) (P Q:List Nat) (i:Nat) (hi:i<L.length) (hP:i∉P) (hQ:i∉Q):
 (runF L (P++i::Q)).2[i]? =some ((zrU L (runF L P).1 (sgAt L i)).getD (ztT i))∧
 (i∈(runF L (P++i::Q)).1↔zrU L (runF L P).1 (sgAt L i)=none)∧∃R,(runF L (P++i::Q)).1=(runF L P).1++R:=by
 have hlen:=ztP L P;rw[ztN,List.foldl_cons,zsF L Q _ hQ];obtain⟨R,h1,h2⟩:=zsG L Q (zuo L (runF L P) i);have hPn:i∉(runF L P).1:=fun h=>hP ((ztR L P).mem h);rw[h1];cases hd:zrU L (runF L P).1 (sgAt L i)with
 |some d=>
  have hs:zuo L (runF L P) i=((runF L P).1,(runF L P).2.set i d):=by unfold zuo;rw[hd]
  rw[hs];refine⟨?_,?_,R,rfl⟩
  ·rw[List.getElem?_set];simp[hlen,hi]
  ·constructor
   ·intro h;rcases List.mem_append.1 h with h|h
    ·exact absurd h hPn
    ·exact absurd (h2.mem h) hQ
   ·intro h;cases h
 |none=>
  have hs:zuo L (runF L P) i=((runF L P).1++ [i],(runF L P).2.set i (ztT i)):=by unfold zuo;rw[hd]
  rw[hs];refine⟨?_,?_,[i]++R,by simp⟩
  ·rw[List.getElem?_set];simp[hlen,hi]
  ·exact⟨fun _=>rfl,fun _=>by simp⟩
theorem zrV {L:List Sg} {st:List Nat} {s:Sg}:zrU L st s=none↔s.2.2≠ []∧∀k∈st,¬Der (sgAt L k) s:=by
 unfold zrU;by_cases h:s.2.2=[]
 ·rw[if_pos h];simp[h]
 ·rw[if_neg h,List.findSome?_eq_none_iff];constructor
  ·intro h1;refine⟨h,fun k hk hd=>?_⟩;have:=h1 k hk;rw[Option.map_eq_none_iff]at this;unfold Der at hd;rw[this]at hd;cases hd
  ·rintro⟨-,h1⟩ k hk;rw[Option.map_eq_none_iff];have:=h1 k hk;unfold Der at this;cases ht:tryD (sgAt L k) s with
   |none=>rfl
   |some p=>rw[ht]at this;exact absurd rfl this
theorem zrW {L:List Sg} {st:List Nat} {s:Sg} {d:Dv} (h:zrU L st s=some d):(s.2.2=[]∧d=(-1,0,false))∨(s.2.2≠ []∧∃k∈st,∃p,tryD (sgAt L k) s=some p∧d=mkD k p):=by
 unfold zrU at h;by_cases hs:s.2.2=[]
 ·rw[if_pos hs]at h;exact .inl ⟨hs,(Option.some.inj h).symm⟩
 ·rw[if_neg hs]at h;obtain⟨k,hk,he⟩:=List.exists_of_findSome?_eq_some h;obtain⟨p,hp,hd⟩:=Option.map_eq_some_iff.1 he;exact .inr ⟨hs,k,hk,p,hp,hd.symm⟩
def wlt (L:List Sg) (x y:Nat):Bool:=decide ((sgAt L y).2.1<(sgAt L x).2.1)||(decide ((sgAt L x).2.1=(sgAt L y).2.1)&&decide (x<y))
def ordF (L:List Sg):List Nat:=(List.range L.length).mergeSort fun x y=>!wlt L y x
theorem zuP {L:List Sg} {x y:Nat}:wlt L x y=true↔(sgAt L y).2.1<(sgAt L x).2.1∨((sgAt L x).2.1=(sgAt L y).2.1∧x<y):=by
 unfold wlt;simp
theorem ztj (L:List Sg):(ordF L).Perm (List.range L.length):=List.mergeSort_perm _ _
theorem ztk (L:List Sg):(ordF L).Pairwise fun x y=>(!wlt L y x)=true:=by
 unfold ordF;apply List.pairwise_mergeSort
 ·intro a b c h1 h2;rw[Bool.not_eq_true',←Bool.not_eq_true,zuP]at h1 h2⊢;omega
 ·intro a b;rw[Bool.or_eq_true,Bool.not_eq_true',Bool.not_eq_true',←Bool.not_eq_true,←Bool.not_eq_true,zuP,zuP];omega
theorem zti (L:List Sg):(ordF L).Nodup:=(ztj L).nodup_iff.2 List.nodup_range
theorem zth {L:List Sg} {i:Nat}:i∈ordF L↔i<L.length:=by rw[(ztj L).mem_iff,List.mem_range]
theorem ztg {L:List Sg} {P Q:List Nat} {i:Nat} (h:ordF L=P++i::Q):(∀j∈P,wlt L j i=true)∧(∀j∈Q,wlt L i j=true)∧i∉P∧i∉Q∧i<L.length:=by
 have hs:=ztk L;have hn:=zti L;have hi:i<L.length:=zth.1 (by rw[h];simp);rw[h]at hs hn;rw[List.pairwise_append]at hs;rw[List.nodup_append]at hn;obtain⟨-,hs2,hs3⟩:=hs;obtain⟨-,hn2,hn3⟩:=hn;have hP:i∉P:=fun hp=>hn3 i hp i List.mem_cons_self rfl;have hQ:i∉Q:=(List.nodup_cons.1 hn2).1;refine⟨fun j hj=>?_,fun j hj=>?_,hP,hQ,hi⟩
 ·have:=hs3 j hj i List.mem_cons_self;have hne:j≠i:=fun e=>hP (e▸hj);rw[Bool.not_eq_true',←Bool.not_eq_true,zuP]at this;rw[zuP];omega
 ·have:=(List.pairwise_cons.1 hs2).1 j hj;have hne:j≠i:=fun e=>hQ (e▸hj);rw[Bool.not_eq_true',←Bool.not_eq_true,zuP]at this;rw[zuP];omega
def zs0 (L:List Sg):List Nat:=(runF L (ordF L)).1
theorem zs1 (L:List Sg):(zs0 L).Nodup:=(ztR L _).nodup (zti L)
theorem ztl {L:List Sg} {i:Nat} (h:i<L.length):∃P Q,ordF L=P++i::Q:=List.append_of_mem (zth.2 h)
theorem zs2 {L:List Sg} {P Q:List Nat} {i:Nat} (h:ordF L=P++i::Q):
 (runF L (ordF L)).2[i]? =some ((zrU L (runF L P).1 (sgAt L i)).getD (ztT i))∧(i∈zs0 L↔zrU L (runF L P).1 (sgAt L i)=none)∧(∀k∈(runF L P).1,k∈zs0 L)∧∀k∈zs0 L,k∈P→k∈(runF L P).1:=by
 obtain⟨-,-,h3,h4,h5⟩:=ztg h;obtain⟨e1,e2,R,e3⟩:=ztO L P Q i h5 h3 h4;have hn:=zs1 L;unfold zs0 at hn⊢;rw[h];refine⟨e1,e2,fun k hk=>by rw[e3];exact List.mem_append_left _ hk,fun k hk hp=>?_⟩;obtain⟨S,f1,f2⟩:=zsG L (i::Q) (runF L P);rw[ztN,f1]at hk;rcases List.mem_append.1 hk with hk|hk
 ·exact hk
 ·have hno:=zti L;rw[h,List.nodup_append]at hno;exact absurd rfl (hno.2.2 k hp k (f2.mem hk))
def zut (L:List Sg):List Nat:=(zs0 L).mergeSort fun x y=>decide (x≤y)
def ztJ (st:List Nat) (d:Dv):Dv:=if d.1= -1 then d else(((st.idxOf d.1.toNat:Nat):Int),d.2.1,d.2.2)
def zrX (L:List Sg):List Dv:=(runF L (ordF L)).2.map (ztJ (zut L))
def zss (L:List Sg):List Nat×List Dv:=if L.all svS=true then(zut L,zrX L)else([],[])
theorem zux {s:Sg} (h:svS s=true):0≤s.2.1∧s.2.1≤128:=by
 have hv:=(zoh.1 h).1;by_cases h0:s.1=0
 ·rw[h0]at hv;have:=vt0 hv;omega
 ·have:=zuJ hv h0;omega
theorem zuv (L:List Sg):(zut L).Perm (zs0 L):=List.mergeSort_perm _ _
theorem zuu {L:List Sg} {i:Nat}:i∈zut L↔i∈zs0 L:=(zuv L).mem_iff
theorem ztS {L:List Sg} {i:Nat} (hi:i<L.length):∃d,(runF L (ordF L)).2[i]? =some d∧
 ((d=(-1,0,false)∧(sgAt L i).2.2=[]∧i∉zs0 L)∨(∃k p,d=mkD k p∧k∈zs0 L∧(sgAt L i).2.2≠ []∧(i∈zs0 L↔d=ztT i))):=by
 obtain⟨P,Q,h⟩:=ztl hi;obtain⟨e1,e2,e3,e4⟩:=zs2 h;obtain⟨-,-,hP,-,-⟩:=ztg h;refine⟨_,e1,?_⟩;cases hd:zrU L (runF L P).1 (sgAt L i)with
 |none=>
  have hs:=e2.2 hd;exact .inr ⟨i,(0,false),rfl,hs,(zrV.1 hd).1,fun _=>rfl,fun _=>hs⟩
 |some d=>
  have hn:i∉zs0 L:=fun hs=>by
   have:=e2.1 hs;rw[hd]at this;cases this
  rcases zrW hd with⟨h1,rfl⟩|⟨h1,k,hk,p,hp,rfl⟩
  ·exact .inl ⟨rfl,h1,hn⟩
  ·refine .inr ⟨k,p,rfl,e3 k hk,h1,fun h=>absurd h hn,fun h=>?_⟩;exfalso
   have h2:((k:Int),(p.1:Int),p.2)=((i:Int),0,false):=h;have h3:=congrArg Prod.fst h2;dsimp only at h3;obtain rfl:k=i:=by omega
   exact hP ((ztR L P).mem hk)
theorem zsu (L:List Sg):∀d∈(runF L (ordF L)).2,d.1= -1∨∃k:Nat,d.1=(k:Int)∧k∈zut L:=by
 intro d hd;obtain⟨i,hi,rfl⟩:=List.getElem_of_mem hd;rw[ztP]at hi;obtain⟨d,e1,e2⟩:=ztS (L:=L) hi;rw[List.getElem?_eq_getElem (by rw[ztP];exact hi)]at e1;rw[Option.some.inj e1];rcases e2 with⟨rfl,-,-⟩|⟨k,p,rfl,h,-,-⟩
 ·exact .inl rfl
 ·exact .inr ⟨k,rfl,zuu.2 h⟩
theorem zst (L:List Sg):(zs0 L).length≤L.length:=by
 have:=(ztR L (ordF L)).length_le;rw[(ztj L).length_eq,List.length_range]at this;exact this
def zsB (s:Sg) (st:List Sg) (d:Dv):Bool:=
 if d.1< -1∨(st.length:Int)≤d.1 then false
 else if d.1≠ -1∧(sgAt st d.1.toNat).1≠s.1 then false
 else if d.1= -1∨s.1≠0 then decide (d.2.1=0)&&!d.2.2
 else decide (0≤d.2.1)&&decide (d.2.1≤(sgAt st d.1.toNat).2.1-s.2.1)
def tyS (s:Sg):Bool:=vt s.1 s.2.1
def zuG (l st:List Sg) (d:List Dv):Bool:=
 decide (l.length≤64)&&decide (st.length≤64)&&decide (d.length=l.length)&&l.all tyS&&st.all tyS&&(l.zip d).all fun p=>zsB p.1 st p.2
theorem zuH {l st:List Sg} {d:List Dv} (h:zuG l st d=true):l.length≤64∧st.length≤64∧d.length=l.length∧∀(i:Nat) s e,l[i]? =some s→d[i]? =some e→zsB s st e=true:=by
 unfold zuG at h;rw[Bool.and_eq_true,Bool.and_eq_true,Bool.and_eq_true,Bool.and_eq_true,Bool.and_eq_true,decide_eq_true_iff,decide_eq_true_iff,decide_eq_true_iff,List.all_eq_true,List.all_eq_true,List.all_eq_true]at h;obtain⟨⟨⟨⟨⟨h1,h2⟩,h3⟩,-⟩,-⟩,h6⟩:=h;refine⟨h1,h2,h3,fun i s e hs he=>?_⟩;exact h6 (s,e) (List.mem_iff_getElem?.2 ⟨i,by rw[List.getElem?_zip_eq_some];exact⟨hs,he⟩⟩)
def ztK (st:List Sg) (s:Sg) (d:Dv):Sg:=(s.1,s.2.1,if d.1= -1 then []else(ztw (sgAt st d.1.toNat) d.2.1 d.2.2 s.2.1).1.2.2)
def ztL (l st:List Sg) (d:List Dv):List Sg×Int:=if st.all svS=true∧zuG l st d=true then((l.zip d).map (fun p=>ztK st p.1 p.2),0)else([],1)
theorem zuE {s:Sg} (h:tyS s=true):0≤s.2.1∧s.2.1≤128:=by
 have hv:vt s.1 s.2.1=true:=h;by_cases h0:s.1=0
 ·rw[h0]at hv;have:=vt0 hv;omega
 ·have:=zuJ hv h0;omega
def ztz (d:Dv) (k n:Int) (v:ByteArray):ByteArray:=
 if vt k n=false then⟨#[]⟩else if d.1= -1 then vi k n else if k≠0 then(if vv k n v=true then v else⟨#[]⟩)
 else if(slR v d.2.1 n).2≠0 then⟨#[]⟩else bvX d.2.2 (slR v d.2.1 n).1
theorem ziB:∀(l:List Vr) (fm:List Int),∃r,(numF fm l).2=fm++r
 | [],fm=>⟨[],by simp[numF]⟩
 |v::l,fm=>by
  by_cases hc:fm.contains v.sg=true
  ·rw[zin hc];exact ziB l fm
  ·rw[ziq hc];obtain⟨r,hr⟩:=ziB l (fm++ [v.sg]);exact⟨v.sg::r,by rw[hr,List.append_assoc];rfl⟩
theorem ziy:∀(l:List Vr) (fm:List Int),∀w∈(numF fm l).1,∃v∈l,w={v with sg:=w.sg}∧0≤w.sg∧(numF fm l).2[w.sg.toNat]? =some v.sg
 | [],_=>by intro v hv;cases hv
 |v::l,fm=>by
  intro w hw;by_cases hc:fm.contains v.sg=true
  ·rw[zin hc]at hw⊢;rcases List.mem_cons.1 hw with rfl|hw
   ·refine⟨v,by simp,rfl,by dsimp only;omega,?_⟩;obtain⟨r,hr⟩:=ziB l fm;have hi:=List.idxOf_lt_length_of_mem (List.contains_iff_mem.1 hc);show(numF fm l).2[((fm.idxOf v.sg:Nat):Int).toNat]? =some v.sg;rw[Int.toNat_natCast,hr,List.getElem?_append_left hi,List.getElem?_eq_getElem hi,List.getElem_idxOf]
   ·obtain⟨x,hx,h1,h2,h3⟩:=ziy l fm w hw;exact⟨x,List.mem_cons_of_mem _ hx,h1,h2,h3⟩
  ·rw[ziq hc]at hw⊢;rcases List.mem_cons.1 hw with rfl|hw
   ·refine⟨v,by simp,rfl,by dsimp only;omega,?_⟩;obtain⟨r,hr⟩:=ziB l (fm++ [v.sg]);show(numF (fm++ [v.sg]) l).2[(fm.length:Int).toNat]? =some v.sg;rw[Int.toNat_natCast,hr,List.append_assoc,List.getElem?_append_right (Nat.le_refl _),Nat.sub_self];rfl
   ·obtain⟨x,hx,h1,h2,h3⟩:=ziy l _ w hw;exact⟨x,List.mem_cons_of_mem _ hx,h1,h2,h3⟩
theorem ziE:∀(l:List Vr) (fm:List Int) (n:Int),n∈(numF fm l).2→n∈fm∨∃v∈l,v.sg=n
 | [],_,_,h=> .inl h
 |v::l,fm,n,h=>by
  by_cases hc:fm.contains v.sg=true
  ·rw[zin hc]at h;rcases ziE l fm n h with h|⟨x,hx,e⟩
   ·exact .inl h
   ·exact .inr ⟨x,List.mem_cons_of_mem _ hx,e⟩
  ·rw[ziq hc]at h;rcases ziE l _ n h with h|⟨x,hx,e⟩
   ·rcases List.mem_append.1 h with h|h
    ·exact .inl h
    ·rw[List.mem_singleton]at h;exact .inr ⟨v,by simp,h.symm⟩
   ·exact .inr ⟨x,List.mem_cons_of_mem _ hx,e⟩
structure ValidT (t:Tr):Prop where
 o:zju t.S t.V=(t.S,t.V,rgI t.G.length,0)
 c:zbY t.S t.V=0
 f:∀v∈t.V,fitE t.G v=0
 s:∀s∈t.G,sv s.1 s.2.1 s.2.2=true
 n:t.G.length≤64
 t:Times t.P t.en t.G
theorem zqa {t:Tr} (h:zp9 t):ValidT t:=by
 obtain⟨P,en,hb⟩:=zby h;obtain⟨hTN,hT,hs,hmap,hx,h16,hct,-,hin⟩:=hb.sigs;obtain⟨b1,b2,b3,b4,b5,b6,b7⟩:=hb;obtain⟨d1,d2,d3,d4⟩:=zdt b2;obtain⟨o1,o2,o3⟩:=zjv d1
 have eS:t.S=scF t.S:=by
  have:=congrArg Tr.S b7;rw[d2]at this;exact this
 have eV:t.V=(vrF t.S t.V).1:=by
  have:=congrArg Tr.V b7;rw[d2]at this;exact this
 have eP:t.P=P:=congrArg Tr.P b7;have ee:t.en=en:=congrArg Tr.en b7
 have hl:t.G.length=(vrF t.S t.V).2.length:=by
  have:=congrArg List.length hmap;rw[List.length_map,List.length_map]at this;rw[this];unfold sig1;rw[List.length_map,d2]
 have eF:(vrF t.S t.V).2=rgI t.G.length:=by
  rw[←eS,←eV]at o3;rw[hl];exact congrArg Prod.snd o3
 have hO:zju t.S t.V=(t.S,t.V,rgI t.G.length,0):=by rw[d2,←eS,←eV,eF]
 have hs1:sig1 t=t.G:=by unfold sig1;rw[hO];exact zl0 t.G
 refine⟨hO,d1,fun v hv=>?_,hs,by rw[hl];exact d4,by rw[eP,ee];exact hT⟩;rw[hO,hs1]at b3;exact b3 v hv
set_option linter.unusedSimpArgs false
theorem zeA:Fit []:=⟨by simp,fun c hc=>by cases hc⟩
theorem zeB {l m:List Ch} (h:Fit l) (hm:m.Sublist l):Fit m:=⟨Nat.le_trans hm.length_le h.1,fun c hc=>h.2 c (hm.subset hc)⟩
theorem zqe (k n:Int):(vi k n).size≤1000:=by
 cases h:vt k n
 ·have:vi k n=⟨#[]⟩:=by simp[vi,h]
  rw[this];decide
 ·exact zqA (zqB h)
theorem zaV (k n:Int) (l:List Ch) (t:Int):(atR k n l t).1.size≤1000:=by
 unfold atR;split
 ·show(0:Nat)≤1000;omega
 split
 ·show(0:Nat)≤1000;omega
 ·rename_i h _
  have h2:sv k n l=true:=by simpa using h
  dsimp only;rw[zpy h2];exact zqA (zp6 h2 t)
theorem ziU (x:ByteArray) (at_:Int→ByteArray) (en:Int):∀(P:List Gp) (cs:List Ch),(offL x at_ en P cs).length≤cs.length+2*P.length
 | [],cs=>by simp[offL]
 |g::P,cs=>by
  rw[ziS];have h:=ziU x at_ en P ((cs.dropWhile fun c=>decide (c.1<g.1)).dropWhile fun c=>decide (c.1≤zeS en g));have h1:=(List.dropWhile_sublist (l:=cs.dropWhile fun c=>decide (c.1<g.1)) (fun c=>decide (c.1≤zeS en g))).length_le
  have h2:(cs.takeWhile fun c=>decide (c.1<g.1)).length+(cs.dropWhile fun c=>decide (c.1<g.1)).length=cs.length:=by
   rw[←List.length_append,List.takeWhile_append_dropWhile]
  have h3:(if zeS en g≤1099511627776 then [(zeS en g,at_ (zeS en g))]else []).length≤1:=by split<;>simp
  simp only[List.length_append,List.length_cons];omega
theorem ziT (k n:Int) (l:List Ch) (en:Int) (hen:en≤1099511627776) (P:List Gp) (hP:P.length≤1000) (hl:Fit l) (hl2:l.length≤100000):Fit (offL (vi k n) (fun t=>(atR k n l t).1) en P l):=by
 refine⟨by have:=ziU (vi k n) (fun t=>(atR k n l t).1) en P l;omega,fun c hc=>?_⟩;rcases ziW _ _ _ hen _ _ _ hc with h|⟨g,-,rfl⟩|⟨g,-,rfl,-⟩
 ·exact hl.2 c h
 ·have:=zqe k n;dsimp only;omega
 ·have:=zaV k n l (zeS en g);dsimp only;omega
theorem zaA (acc:List Gp) (g:Gp):(zay acc g).length≤acc.length+1:=by
 rcases znp acc with rfl|⟨A,h,rfl⟩
 ·rw[zaC];simp
 ·rw[zaD];split<;>simp
theorem zeZ:∀(l:List Gp) (b:Int) (acc:List Gp) (en:Int) (P:List Gp) (en':Int),zeV b acc en l=some (P,en')→P.length≤acc.length+l.length
 | [],b,acc,en,P,en',h=>by
   injection h with h;injection h with h1 h2;subst h1;simp
 |g::t,b,acc,en,P,en',h=>by
  rw[zeW]at h;split at h
  ·cases h
  ·have h1:=zeZ t _ _ _ _ _ h;have h2:=zaA acc g;simp;omega
structure FB (t:Tr):Prop where
 tx:t.dt.length≤100000∧t.vn.length≤100000∧t.cm.length≤100000
 l:t.S.length≤1000∧t.V.length≤1000
 n:(∀s∈t.S,s.1.length≤100000)∧∀x∈t.V,x.nm.length≤100000
 g:∀s∈t.G,Fit s.2.2∧s.2.2.length≤100000
 p:t.P.length≤1000
theorem zm7 {t:Tr} (h:FB t):∀s∈sig1 t,Fit s.2.2∧s.2.2.length≤100000:=by
 intro s hs;obtain⟨n,-,rfl⟩:=List.mem_map.1 hs;unfold sgI;by_cases hn:n.toNat<t.G.length
 ·unfold List.getD;rw[List.getElem?_eq_getElem hn];exact h.g _ (List.getElem_mem hn)
 ·unfold List.getD;rw[List.getElem?_eq_none (by omega)];exact⟨zeA,by simp⟩
theorem zdw {t:Tr} (hd:zdr t=0):(∀v∈(zju t.S t.V).2.1,0≤v.sg∧v.sg<(sig1 t).length)∧(sig1 t).length≤64∧(zju t.S t.V).2.1.length=t.V.length:=by
 obtain⟨-,hO,-,h64⟩:=zdt hd;have hs:(sig1 t).length=(vrF t.S t.V).2.length:=by unfold sig1;rw[List.length_map,hO]
 rw[hs,hO];refine⟨fun v hv=>?_,h64,?_⟩
 ·obtain⟨x,-,-,h0,hx⟩:=ziy _ _ v hv;have:=(List.getElem?_eq_some_iff.1 hx).1;have h2:v.sg.toNat<(vrF t.S t.V).2.length:=this;exact⟨h0,by omega⟩
 ·have:=congrArg List.length (ziz (fun _:Vr=>(0:Int)) (fun _ _=>rfl) (vr2 t.S t.V) [])
  have h3:(vrF t.S t.V).1.length=(vr2 t.S t.V).length:=by
   unfold vrF;simpa using this
  show(vrF t.S t.V).1.length=_;rw[h3];unfold vr2;rw[zgi];simp[vr1]
theorem zii {t:Tr} (h:FB t) (hn:zh6 (sig1 t)=0):∀s∈zic (sig1 t),Fit s.2.2∧s.2.2.length≤4096∧sv s.1 s.2.1 s.2.2=true:=by
 intro s hs;obtain⟨x,hx,rfl⟩:=List.mem_map.1 hs
 have h0:∀(G:List Sg),zh6 G=0→∀y∈G,(zij y.1 y.2.1 y.2.2).2=0:=by
  intro G;induction G with
  |nil=>intro _ y hy;cases hy
  |cons z G ih=>
   intro hG y hy;unfold zh6 zeu at hG;split at hG
   ·rename_i hz;exact absurd hG hz
   ·rename_i hz
    rcases List.mem_cons.1 hy with rfl|hy
    ·simpa using hz
    ·exact ih hG y hy
 have h1:=h0 _ hn x hx;obtain⟨e,-,-,-,h4⟩:=ziL h1;rw[e];exact⟨zeB (zm7 h x hx).1 (zib _ _ _),h4,ziM h1⟩
def stg (t:Tr):Nat→Tr
 |0=>tr0
 |1=>{tr0 with sc:=t.sc,dt:=t.dt,vn:=t.vn,cm:=t.cm}
 |2=>{tr0 with sc:=t.sc,dt:=t.dt,vn:=t.vn,cm:=t.cm,S:=(zju t.S t.V).1,V:=(zju t.S t.V).2.1,G:=sig1 t}
 |3=>{tr0 with sc:=t.sc,dt:=t.dt,vn:=t.vn,cm:=t.cm,S:=(zju t.S t.V).1,V:=(zju t.S t.V).2.1,G:=sig1 t}
 |4=>{tr0 with sc:=t.sc,dt:=t.dt,vn:=t.vn,cm:=t.cm,S:=(zju t.S t.V).1,V:=(zju t.S t.V).2.1,G:=zic (sig1 t)}
 |5=>match zoL t (zic (sig1 t))with
  |none=>tr0
  |some (P,en)=>⟨t.sc,t.dt,t.vn,t.cm,(zju t.S t.V).1,(zju t.S t.V).2.1,zic (sig1 t),P,en⟩
 |_=>(zbx t).1
def cod (t:Tr):Nat→Int
 |0=>zoJ t
 |1=>zdr t
 |2=>zeu (fitE (sig1 t)) (zju t.S t.V).2.1
 |3=>zh6 (sig1 t)
 |4=>match zoL t (zic (sig1 t))with
  |none=>2
  |some _=>0
 |_=>match zoL t (zic (sig1 t))with
  |none=>0
  |some r=>zct r.1 r.2 (zic (sig1 t))
theorem cod4 (t:Tr):cod t 4=match zoL t (zic (sig1 t))with
 |none=>2
 |some _=>0:=rfl
theorem cod5 (t:Tr):cod t 5=match zoL t (zic (sig1 t))with
 |none=>0
 |some r=>zct r.1 r.2 (zic (sig1 t)):=rfl
theorem zbB {t:Tr} {k:Nat} (hk:k<6) (h0:∀j<k,cod t j=0) (h:cod t k≠0):(zbx t).2=cod t k:=by
 unfold zbx;match k,hk with
 |0,_=>rw[if_pos (show zoJ t≠0 from h)];rfl
 |1,_=>
  have a0:zoJ t=0:=h0 0 (by omega);rw[if_neg (by simp[a0]),if_pos (show zdr t≠0 from h)];rfl
 |2,_=>
  have a0:zoJ t=0:=h0 0 (by omega);have a1:zdr t=0:=h0 1 (by omega);rw[if_neg (by simp[a0]),if_neg (by simp[a1]),if_pos (show zeu (fitE (sig1 t)) (zju t.S t.V).2.1≠0 from h)];rfl
 |3,_=>
  have a0:zoJ t=0:=h0 0 (by omega);have a1:zdr t=0:=h0 1 (by omega);have a2:zeu (fitE (sig1 t)) (zju t.S t.V).2.1=0:=h0 2 (by omega);rw[if_neg (by simp[a0]),if_neg (by simp[a1]),if_neg (by simp[a2]),if_pos (show zh6 (sig1 t)≠0 from h)];rfl
 |4,_=>
  have a0:zoJ t=0:=h0 0 (by omega);have a1:zdr t=0:=h0 1 (by omega);have a2:zeu (fitE (sig1 t)) (zju t.S t.V).2.1=0:=h0 2 (by omega);have a3:zh6 (sig1 t)=0:=h0 3 (by omega);rw[if_neg (by simp[a0]),if_neg (by simp[a1]),if_neg (by simp[a2]),if_neg (by simp[a3])];rw[cod4]at h⊢;cases e:zoL t (zic (sig1 t))with
  |none=>rfl
  |some r=>rw[e]at h;exact absurd rfl h
 |5,_=>
  have a0:zoJ t=0:=h0 0 (by omega);have a1:zdr t=0:=h0 1 (by omega);have a2:zeu (fitE (sig1 t)) (zju t.S t.V).2.1=0:=h0 2 (by omega);have a3:zh6 (sig1 t)=0:=h0 3 (by omega);rw[if_neg (by simp[a0]),if_neg (by simp[a1]),if_neg (by simp[a2]),if_neg (by simp[a3])];have a4:=h0 4 (by omega);rw[cod4]at a4;rw[cod5]at h⊢;cases e:zoL t (zic (sig1 t))with
  |none=>rw[e]at a4;exact absurd a4 (by decide)
  |some r=>
   rw[e]at h;obtain⟨P,en⟩:=r;dsimp only at h⊢;rw[if_pos h]
theorem zbH {t:Tr} (h0:∀j<6,cod t j=0):(zbx t).2=0∧∃P en,zoL t (zic (sig1 t))=some (P,en)∧(zbx t).1=⟨t.sc,t.dt,t.vn,t.cm,(zju t.S t.V).1,(zju t.S t.V).2.1,clrL P en (zic (sig1 t)),P,en⟩:=by
 have a0:zoJ t=0:=h0 0 (by omega);have a1:zdr t=0:=h0 1 (by omega);have a2:zeu (fitE (sig1 t)) (zju t.S t.V).2.1=0:=h0 2 (by omega);have a3:zh6 (sig1 t)=0:=h0 3 (by omega);have a4:=h0 4 (by omega);have a5:=h0 5 (by omega);rw[cod4]at a4;rw[cod5]at a5;unfold zbx;rw[if_neg (by simp[a0]),if_neg (by simp[a1]),if_neg (by simp[a2]),if_neg (by simp[a3])];cases e:zoL t (zic (sig1 t))with
 |none=>rw[e]at a4;exact absurd a4 (by decide)
 |some r=>
  rw[e]at a5;obtain⟨P,en⟩:=r;dsimp only at a5⊢;rw[if_neg (by simp[a5])];exact⟨rfl,P,en,rfl,rfl⟩
theorem zoS {t:Tr} (h:FB t) (hn:zh6 (sig1 t)=0) {P:List Gp} {en:Int} (e:zoL t (zic (sig1 t))=some (P,en)):P.length≤1000∧(∀g∈P,g.2≤1099511627777)∧en≤1099511627776:=by
 unfold zoL at e;split at e
 ·cases e
 ·rename_i hen
  cases hg:zeV 0 [] t.en t.P with
  |none=>rw[hg]at e;cases e
  |some r=>
   rw[hg]at e;obtain⟨P2,en2⟩:=r;injection e with e;injection e with e1 e2;subst e1;have h1:=zeZ _ _ _ _ _ _ hg;obtain⟨⟨c,hc⟩,-,-,h4,-⟩:=ze0 _ _ _ _ _ _ hg ⟨trivial,(fun g hg=>by cases hg),(fun g hg=>by cases hg)⟩ (fun x hx=>by cases hx);refine⟨by have:=h.p;simp at h1;show P2.length≤1000;omega,hc.most,?_⟩
   have hl:∀(G:List Sg) (e0:Int),e0≤1099511627776→(∀s∈G,∀c∈s.2.2,c.1≤1099511627776)→zg0 G e0≤1099511627776:=by
    intro G;induction G with
    |nil=>intro e0 h0 _;exact h0
    |cons s G ih=>
     intro e0 h0 hG;unfold zg0;rw[List.foldl_cons];refine ih _ ?_ (fun s hs=>hG s (List.mem_cons_of_mem _ hs));cases hl:s.2.2.getLast? with
     |none=>exact h0
     |some c=>
      have:=hG s (List.mem_cons_self ..) c (List.mem_of_getLast? hl);exact Int.max_le.2 ⟨h0,this⟩
   rw[←e2];refine hl _ _ (by omega) (fun s hs c hc=>?_);have h5:=(zii h hn s hs).2.2;exact(zoi h5 c hc).2.1
end Go.Proofs.YtbiadennhnokhaaGreatDoor
