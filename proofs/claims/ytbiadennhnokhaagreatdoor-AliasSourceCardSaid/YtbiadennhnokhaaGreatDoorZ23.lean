import Derived.Test.YtbiadennhnokhaaGreatDoorZ00
import Derived.Test.YtbiadennhnokhaaGreatDoorZ22
set_option maxRecDepth 100000
set_option maxHeartbeats 16000000
namespace Go.Proofs.YtbiadennhnokhaaGreatDoor
def mvC (f:ByteArray→ByteArray) (c:Ch):Ch:=(c.1,f c.2)
theorem zd9 (f:ByteArray→ByteArray):∀l:List Ch,zd7 (btG f) l=l.map (mvC f)
 | []=>rfl
 |c::l=>by
  have ih:=zd9 f l;unfold zd7 at ih⊢;rw[List.filterMap_cons,List.map_cons,ih];rfl
theorem zp7 (f:ByteArray→ByteArray) (t:Int):∀(l:List Ch) (v:ByteArray),val (f v) (l.map (mvC f)) t=f (val v l t)
 | [],_=>rfl
 |c::l,v=>by
  rw[List.map_cons,zp0,zp0,←zp7 f t l];congr 1
  by_cases h:c.1≤t
  ·rw[if_pos h,if_pos (show(mvC f c).1≤t from h)];rfl
  ·rw[if_neg h,if_neg (show ¬(mvC f c).1≤t from h)]
theorem zh3 {f:ByteArray→ByteArray}:∀{l:List Ch} {a:Int},zan a l→zan a (l.map (mvC f))
 | [],_,_=>trivial
 |_::_,_,⟨h1,h2⟩=>⟨h1,zh3 h2⟩
theorem vv0 {n:Int} {s:ByteArray} (h:vv 0 n s=true):bvIs s=true∧(s.size:Int)=n:=by
 unfold vv at h;have h:=(Bool.and_eq_true _ _▸h).2;rw[if_pos rfl]at h;have h:=Bool.and_eq_true _ _▸h;exact⟨h.1,of_decide_eq_true h.2⟩
theorem zqW {s:ByteArray} (h:bvIs s=true):vv 0 s.size s=true:=by
 have h2:1≤s.size∧s.size≤128:=by
  unfold bvIs at h;simp only[Bool.and_eq_true,decide_eq_true_iff]at h;exact h.1
 unfold vv vt;simp[h];omega
theorem zcc {s:ByteArray}:bvIs s=true↔1≤s.size∧s.size≤128∧∀c∈s.data.toList,zc0 c≠ -1:=by
 unfold bvIs;simp only[Bool.and_eq_true,decide_eq_true_iff,List.all_eq_true,bne_iff_ne,and_assoc]
theorem zbn {a b:ByteArray} (h:a.data.toList=b.data.toList):a=b:=(zbm a _ h).trans (zbm b _ rfl).symm
theorem zgE (c:UInt8):zc0 (invB c)≠ -1:=by
 rcases zgG c with⟨-,h⟩|⟨-,h⟩|⟨-,h⟩|⟨-,h⟩<;>rw[h]<;>decide
theorem zcb {s:ByteArray} (h:bvIs s=true):(zb9 s).data.toList=s.data.toList.map invB:=by unfold zb9;rw[if_pos h]
theorem zbp (s:ByteArray):s.size=s.data.toList.length:=by simp
theorem zca {s:ByteArray} (h:bvIs s=true):bvIs (zb9 s)=true∧(zb9 s).size=s.size:=by
 have hl:=zcb h;have hs:(zb9 s).size=s.size:=by rw[zbp,hl,List.length_map,←zbp]
 refine⟨zcc.2 ⟨by have:=(zcc.1 h).1;omega,by have:=(zcc.1 h).2.1;omega,fun c hc=>?_⟩,hs⟩;rw[hl]at hc;obtain⟨d,-,rfl⟩:=List.mem_map.1 hc;exact zgE d
theorem zqY {n:Int} {s:ByteArray} (h:vv 0 n s=true):vv 0 n (zb9 s)=true:=by
 obtain⟨h1,h2⟩:=vv0 h;obtain⟨h3,h4⟩:=zca h1;have:=zqW h3;rw[h4,h2]at this;exact this
theorem vi0 {n:Int} (h:vt 0 n=true):(vi 0 n).data.toList=List.replicate n.toNat 120∧bvIs (vi 0 n)=true∧((vi 0 n).size:Int)=n:=by
 obtain⟨h1,h2⟩:=vv0 (zq1 h);refine⟨?_,h1,h2⟩;have hv:=h;unfold vt at hv;have h3:1≤n∧n≤128:=by simpa using hv
 unfold vi;rw[if_pos h,if_pos rfl];unfold allR
 rw[if_neg (by rw[show zc0 120=2 from by decide];omega)]
theorem zgI {n:Int} (h:vt 0 n=true):zb9 (vi 0 n)=vi 0 n:=by
 obtain⟨h1,h2,-⟩:=vi0 h;apply zbn;rw[zcb h2,h1,List.map_replicate];rfl
theorem zh1 {n w:Int} {l:List Ch} {f:ByteArray→ByteArray} (h:sv 0 n l=true) (hw:vt 0 w=true) (hf:∀s,vv 0 n s=true→vv 0 w (f s)=true):Nrm 0 w (l.map (mvC f)):=by
 have hN:=zoF h;refine⟨hw,by rw[List.length_map];exact hN.2.1,zh3 hN.2.2.1,fun c hc=>?_⟩;obtain⟨d,hd,rfl⟩:=List.mem_map.1 hc;exact⟨(hN.2.2.2 d hd).1,hf _ (hN.2.2.2 d hd).2⟩
theorem zgH {n:Int} {l:List Ch} (h:sv 0 n l=true):∃q,invR 0 n l=((0,n,q),0)∧sv 0 n q=true∧q.length≤l.length∧∀t,val (vi 0 n) q t=zb9 (val (vi 0 n) l t):=by
 have hv:=(zoI.1 h).1;have hN:=zh1 (f:=zb9) h hv (fun s hs=>zqY hs);refine⟨zi2 0 n (l.map (mvC zb9)),?_,hN.sv,?_,fun t=>?_⟩
 ·unfold invR;rw[if_neg (by rw[h];simp),if_neg (by simp),zd9,hN.made]
 ·have:=ziV 0 (l.map (mvC zb9)) (vi 0 n);rw[List.length_map]at this;exact this
 ·rw[hN.val];conv=>lhs;rw[←zgI hv]
  exact zp7 zb9 t l _
def SlOk (n from_ width:Int):Prop:=0≤from_∧1≤width∧width≤n∧from_≤n-width
theorem zng {n from_ width:Int} {s:ByteArray} (h:vv 0 n s=true):(slR s from_ width).2=0↔SlOk n from_ width:=by
 obtain⟨h1,h2⟩:=vv0 h;unfold slR SlOk;rw[if_neg (by rw[h1];simp)];split
 ·rename_i hc
  exact⟨fun h=>by simp at h,fun h=>by omega⟩
 ·rename_i hc
  exact⟨fun _=>by omega,fun _=>rfl⟩
theorem znc {n from_ width:Int} {s:ByteArray} (h:vv 0 n s=true) (hc:SlOk n from_ width):
 (slB from_ width s).data.toList=(s.data.toList.drop (n.toNat-from_.toNat-width.toNat)).take width.toNat:=by
 obtain⟨h1,h2⟩:=vv0 h;unfold SlOk at hc;unfold slB slR;rw[if_neg (by rw[h1];simp),if_neg (by omega)];show(s.extract _ _).data.toList=_;rw[Lib.extract_data];have:s.size=n.toNat:=by omega
 rw[this];congr 1
 omega
theorem zq0 {n from_ width:Int} {s:ByteArray} (h:vv 0 n s=true) (hc:SlOk n from_ width):vv 0 width (slB from_ width s)=true:=by
 have hl:=znc h hc;obtain⟨h1,h2⟩:=vv0 h;obtain⟨i1,i2,i3⟩:=zcc.1 h1;have hc':=hc;unfold SlOk at hc'
 have hs:(slB from_ width s).size=width.toNat:=by
  rw[zbp,hl,List.length_take,List.length_drop,←zbp];omega
 have hb:bvIs (slB from_ width s)=true:=zcc.2 ⟨by omega,by omega,fun c hcm=>by
  rw[hl]at hcm;exact i3 c (List.mem_of_mem_drop (List.mem_of_mem_take hcm))⟩
 have:=zqW hb;rw[hs,show((width.toNat:Nat):Int)=width by omega]at this;exact this
theorem znd {n from_ width:Int} (h:vt 0 n=true) (hc:SlOk n from_ width):vt 0 width=true∧slB from_ width (vi 0 n)=vi 0 width:=by
 have hv:=zq1 h;have hw:=zq2 (zq0 hv hc);refine⟨hw,zbn ?_⟩;rw[znc hv hc,(vi0 h).1,(vi0 hw).1,List.drop_replicate,List.take_replicate];unfold SlOk at hc;congr 1
 omega
theorem zni {n:Int} {l:List Ch} {from_ width:Int} (h:sv 0 n l=true):znh 0 n l from_ width=((0,0,[]),2)∨SlOk n from_ width:=by
 have hz:=zng (from_:=from_) (width:=width) (zq1 (zoI.1 h).1);by_cases hc:SlOk n from_ width
 ·exact .inr hc
 ·refine .inl ?_;unfold znh;rw[if_neg (by rw[h];simp),if_neg (by simp),if_pos (fun e=>hc (hz.1 e))]
theorem znk {n:Int} {l:List Ch} {from_ width:Int} (h:sv 0 n l=true) (hc:SlOk n from_ width):
 ∃p,znh 0 n l from_ width=((0,width,p),0)∧sv 0 width p=true∧p.length≤l.length∧∀t,val (vi 0 width) p t=slB from_ width (val (vi 0 n) l t):=by
 have hv:=(zoI.1 h).1;obtain⟨hw,hvi⟩:=znd hv hc;have hN:=zh1 (f:=slB from_ width) h hw (fun s hs=>zq0 hs hc);refine⟨zi2 0 width (l.map (mvC (slB from_ width))),?_,hN.sv,?_,fun t=>?_⟩
 ·unfold znh;have hz:=(zng (from_:=from_) (width:=width) (zq1 hv)).2 hc;rw[if_neg (by rw[h];simp),if_neg (by simp),if_neg (fun e=>e hz),zd9,hN.made]
 ·have:=ziV 0 (l.map (mvC (slB from_ width))) (vi 0 width);rw[List.length_map]at this;exact this
 ·rw[hN.val];conv=>lhs;rw[←hvi]
  exact zp7 (slB from_ width) t l _
open Go.RowKit
set_option linter.unusedSimpArgs false
def Glm (w:World):Prop:=∃m,w.cell? ⟨0,0,none⟩=some (.int .i64 m)
theorem Glm.below {w w':World} (h:Glm w) (hb:Below w.heap.size w w'):Glm w':=by
 obtain⟨m,hm⟩:=h;exact⟨m,(hb.cell (p:=⟨0,0,none⟩) (zcn hm)).trans hm⟩
theorem zlf (s:ByteArray) (w:World) (hm:s.size≤1000000):Calls Tryz.prog 257 #[.string s] w fun e w'=>e=.returned (.bool (zrf s.data.toList))∧Below w.heap.size w w':=by
 have hP:=lhd (zlh s);by_cases h0:s.size=0
 ·have HR:=lhd (show false=zrf s.data.toList by
   have:s.data.toList=[]:=by rw[←List.length_eq_zero_iff];simpa using h0
   rw[this];rfl)
  have hb:(s==(⟨#[]⟩:ByteArray))=true:=by
   have:s=⟨#[]⟩:=by cases s with|mk d=>congr;exact Array.eq_empty_of_size_eq_zero h0
   rw[this];rfl
  obtain rfl:s=⟨#[]⟩:=by cases s with|mk d=>congr;exact Array.eq_empty_of_size_eq_zero h0
  go_enter Tryz.func257,Tryz.ntmps257;go_wp2_with fail;go_ret;exact⟨zlE HR.out,Below.refl _ _⟩
 ·have hne:decide (s=(⟨#[]⟩:ByteArray))=false:=by
   rw[decide_eq_false_iff_not];rintro rfl;exact h0 rfl
  have hlt:0<s.size:=by omega
  have hte:=zpg h0;have htn:¬s.toList=[]:=by intro h;rw[h]at hte;cases hte
  have hW:zrf s.data.toList=(!decide (s[0]'hlt=36)&&s.data.toList.all prn):=by
   unfold zrf
   have h1:s.data.toList≠ []:=by
    intro h;apply h0;have:=congrArg List.length h;simpa using this
   rw[decide_eq_false h1]
   have h2:s.data.toList.head? =some (s[0]'hlt):=by
    rw[List.head?_eq_getElem?,List.getElem?_eq_getElem (by simpa using hlt)];rfl
   rw[h2];simp
  have hu:(((s[0]'hlt).toNat:Int)==36)=decide (s[0]'hlt=36):=zpE (s[0]'hlt) 36 (by omega);by_cases hc:s[0]'hlt=36
  ·have HR:=lhd (show false=zrf s.data.toList by rw[hW,decide_eq_true hc];rfl);rw[decide_eq_true hc]at hu;have hcn:(s[0]'hlt).toNat=36:=by rw[hc];rfl
   clear hW hc;go_enter Tryz.func257,Tryz.ntmps257;go_wp2_with fail;go_ret;exact⟨zlE HR.out,Below.refl _ _⟩
  ·have HR:=lhd (show s.data.toList.all prn=zrf s.data.toList by rw[hW,decide_eq_false hc];rfl);rw[decide_eq_false hc]at hu;have hcn:¬((s[0]'hlt).toNat:Int)=36:=by simpa using hu
   clear hW hc;go_enter Tryz.func257,Tryz.ntmps257;go_wp2_with fail;refine(hP.out _).mono ?_;rintro e w1 ⟨rfl,hb⟩;rw[HR.out];go_wp2_with fail;go_ret;exact⟨zlE (by simp[bne,hu]),hb⟩
theorem znv:∀(s cur:Bs),∀y∈spl s cur,y.length≤cur.length+s.length
 | [],cur,y,h=>by
   rw[show spl [] cur=[cur]from rfl,List.mem_singleton]at h;subst h;simp
 |c::t,cur,y,h=>by
  unfold spl at h;split at h
  ·rcases List.mem_cons.1 h with rfl|h
   ·omega
   ·have:=znv t [] y h;simp at this⊢;omega
  ·have:=znv t _ y h;simp at this⊢;omega
def zg3 (L:List ByteArray):Int:=if L.all (fun x=>zrf x.data.toList)=true then if 200<(Lib.join (L.map (·.data.toList)) [32]).length then 9 else 0 else 3
theorem zlc (g:Nat) (L:List ByteArray) (w:World) (hc:∀(j:Nat) x,L[j]? =some x→w.cell? ⟨g,j,none⟩=some (.string x)) (hg:g<w.heap.size) (hL:L.length≤1000000)
 (hx:∀x∈L,x.size≤1000000) (hz:(Lib.join (L.map (·.data.toList)) [32]).length≤1000000):
 Calls Tryz.prog 201 #[.slice (some ⟨g,0,none⟩) L.length L.length] w fun e w'=>
  (∃s,e=.returned (.tuple #[.string s,.int .i64 (zg3 L)]))∧Below w.heap.size w w':=by
 have HC:=lhd hc;have HX:=lhd hx;obtain⟨J,hJ⟩:∃J,J=Lib.join (L.map (·.data.toList)) [32]:=⟨_,rfl⟩;rw[←hJ]at hz;have HJ:=lhd hJ
 have HJoin:=lhd (fun(W:World) (hb:Below w.heap.size w W)=>Tryz.strings_Join g 0 L.length L ⟨#[32]⟩ W (fun j x h=>by rw[Nat.zero_add];exact(hb.cell (p:=⟨g,j,none⟩) hg).trans (hc j x h)) (Nat.lt_of_lt_of_le hg hb.size) (by omega) (Nat.le_refl _) (by
  show(Lib.join (L.map (·.data.toList)) [32]).length≤_;rw[←hJ];omega))
 clear hc hx hJ;have HB0:=lhd (Below.refl w.heap.size w);go_enter Tryz.func201,Tryz.ntmps201;go_wp2_with fail;go_loopw [9] (fun i wr=>∃k:Nat,k≤L.length∧i=.int .i64 k∧(L.take k).all (fun x=>zrf x.data.toList)=true∧Below w.heap.size w wr) (fun i _=>L.length-(intOf i).toNat)
 case atStart=>exact⟨0,Nat.zero_le _,rfl,rfl,HB0.out⟩
 case round=>
  obtain⟨k,hk,rfl,hal,hb⟩:=hrel;have HB:=lhd hb;have HA:=lhd hal;clear hal hb;by_cases hlt:k<L.length
  ·have d0:wr.cell? ⟨g,k,none⟩=some (.string L[k]):=(HB.out.cell (p:=⟨g,k,none⟩) hg).trans (HC.out k _ (List.getElem?_eq_getElem hlt));have HW:=lhd (zlf L[k] wr (HX.out _ (List.getElem_mem hlt)));by_cases hw:zrf L[k].data.toList=true
   ·rw[hw]at HW
    have HA2:=lhd (show(L.take (k+1)).all (fun x=>zrf x.data.toList)=true by
     rw[List.take_succ_eq_append_getElem hlt,List.all_append,HA.out];simp[hw])
    clear hw;generalize L[k]=x at*;go_wp2_with fail;refine HW.out.mono ?_;rintro e w1 ⟨rfl,hb1⟩;have HB1:=lhd (HB.out.trans (hb1.mono HB.out.size));clear hb1;go_wp2_with fail;go_roundw;case rel=>exact⟨k+1,hlt,by go_num,HA2.out,HB1.out⟩
    case measure=>simp[intOf];omega
   ·have hwf:zrf L[k].data.toList=false:=by simpa using hw
    rw[hwf]at HW
    have HR:=lhd (show(3:Int)=zg3 L by
     unfold zg3;rw[←HJ.out];rw[if_neg];intro h;rw[List.all_eq_true]at h;exact hw (h _ (List.getElem_mem hlt)))
    clear hw hwf;generalize L[k]=x at*;go_wp2_with fail;refine HW.out.mono ?_;rintro e w1 ⟨rfl,hb1⟩;have HB1:=lhd (HB.out.trans (hb1.mono HB.out.size));clear hb1;go_wp2_with fail;refine bodyPost_ret (v:=.tuple #[.string ⟨#[]⟩,.int .i64 3]) (by simp[results,Tryz.results201,go_sem]) rfl ?_;exact⟨⟨_,by rw[←HR.out]⟩,HB1.out⟩
  ·obtain rfl:k=L.length:=by omega
   have hal:L.all (fun x=>zrf x.data.toList)=true:=by have:=HA.out;rwa [List.take_length]at this
   have HAL:=lhd hal;clear hal hlt;obtain⟨SS,hSS⟩:∃SS:ByteArray,SS=⟨(Lib.join (L.map (·.data.toList)) [32]).toArray⟩:=⟨_,rfl⟩;have hsz:SS.size=J.length:=by rw[hSS,HJ.out];rfl
   have HJN:=HJoin.out wr HB.out;rw[show(Lib.join (L.map (·.data.toList)) (⟨#[32]⟩:ByteArray).data.toList)=(Lib.join (L.map (·.data.toList)) [32])from rfl,←hSS]at HJN;have HJN:=lhd HJN;clear hSS;by_cases h200:200<J.length
   ·have h2:(200:Int)<(SS.size:Int):=by omega
    have HR:=lhd (show(9:Int)=zg3 L by
     unfold zg3;rw[←HJ.out];rw[if_pos HAL.out,if_pos h200])
    clear h200 hsz;go_wp2_with fail;refine HJN.out.mono ?_;rintro e w1 ⟨rfl,hb1⟩;have HB1:=lhd (HB.out.trans (hb1.mono HB.out.size));clear hb1;go_wp2_with fail;refine bodyPost_ret (v:=.tuple #[.string ⟨#[]⟩,.int .i64 9]) (by simp[results,Tryz.results201,go_sem]) rfl ?_;exact⟨⟨_,by rw[←HR.out]⟩,HB1.out⟩
   ·have h2:¬(200:Int)<(SS.size:Int):=by omega
    have HR:=lhd (show(0:Int)=zg3 L by
     unfold zg3;rw[←HJ.out];rw[if_pos HAL.out,if_neg h200])
    clear h200 hsz;go_wp2_with fail;refine HJN.out.mono ?_;rintro e w1 ⟨rfl,hb1⟩;have HB1:=lhd (HB.out.trans (hb1.mono HB.out.size));clear hb1;go_wp2_with fail;refine bodyPost_ret (v:=.tuple #[.string SS,.int .i64 0]) (by simp[results,Tryz.results201,go_sem]) rfl ?_;exact⟨⟨_,by rw[←HR.out]⟩,HB1.out⟩
theorem zle (s:ByteArray) (w:World) (hm:s.size≤100000) (hg:Glm w):Calls Tryz.prog 161 #[.string s] w fun e w'=>
 (∃v,e=.returned v∧((s.data.toList≠ []∧zrg s.data.toList=true∧∃g n,v=.slice (some ⟨g,0,none⟩) (n+1) (n+1))∨(v=.slice none 0 0∧(s.data.toList=[]∨zrg s.data.toList=false))))∧Below w.heap.size w w':=by
 by_cases h0:s.size=0
 ·obtain rfl:s=⟨#[]⟩:=by cases s with|mk d=>congr;exact Array.eq_empty_of_size_eq_zero h0
  go_enter Tryz.func161,Tryz.ntmps161;go_wp2_with fail;go_ret;exact⟨⟨_,rfl,Or.inr ⟨rfl,by simp⟩⟩,Below.refl _ _⟩
 ·have hte:=zpg h0;have htn:¬s.toList=[]:=by intro h;rw[h]at hte;cases hte
  have hne:¬s=(⟨#[]⟩:ByteArray):=by rintro rfl;exact h0 rfl
  obtain⟨m,hm0⟩:=hg;have HSP:=lhd (Tryz.strings_Split s ⟨#[32]⟩ m w (by omega) hm0 (by decide))
  have hl0:s.data.toList≠ []:=by
   intro h;apply h0;have:=congrArg List.length h;simpa using this
  have HL0:=lhd hl0;have hs:s=bsB s.data.toList:=by obtain⟨⟨l⟩⟩:=s;rfl
  have hall:Lib.splitB ⟨#[32]⟩ 0 (Lib.countB s ⟨#[32]⟩) s=(spl s.data.toList []).map bsB:=by
   conv=>lhs;rw[hs]
   exact znx s.data.toList
  have hct:Lib.countB s ⟨#[32]⟩+1=(spl s.data.toList []).length:=by
   rw[←Lib.splitB_all ⟨#[32]⟩ (by decide) 0 _ s rfl,hall,List.length_map]
  rw[hall,hct]at HSP;obtain⟨L,hL⟩:∃L,L=(spl s.data.toList []).map bsB:=⟨_,rfl⟩;have hll:(spl s.data.toList []).length=L.length:=by rw[hL,List.length_map]
  rw[hll,←hL]at HSP
  have hlm:L.map (·.data.toList)=spl s.data.toList []:=by
   rw[hL,List.map_map];conv=>rhs;rw[←List.map_id (spl s.data.toList [])]
   rfl
  have hjn:Lib.join (L.map (·.data.toList)) [32]=s.data.toList:=by rw[hlm,znu]
  have hE:zg3 L=0↔zrg s.data.toList=true:=by
   unfold zg3 zrg;rw[hjn,decide_eq_false hl0,Bool.false_or,hL,List.all_map];have e1:((fun x=>zrf x.data.toList)∘bsB)=zrf:=by funext x;rfl
   rw[e1];by_cases h1:(spl s.data.toList []).all zrf=true
   ·rw[if_pos h1,h1];by_cases h2:200<s.data.toList.length
    ·rw[if_pos h2];simp;simpa using h2
    ·rw[if_neg h2];simp;simpa using h2
   ·rw[if_neg h1];simp[h1]
  have HE:=lhd hE;have hlen:L.length=s.data.toList.count 32+1:=by rw[←hll,znw]
  have hcz:s.data.toList.count 32≤s.size:=Nat.le_trans List.count_le_length (by simp);obtain⟨n,hn⟩:∃n,L.length=n+1:=⟨_,hlen⟩;have HN:=lhd hn
  have HJN:=lhd (fun(W:World)=>zlc w.heap.size L (w.alloc (.cells (L.map Value.string).toArray 9)) (fun j x h=>by
   have:=(zas.fresh w (L.map Value.string).toArray 9).cell (j:=j) (v:=.string x) (by simp[h])
   exact this) (by simp) (by omega) (fun x hx=>by
    rw[hL]at hx;obtain⟨y,hy,rfl⟩:=List.mem_map.1 hx;have:=znv _ _ y hy;have h2:(bsB y).size=y.length:=rfl;rw[h2];have h3:s.data.toList.length=s.size:=rfl;simp at this;omega) (by rw[hjn];simpa using (show s.size≤1000000 by omega)))
  have HNE:=lhd hlen;clear hE hlen hcz hjn hlm hll hL hct hall hs hl0 hn hm0;go_enter Tryz.func161,Tryz.ntmps161;go_wp2_with fail;refine HSP.out.mono ?_;rintro e w1 ⟨rfl,rfl⟩;have HB0:=lhd (show Below w.heap.size w (w.alloc (.cells (L.map Value.string).toArray 9))from(Below.refl _ _).alloc (Nat.le_refl _) _);have HJ1:=lhd (HJN.out w);clear HSP HJN;rw[HN.out];generalize w.alloc (.cells (L.map Value.string).toArray 9)=w1 at*;rw[HN.out]at HJ1;by_cases hw:zrg s.data.toList=true
  ·have hj:=HE.out.2 hw;rw[hj]at HJ1;have HW:=lhd hw;clear hw hj;go_wp2_with fail;refine HJ1.out.mono ?_;rintro e w2 ⟨⟨x,rfl⟩,hb⟩;have HB:=lhd (HB0.out.trans (hb.mono HB0.out.size));clear hb;go_wp2_with fail;go_ret;exact⟨⟨_,rfl,Or.inl ⟨HL0.out,HW.out,_,_,rfl⟩⟩,HB.out⟩
  ·have hj:¬zg3 L=0:=fun h=>hw (HE.out.1 h);have hj2:(zg3 L==0)=false:=by simpa using hj
   have HW:=lhd (show zrg s.data.toList=false by simpa using hw);clear hw;generalize zg3 L=q at*;go_wp2_with fail;refine HJ1.out.mono ?_;rintro e w2 ⟨⟨x,rfl⟩,hb⟩;have HB:=lhd (HB0.out.trans (hb.mono HB0.out.size));clear hb;go_wp2_with fail;go_ret;exact⟨⟨_,rfl,Or.inr ⟨rfl,Or.inr HW.out⟩⟩,HB.out⟩
theorem zld (s:ByteArray) (w:World) (hm:s.size≤100000) (hg:Glm w):Calls Tryz.prog 120 #[.string s] w fun e w'=>e=.returned (.bool (zrg s.data.toList))∧Below w.heap.size w w':=by
 have HWD:=lhd (zle s w hm hg);by_cases h0:s.size=0
 ·obtain rfl:s=⟨#[]⟩:=by cases s with|mk d=>congr;exact Array.eq_empty_of_size_eq_zero h0
  go_enter Tryz.func120,Tryz.ntmps120;go_wp2_with fail;go_ret;exact⟨rfl,Below.refl _ _⟩
 ·have hte:=zpg h0;have htn:¬s.toList=[]:=by intro h;rw[h]at hte;cases hte
  have hne:¬s=(⟨#[]⟩:ByteArray):=by rintro rfl;exact h0 rfl
  have hl0:s.data.toList≠ []:=by
   intro h;apply h0;have:=congrArg List.length h;simpa using this
  have HL:=lhd hl0;clear hl0;go_enter Tryz.func120,Tryz.ntmps120;go_wp2_with fail;refine HWD.out.mono ?_;rintro e w1 ⟨⟨v,rfl,hv⟩,hb⟩;have HB:=lhd hb;clear hb;rcases hv with⟨-,hv,g,n,rfl⟩|⟨rfl,hv⟩
  ·have HV:=lhd hv;clear hv;have hn:(0:Int)<((n+1:Nat):Int):=by omega
   have hn1:decide ((0:Int)<(n:Int)+1)=true:=by rw[decide_eq_true_iff];omega
   go_wp2_with fail;go_ret;exact⟨zlE HV.out.symm,HB.out⟩
  ·have HV:=lhd (show zrg s.data.toList=false by rcases hv with hv|hv;exact absurd hv HL.out;exact hv);clear hv;go_wp2_with fail;go_ret;exact⟨zlE HV.out.symm,HB.out⟩
theorem ze2 {α:Type} {f:α→Int}:∀{l:List α},ze0 f l=0↔ ∀x∈l,f x=0
 | []=>by simp[ze0]
 |x::l=>by
  unfold ze0;split
  ·rename_i h
   exact⟨fun h'=>absurd h' h,fun h'=>absurd (h' x (by simp)) h⟩
  ·rename_i h
   have h:f x=0:=by simpa using h
   rw[ze2];exact⟨fun h' y hy=>(List.mem_cons.1 hy).elim (fun e=>e▸h) (h' y),fun h' y hy=>h' y (List.mem_cons_of_mem _ hy)⟩
structure Built (t a:Tr) (P:List Gp) (en:Int):Prop where
 tx:zpa t=0
 dc:zdA t=0
 ft:∀v∈(zj2 t.S t.V).2.1,fitE (sig1 t) v=0
 nm:∀s∈sig1 t,(zi4 s.1 s.2.1 s.2.2).2=0
 tm:zpc t (ziY (sig1 t))=some (P,en)
 cl:zcN P en (ziY (sig1 t))=0
 eq:a=⟨t.sc,t.dt,t.vn,t.cm,(zj2 t.S t.V).1,(zj2 t.S t.V).2.1,clrL P en (ziY (sig1 t)),P,en⟩
theorem zb5 {t a:Tr} (h:zb4 t=(a,0)):∃P en,Built t a P en:=by
 unfold zb4 at h;split at h
 ·rename_i h1;injection h with _ h;exact absurd h h1
 split at h
 ·rename_i h1;injection h with _ h;exact absurd h h1
 split at h
 ·rename_i h1;injection h with _ h;exact absurd h h1
 split at h
 ·rename_i h1;injection h with _ h;exact absurd h h1
 rename_i h1 h2 h3 h4
 split at h
 ·injection h with _ h;exact absurd h (by decide)
 rename_i P en h5
 split at h
 ·rename_i h1;injection h with _ h;exact absurd h h1
 rename_i h6
 injection h with h _;exact⟨P,en,by simpa using h1,by simpa using h2,ze2.1 (by simpa using h3),ze2.1 (by unfold ziR at h4;simpa using h4),h5,by simpa using h6,h.symm⟩
theorem Built.build {t a:Tr} {P:List Gp} {en:Int} (h:Built t a P en):zb4 t=(a,0):=by
 obtain⟨h1,h2,h3,h4,h5,h6,h7⟩:=h;unfold zb4;have h3':=ze2.2 h3;have h4':ziR (sig1 t)=0:=ze2.2 h4;rw[if_neg (by simp[h1]),if_neg (by simp[h2]),if_neg (by simp[h3']),if_neg (by simp[h4']),h5];simp only;rw[if_neg (by simp[h6]),h7]
theorem zdC {t:Tr} (h:zdA t=0):zcw t.S t.V=0∧zj2 t.S t.V=(scF t.S,(vrF t.S t.V).1,(vrF t.S t.V).2,0)∧(∀n∈(vrF t.S t.V).2,n<(t.G.length:Int))∧(vrF t.S t.V).2.length≤64:=by
 unfold zdA at h;split at h
 ·rename_i h1;exact absurd h h1
 rename_i h1
 have e:zcw t.S t.V=0:=by
  unfold zj2 at h1;split at h1
  ·rename_i h2;exact absurd h2 h1
  ·rename_i h2;simpa using h2
 have e2:zj2 t.S t.V=(scF t.S,(vrF t.S t.V).1,(vrF t.S t.V).2,0):=by unfold zj2;rw[if_neg (by simp[e])]
 rw[e2]at h;split at h
 ·cases h
 rename_i h3
 split at h
 ·cases h
 rename_i h4
 refine⟨e,e2,fun n hn=>?_,by simpa using h4⟩;have h3:¬(vrF t.S t.V).2.any (fun n=>decide ((t.G.length:Int)≤n))=true:=h3;rw[Bool.not_eq_true,List.any_eq_false]at h3;have:=h3 n hn;simp at this;exact this
theorem zdB {t:Tr} {S:List Sc} {V:List Vr} {F:List Int} (h:zj2 t.S t.V=(S,V,F,0)) (h2:∀n∈F,n<(t.G.length:Int)) (h3:F.length≤64):zdA t=0:=by
 unfold zdA;rw[h];simp only;rw[if_neg (by simp),if_neg,if_neg (by omega)];rw[Bool.not_eq_true,List.any_eq_false];intro n hn;have:=h2 n hn;simp;omega
theorem zlO (G:List Sg):(rgI G.length).map (sgI G)=G:=by
 apply List.ext_getElem
 ·simp[rgI]
 ·intro i h1 h2;simp[rgI,sgI,List.getD,List.getElem?_eq_getElem h2]
theorem zi0 {G:List Sg} (h:∀s∈G,(zi4 s.1 s.2.1 s.2.2).2=0):(ziY G).map (fun s=>(s.1,s.2.1))=G.map fun s=>(s.1,s.2.1):=by
 unfold ziY;rw[List.map_map];refine List.map_congr_left fun s hs=>?_;have:=(zjr (h s hs)).1;simp[this]
theorem zi1 {G:List Sg} (h:∀s∈G,(zi4 s.1 s.2.1 s.2.2).2=0):∀s∈ziY G,sv s.1 s.2.1 s.2.2=true:=fun s hs=>by
 obtain⟨x,hx,rfl⟩:=List.mem_map.1 hs;have:=h x hx;rw[(zjr this).1];exact zjs this
theorem ziZ {G:List Sg} (h:∀s∈G,sv s.1 s.2.1 s.2.2=true):ziY G=G∧∀s∈G,(zi4 s.1 s.2.1 s.2.2).2=0:=by
 refine⟨?_,fun s hs=>by rw[zjo (h s hs)]⟩;unfold ziY;rw[List.map_congr_left (g:=id) (fun s hs=>by rw[zjo (h s hs)];rfl),List.map_id]
theorem ziD {a:Int}:∀{l:List Ch} {c:Ch},zan a l→l.getLast? =some c→(∀d∈l,d.1≤c.1)∧c∈l
 | [],_,_,h=>by cases h
 | [x],c,_,h=>by
   simp at h;subst h;exact⟨fun d hd=>by rw[List.mem_singleton]at hd;subst hd;omega,by simp⟩
 |x::y::l,c,h1,h=>by
  rw[List.getLast?_cons_cons]at h;obtain⟨h2,h3⟩:=ziD h1.2 h;refine⟨fun d hd=>?_,List.mem_cons_of_mem _ h3⟩;rcases List.mem_cons.1 hd with rfl|hd
  ·have:=h2 y (by simp);have:=h1.2.1;omega
  ·exact h2 d hd
theorem zhw (s:Sg) (G:List Sg) (en:Int):zhv (s::G) en=zhv G (match s.2.2.getLast? with
 |none=>en
 |some c=>max en c.1):=rfl
theorem zhx:∀(G:List Sg) (en:Int),en≤zhv G en
 | [],_=>Int.le_refl _
 |s::G,en=>by
  rw[zhw];cases s.2.2.getLast? with
  |none=>exact zhx G en
  |some c=>have:=zhx G (max en c.1);show en≤zhv G (max en c.1);omega
theorem zhz:∀(G:List Sg) (en:Int),(∀s∈G,zan 0 s.2.2)→∀s∈G,∀c∈s.2.2,c.1≤zhv G en
 | [],_,_,s,hs=>by cases hs
 |x::G,en,hn,s,hs=>by
  intro c hc;rw[zhw];rcases List.mem_cons.1 hs with rfl|hs
  ·cases hl:s.2.2.getLast? with
   |none=>rw[List.getLast?_eq_none_iff]at hl;rw[hl]at hc;cases hc
   |some d=>
    have:=(ziD (hn s (by simp)) hl).1 c hc;have:=zhx G (max en d.1);show c.1≤zhv G (max en d.1);omega
  ·exact zhz G _ (fun s hs=>hn s (List.mem_cons_of_mem _ hs)) s hs c hc
theorem zhy {B:Int}:∀(G:List Sg) (en:Int),en≤B→(∀s∈G,∀c∈s.2.2,c.1≤B)→zhv G en≤B
 | [],_,h,_=>h
 |s::G,en,h,hm=>by
  rw[zhw];refine zhy G _ ?_ (fun x hx=>hm x (List.mem_cons_of_mem _ hx));cases hl:s.2.2.getLast? with
  |none=>exact h
  |some c=>
   have:=hm s (by simp) c (List.mem_of_getLast? hl);show max en c.1≤B;omega
structure Times (P:List Gp) (en:Int) (G:List Sg):Prop where
 ok:zai 0 P
 most:∀g∈P,g.2≤1099511627777∧g.2-1≤en
 lo:0≤en
 hi:en≤1099511627776
 ch:∀s∈G,∀c∈s.2.2,c.1≤en
theorem zpd {t:Tr} {G:List Sg} {P:List Gp} {en:Int} (h:zpc t G=some (P,en)) (hs:∀s∈G,sv s.1 s.2.1 s.2.2=true):Times P en G∧t.en≤en∧∀u,inP P u=inP t.P u:=by
 unfold zpc at h;split at h
 ·cases h
 rename_i h1
 cases hg:zfm 0 [] t.en t.P with
 |none=>rw[hg]at h;cases h
 |some r=>
  obtain⟨Q,e⟩:=r;rw[hg]at h;injection h with h;injection h with h2 h3;subst h2;obtain⟨⟨c,ha⟩,q2,q3,q4,q5⟩:=zfq _ _ _ _ _ _ hg ⟨trivial,fun _ h=>by(cases h),fun _ h=>by(cases h)⟩ (fun _ h=>by(cases h));have hge:=zhx G e;have h3:zhv G e=en:=h3;refine⟨⟨ha.ok,fun g hg=>⟨ha.most g hg,by have:=q2 g hg;omega⟩,by omega,?_,fun s hs' c hc=>?_⟩,by omega,fun u=>by rw[q5];rfl⟩
  ·rw[←h3];exact zhy G e (by omega) (fun s hs' c hc=>(zoJ (hs s hs') c hc).2.1)
  ·rw[←h3];exact zhz G e (fun s hs'=>zoK (hs s hs')) s hs' c hc
theorem Times.f {t:Tr} {G:List Sg} {P:List Gp} {en:Int} (h:Times P en G) (h1:t.P=P) (h2:t.en=en):zpc t G=some (P,en):=by
 unfold zpc;rw[h1,h2,if_neg (by have:=h.lo;have:=h.hi;omega),zfo P 0 [] en (Int.le_refl _) h.ok (fun _ h=>by cases h) (fun x hx=>⟨(h.most x hx).2,(h.most x hx).1⟩) 0 (Int.le_refl _)];show some (([]:List Gp)++P,zhv G en)=some (P,en);have e:zhv G en=en:=Int.le_antisymm (zhy G en (Int.le_refl _) h.ch) (zhx G en);rw[e];rfl
theorem zfl {P:List Gp} {en:Int} {G:List Sg} (h:Times P en G) {g:Gp} (hg:g∈P):0≤g.1∧g.1≤en∧g.1<zfj en g∧(zfj en g≤1099511627776→zfj en g=g.2∧g.2≤en):=by
 have h1:=h.ok.mem g hg;have h2:=h.most g hg;have:=h.hi;refine⟨h1.1,by omega,(zfk h1.2 h2.1).1,fun h3=>?_⟩;unfold zfj at h3⊢;split at h3
 ·omega
 ·rw[if_neg (by omega)];omega
theorem zjE {P:List Gp} {en:Int} {G:List Sg} (h:Times P en G) {n:Int} {cs:List Ch} (hs:sv 0 n cs=true) (hc:∀c∈cs,c.1≤en):
 zan 0 (offL (vi 0 n) (fun t=>(atR 0 n cs t).1) en P cs)∧(∀c∈offL (vi 0 n) (fun t=>(atR 0 n cs t).1) en P cs,c.1≤en∧vv 0 n c.2=true)∧
 ∀u,0≤u→u≤1099511627776→val (vi 0 n) (offL (vi 0 n) (fun t=>(atR 0 n cs t).1) en P cs) u=if inG en P u=true then vi 0 n else val (vi 0 n) cs u:=by
 have hnd:=zoK hs;refine⟨zjz _ _ en h.hi P cs 0 0 (Int.le_refl _) h.ok h.most hnd,fun c hc'=>?_,fun u h0 hu=>?_⟩
 ·rcases zjy _ _ en h.hi P cs c hc' with h1|⟨g,hg,rfl⟩|⟨g,hg,rfl,h6⟩
  ·exact⟨hc c h1,(zoJ hs c h1).2.2⟩
  ·exact⟨(zfl h hg).2.1,zq1 (zoI.1 hs).1⟩
  ·obtain⟨q0,q1,q2,q3⟩:=zfl h hg;obtain⟨q4,q5⟩:=q3 h6;refine⟨by show zfj en g≤en;omega,?_⟩;show vv 0 n (atR 0 n cs (zfj en g)).1=true;rw[zbk hs (by omega) h6];exact zqr hs _
 ·refine zjC _ _ en h.hi u hu P cs _ 0 0 (Int.le_refl _) h.ok h.most hnd (fun g hg h6=>?_);obtain⟨q0,q1,q2,q3⟩:=zfl h hg;rw[zbk hs (by omega) h6]
theorem zjF {P:List Gp} {en:Int} {G:List Sg} (h:Times P en G) {n:Int} {cs:List Ch} (hs:sv 0 n cs=true) (hc:∀c∈cs,c.1≤en) (h0:(offF P en (0,n,cs)).2=0):
 ∃ds,offF P en (0,n,cs)=((0,n,ds),0)∧sv 0 n ds=true∧(∀c∈ds,c.1≤en)∧∀u,0≤u→u≤1099511627776→val (vi 0 n) ds u=if inG en P u=true then vi 0 n else val (vi 0 n) cs u:=by
 obtain⟨h1,h2,h3⟩:=zjE h hs hc;unfold offF at h0⊢;refine⟨_,(zjr h0).1,zjs h0,fun c hc'=>(h2 c ((ziX _ _ _).subset hc')).1,fun u hu0 hu=>?_⟩;rw[←h3 u hu0 hu];exact zp9 0 u _ _ 0 h1
theorem zjD {P:List Gp} {en:Int} {G:List Sg} (h:Times P en G) {n:Int} {cs:List Ch} (hs:sv 0 n cs=true) (hc:∀c∈cs,c.1≤en)
 (hx:∀u,0≤u→u≤1099511627776→inG en P u=true→val (vi 0 n) cs u=vi 0 n):offF P en (0,n,cs)=((0,n,cs),0):=by
 obtain⟨h1,h2,h3⟩:=zjE h hs hc;have hm:∀c∈offL (vi 0 n) (fun t=>(atR 0 n cs t).1) en P cs,c.1≤1099511627776∧vv 0 n c.2=true:=fun c hc'=>⟨by have:=(h2 c hc').1;have:=h.hi;omega,(h2 c hc').2⟩
 have e:zi2 0 n (offL (vi 0 n) (fun t=>(atR 0 n cs t).1) en P cs)=cs:=by
  refine zoD (k:=0) (n:=n) (by decide) _ _ (-1) (vi 0 n) (zoB 0 n _ _ (-1) (show zan (-1+1) _ from h1) hm) (zoI.1 hs).2.2 (fun u hu0 hu=>?_);rw[show val (vi 0 n) (zi2 0 n (offL (vi 0 n) (fun t=>(atR 0 n cs t).1) en P cs)) u=_ from zp9 0 u _ _ 0 h1,h3 u (by omega) hu];split
  ·rename_i hi;exact(hx u (by omega) hu hi).symm
  ·rfl
 unfold offF;rw[zjq (zoI.1 hs).1 h1 hm (by rw[e];exact(zoI.1 hs).2.1),e]
theorem zcP {P:List Gp} {en:Int} {G:List Sg} (h:zcN P en G=0):P.length≤16∧(∀s∈G,s.1=0→(offF P en s).2=0)∧zda (clrL P en G)≤4096:=by
 unfold zcN at h;split at h
 ·cases h
 rename_i h1
 split at h
 ·rename_i h2;exact absurd h h2
 rename_i h2
 split at h
 ·cases h
 rename_i h3
 have h2:clrE P en G=0:=by simpa using h2
 refine⟨by omega,fun s hs h0=>?_,by omega⟩;have:=ze2.1 h2 s hs;rwa [if_pos h0]at this
theorem zcO {P:List Gp} {en:Int} {G:List Sg} (h1:P.length≤16) (h2:∀s∈G,s.1=0→(offF P en s).2=0) (h3:zda (clrL P en G)≤4096):zcN P en G=0:=by
 unfold zcN
 have e:clrE P en G=0:=ze2.2 fun s hs=>by
  split
  ·rename_i h0;exact h2 s hs h0
  ·rfl
 rw[if_neg (by omega),if_neg (by simp[e]),if_neg (by omega)]
theorem Built.sigs {t a:Tr} {P:List Gp} {en:Int} (h:Built t a P en):Times P en (ziY (sig1 t))∧Times P en a.G∧(∀s∈a.G,sv s.1 s.2.1 s.2.2=true)∧a.G.map (fun s=>(s.1,s.2.1))=(sig1 t).map (fun s=>(s.1,s.2.1))∧
 (∀s∈a.G,s.1=0→∀u,0≤u→u≤1099511627776→inG en P u=true→val (vi 0 s.2.1) s.2.2 u=vi 0 s.2.1)∧P.length≤16∧zda a.G≤4096∧t.en≤en∧∀u,inP P u=inP t.P u:=by
 obtain⟨h1,h2,h3,h4,h5,h6,h7⟩:=h;have hN:=zi1 h4;obtain⟨hT,he,hi⟩:=zpd h5 hN;obtain⟨c1,c2,c3⟩:=zcP h6;have hNm:=zi0 h4;generalize ziY (sig1 t)=N at*
 have key:∀s∈N,s.1=0→∃ds,offF P en s=((0,s.2.1,ds),0)∧sv 0 s.2.1 ds=true∧(∀c∈ds,c.1≤en)∧∀u,0≤u→u≤1099511627776→inG en P u=true→val (vi 0 s.2.1) ds u=vi 0 s.2.1:=by
  rintro⟨k,n,cs⟩ hs h0;have h0:k=0:=h0;subst h0;obtain⟨ds,e1,e2,e3,e4⟩:=zjF hT (hN _ hs) (hT.ch _ hs) (c2 _ hs rfl);exact⟨ds,e1,e2,e3,fun u hu0 hu hx=>by rw[e4 u hu0 hu,if_pos hx]⟩
 have hG:a.G=clrL P en N:=by rw[h7]
 rw[hG]
 have hm:∀s∈clrL P en N,sv s.1 s.2.1 s.2.2=true∧(∀c∈s.2.2,c.1≤en)∧(s.1=0→∀u,0≤u→u≤1099511627776→inG en P u=true→val (vi 0 s.2.1) s.2.2 u=vi 0 s.2.1):=by
  intro s hs;obtain⟨x,hx,rfl⟩:=List.mem_map.1 hs;split
  ·rename_i h0
   obtain⟨ds,e1,e2,e3,e4⟩:=key x hx h0;rw[e1];exact⟨e2,e3,fun _=>e4⟩
  ·rename_i h0
   exact⟨hN x hx,hT.ch x hx,fun h=>absurd h h0⟩
 refine⟨hT,⟨hT.ok,hT.most,hT.lo,hT.hi,fun s hs=>(hm s hs).2.1⟩,fun s hs=>(hm s hs).1,?_,fun s hs=>(hm s hs).2.2,c1,c3,he,hi⟩;rw[←hNm];unfold clrL;rw[List.map_map];refine List.map_congr_left fun s hs=>?_;show _=(s.1,s.2.1);by_cases h0:s.1=0
 ·obtain⟨ds,e1,-⟩:=key s hs h0;simp only[Function.comp,e1,h0,if_true]
 ·simp only[Function.comp,if_neg h0]
theorem zjh:∀(l:List Vr) (fm:List Int),∃r,(numF fm l).2=fm++r
 | [],fm=>⟨[],by simp[numF]⟩
 |v::l,fm=>by
  by_cases hc:fm.contains v.sg=true
  ·rw[zi7 hc];exact zjh l fm
  ·rw[zi8 hc];obtain⟨r,hr⟩:=zjh l (fm++ [v.sg]);exact⟨v.sg::r,by rw[hr,List.append_assoc];rfl⟩
theorem zje:∀(l:List Vr) (fm:List Int),∀w∈(numF fm l).1,∃v∈l,w={v with sg:=w.sg}∧0≤w.sg∧(numF fm l).2[w.sg.toNat]? =some v.sg
 | [],_=>by intro v hv;cases hv
 |v::l,fm=>by
  intro w hw;by_cases hc:fm.contains v.sg=true
  ·rw[zi7 hc]at hw⊢;rcases List.mem_cons.1 hw with rfl|hw
   ·refine⟨v,by simp,rfl,by dsimp only;omega,?_⟩;obtain⟨r,hr⟩:=zjh l fm;have hi:=List.idxOf_lt_length_of_mem (List.contains_iff_mem.1 hc);show(numF fm l).2[((fm.idxOf v.sg:Nat):Int).toNat]? =some v.sg;rw[Int.toNat_natCast,hr,List.getElem?_append_left hi,List.getElem?_eq_getElem hi,List.getElem_idxOf]
   ·obtain⟨x,hx,h1,h2,h3⟩:=zje l fm w hw;exact⟨x,List.mem_cons_of_mem _ hx,h1,h2,h3⟩
  ·rw[zi8 hc]at hw⊢;rcases List.mem_cons.1 hw with rfl|hw
   ·refine⟨v,by simp,rfl,by dsimp only;omega,?_⟩;obtain⟨r,hr⟩:=zjh l (fm++ [v.sg]);show(numF (fm++ [v.sg]) l).2[(fm.length:Int).toNat]? =some v.sg;rw[Int.toNat_natCast,hr,List.append_assoc,List.getElem?_append_right (Nat.le_refl _),Nat.sub_self];rfl
   ·obtain⟨x,hx,h1,h2,h3⟩:=zje l _ w hw;exact⟨x,List.mem_cons_of_mem _ hx,h1,h2,h3⟩
theorem zjk:∀(l:List Vr) (fm:List Int) (n:Int),n∈(numF fm l).2→n∈fm∨∃v∈l,v.sg=n
 | [],_,_,h=> .inl h
 |v::l,fm,n,h=>by
  by_cases hc:fm.contains v.sg=true
  ·rw[zi7 hc]at h;rcases zjk l fm n h with h|⟨x,hx,e⟩
   ·exact .inl h
   ·exact .inr ⟨x,List.mem_cons_of_mem _ hx,e⟩
  ·rw[zi8 hc]at h;rcases zjk l _ n h with h|⟨x,hx,e⟩
   ·rcases List.mem_append.1 h with h|h
    ·exact .inl h
    ·rw[List.mem_singleton]at h;exact .inr ⟨v,by simp,h.symm⟩
   ·exact .inr ⟨x,List.mem_cons_of_mem _ hx,e⟩
structure ValidT (t:Tr):Prop where
 o:zj2 t.S t.V=(t.S,t.V,rgI t.G.length,0)
 c:zcw t.S t.V=0
 f:∀v∈t.V,fitE t.G v=0
 s:∀s∈t.G,sv s.1 s.2.1 s.2.2=true
 n:t.G.length≤64
 t:Times t.P t.en t.G
theorem zqv {t:Tr} (h:zqu t):ValidT t:=by
 obtain⟨P,en,hb⟩:=zb5 h;obtain⟨hTN,hT,hs,hmap,hx,h16,hct,-,hin⟩:=hb.sigs;obtain⟨b1,b2,b3,b4,b5,b6,b7⟩:=hb;obtain⟨d1,d2,d3,d4⟩:=zdC b2;obtain⟨o1,o2,o3⟩:=zj3 d1
 have eS:t.S=scF t.S:=by
  have:=congrArg Tr.S b7;rw[d2]at this;exact this
 have eV:t.V=(vrF t.S t.V).1:=by
  have:=congrArg Tr.V b7;rw[d2]at this;exact this
 have eP:t.P=P:=congrArg Tr.P b7;have ee:t.en=en:=congrArg Tr.en b7
 have hl:t.G.length=(vrF t.S t.V).2.length:=by
  have:=congrArg List.length hmap;rw[List.length_map,List.length_map]at this;rw[this];unfold sig1;rw[List.length_map,d2]
 have eF:(vrF t.S t.V).2=rgI t.G.length:=by
  rw[←eS,←eV]at o3;rw[hl];exact congrArg Prod.snd o3
 have hO:zj2 t.S t.V=(t.S,t.V,rgI t.G.length,0):=by rw[d2,←eS,←eV,eF]
 have hs1:sig1 t=t.G:=by unfold sig1;rw[hO];exact zlO t.G
 refine⟨hO,d1,fun v hv=>?_,hs,by rw[hl];exact d4,by rw[eP,ee];exact hT⟩;rw[hO,hs1]at b3;exact b3 v hv
theorem ze3:Fit []:=⟨by simp,fun c hc=>by cases hc⟩
theorem ze4 {l m:List Ch} (h:Fit l) (hm:m.Sublist l):Fit m:=⟨Nat.le_trans hm.length_le h.1,fun c hc=>h.2 c (hm.subset hc)⟩
theorem zqB (k n:Int):(vi k n).size≤1000:=by
 cases h:vt k n
 ·have:vi k n=⟨#[]⟩:=by simp[vi,h]
  rw[this];decide
 ·exact zqZ (zq1 h)
theorem zbl (k n:Int) (l:List Ch) (t:Int):(atR k n l t).1.size≤1000:=by
 unfold atR;split
 ·show(0:Nat)≤1000;omega
 split
 ·show(0:Nat)≤1000;omega
 ·rename_i h _
  have h2:sv k n l=true:=by simpa using h
  dsimp only;rw[zpR h2];exact zqZ (zqr h2 t)
theorem zjx (x:ByteArray) (at_:Int→ByteArray) (en:Int):∀(P:List Gp) (cs:List Ch),(offL x at_ en P cs).length≤cs.length+2*P.length
 | [],cs=>by simp[offL]
 |g::P,cs=>by
  rw[zjv];have h:=zjx x at_ en P ((cs.dropWhile fun c=>decide (c.1<g.1)).dropWhile fun c=>decide (c.1≤zfj en g));have h1:=(List.dropWhile_sublist (l:=cs.dropWhile fun c=>decide (c.1<g.1)) (fun c=>decide (c.1≤zfj en g))).length_le
  have h2:(cs.takeWhile fun c=>decide (c.1<g.1)).length+(cs.dropWhile fun c=>decide (c.1<g.1)).length=cs.length:=by
   rw[←List.length_append,List.takeWhile_append_dropWhile]
  have h3:(if zfj en g≤1099511627776 then [(zfj en g,at_ (zfj en g))]else []).length≤1:=by split<;>simp
  simp only[List.length_append,List.length_cons];omega
theorem zjw (k n:Int) (l:List Ch) (en:Int) (hen:en≤1099511627776) (P:List Gp) (hP:P.length≤1000) (hl:Fit l) (hl2:l.length≤100000):Fit (offL (vi k n) (fun t=>(atR k n l t).1) en P l):=by
 refine⟨by have:=zjx (vi k n) (fun t=>(atR k n l t).1) en P l;omega,fun c hc=>?_⟩;rcases zjy _ _ _ hen _ _ _ hc with h|⟨g,-,rfl⟩|⟨g,-,rfl,-⟩
 ·exact hl.2 c h
 ·have:=zqB k n;dsimp only;omega
 ·have:=zbl k n l (zfj en g);dsimp only;omega
theorem zaF (acc:List Gp) (g:Gp):(zaD acc g).length≤acc.length+1:=by
 rcases zno acc with rfl|⟨A,h,rfl⟩
 ·rw[zaG];simp
 ·rw[zaH];split<;>simp
theorem zfp:∀(l:List Gp) (b:Int) (acc:List Gp) (en:Int) (P:List Gp) (en':Int),zfm b acc en l=some (P,en')→P.length≤acc.length+l.length
 | [],b,acc,en,P,en',h=>by
   injection h with h;injection h with h1 h2;subst h1;simp
 |g::t,b,acc,en,P,en',h=>by
  rw[zfn]at h;split at h
  ·cases h
  ·have h1:=zfp t _ _ _ _ _ h;have h2:=zaF acc g;simp;omega
structure FB (t:Tr):Prop where
 tx:t.dt.length≤100000∧t.vn.length≤100000∧t.cm.length≤100000
 l:t.S.length≤1000∧t.V.length≤1000
 n:(∀s∈t.S,s.1.length≤100000)∧∀x∈t.V,x.nm.length≤100000
 g:∀s∈t.G,Fit s.2.2∧s.2.2.length≤100000
 p:t.P.length≤1000
theorem zmP {t:Tr} (h:FB t):∀s∈sig1 t,Fit s.2.2∧s.2.2.length≤100000:=by
 intro s hs;obtain⟨n,-,rfl⟩:=List.mem_map.1 hs;unfold sgI;by_cases hn:n.toNat<t.G.length
 ·unfold List.getD;rw[List.getElem?_eq_getElem hn];exact h.g _ (List.getElem_mem hn)
 ·unfold List.getD;rw[List.getElem?_eq_none (by omega)];exact⟨ze3,by simp⟩
theorem zdF {t:Tr} (hd:zdA t=0):(∀v∈(zj2 t.S t.V).2.1,0≤v.sg∧v.sg<(sig1 t).length)∧(sig1 t).length≤64∧(zj2 t.S t.V).2.1.length=t.V.length:=by
 obtain⟨-,hO,-,h64⟩:=zdC hd;have hs:(sig1 t).length=(vrF t.S t.V).2.length:=by unfold sig1;rw[List.length_map,hO]
 rw[hs,hO];refine⟨fun v hv=>?_,h64,?_⟩
 ·obtain⟨x,-,-,h0,hx⟩:=zje _ _ v hv;have:=(List.getElem?_eq_some_iff.1 hx).1;have h2:v.sg.toNat<(vrF t.S t.V).2.length:=this;exact⟨h0,by omega⟩
 ·have:=congrArg List.length (zjf (fun _:Vr=>(0:Int)) (fun _ _=>rfl) (vr2 t.S t.V) [])
  have h3:(vrF t.S t.V).1.length=(vr2 t.S t.V).length:=by
   unfold vrF;simpa using this
  show(vrF t.S t.V).1.length=_;rw[h3];unfold vr2;rw[zgN];simp[vr1]
theorem zi3 {t:Tr} (h:FB t) (hn:ziR (sig1 t)=0):∀s∈ziY (sig1 t),Fit s.2.2∧s.2.2.length≤4096∧sv s.1 s.2.1 s.2.2=true:=by
 intro s hs;obtain⟨x,hx,rfl⟩:=List.mem_map.1 hs
 have h0:∀(G:List Sg),ziR G=0→∀y∈G,(zi4 y.1 y.2.1 y.2.2).2=0:=by
  intro G;induction G with
  |nil=>intro _ y hy;cases hy
  |cons z G ih=>
   intro hG y hy;unfold ziR ze0 at hG;split at hG
   ·rename_i hz;exact absurd hG hz
   ·rename_i hz
    rcases List.mem_cons.1 hy with rfl|hy
    ·simpa using hz
    ·exact ih hG y hy
 have h1:=h0 _ hn x hx;obtain⟨e,-,-,-,h4⟩:=zjr h1;rw[e];exact⟨ze4 (zmP h x hx).1 (ziX _ _ _),h4,zjs h1⟩
def stg (t:Tr):Nat→Tr
 |0=>tr0
 |1=>{tr0 with sc:=t.sc,dt:=t.dt,vn:=t.vn,cm:=t.cm}
 |2=>{tr0 with sc:=t.sc,dt:=t.dt,vn:=t.vn,cm:=t.cm,S:=(zj2 t.S t.V).1,V:=(zj2 t.S t.V).2.1,G:=sig1 t}
 |3=>{tr0 with sc:=t.sc,dt:=t.dt,vn:=t.vn,cm:=t.cm,S:=(zj2 t.S t.V).1,V:=(zj2 t.S t.V).2.1,G:=sig1 t}
 |4=>{tr0 with sc:=t.sc,dt:=t.dt,vn:=t.vn,cm:=t.cm,S:=(zj2 t.S t.V).1,V:=(zj2 t.S t.V).2.1,G:=ziY (sig1 t)}
 |5=>match zpc t (ziY (sig1 t))with
  |none=>tr0
  |some (P,en)=>⟨t.sc,t.dt,t.vn,t.cm,(zj2 t.S t.V).1,(zj2 t.S t.V).2.1,ziY (sig1 t),P,en⟩
 |_=>(zb4 t).1
def cod (t:Tr):Nat→Int
 |0=>zpa t
 |1=>zdA t
 |2=>ze0 (fitE (sig1 t)) (zj2 t.S t.V).2.1
 |3=>ziR (sig1 t)
 |4=>match zpc t (ziY (sig1 t))with
  |none=>2
  |some _=>0
 |_=>match zpc t (ziY (sig1 t))with
  |none=>0
  |some r=>zcN r.1 r.2 (ziY (sig1 t))
theorem cod4 (t:Tr):cod t 4=match zpc t (ziY (sig1 t))with
 |none=>2
 |some _=>0:=rfl
theorem cod5 (t:Tr):cod t 5=match zpc t (ziY (sig1 t))with
 |none=>0
 |some r=>zcN r.1 r.2 (ziY (sig1 t)):=rfl
theorem zb6 {t:Tr} {k:Nat} (hk:k<6) (h0:∀j<k,cod t j=0) (h:cod t k≠0):(zb4 t).2=cod t k:=by
 unfold zb4;match k,hk with
 |0,_=>rw[if_pos (show zpa t≠0 from h)];rfl
 |1,_=>
  have a0:zpa t=0:=h0 0 (by omega);rw[if_neg (by simp[a0]),if_pos (show zdA t≠0 from h)];rfl
 |2,_=>
  have a0:zpa t=0:=h0 0 (by omega);have a1:zdA t=0:=h0 1 (by omega);rw[if_neg (by simp[a0]),if_neg (by simp[a1]),if_pos (show ze0 (fitE (sig1 t)) (zj2 t.S t.V).2.1≠0 from h)];rfl
 |3,_=>
  have a0:zpa t=0:=h0 0 (by omega);have a1:zdA t=0:=h0 1 (by omega);have a2:ze0 (fitE (sig1 t)) (zj2 t.S t.V).2.1=0:=h0 2 (by omega);rw[if_neg (by simp[a0]),if_neg (by simp[a1]),if_neg (by simp[a2]),if_pos (show ziR (sig1 t)≠0 from h)];rfl
 |4,_=>
  have a0:zpa t=0:=h0 0 (by omega);have a1:zdA t=0:=h0 1 (by omega);have a2:ze0 (fitE (sig1 t)) (zj2 t.S t.V).2.1=0:=h0 2 (by omega);have a3:ziR (sig1 t)=0:=h0 3 (by omega);rw[if_neg (by simp[a0]),if_neg (by simp[a1]),if_neg (by simp[a2]),if_neg (by simp[a3])];rw[cod4]at h⊢;cases e:zpc t (ziY (sig1 t))with
  |none=>rfl
  |some r=>rw[e]at h;exact absurd rfl h
 |5,_=>
  have a0:zpa t=0:=h0 0 (by omega);have a1:zdA t=0:=h0 1 (by omega);have a2:ze0 (fitE (sig1 t)) (zj2 t.S t.V).2.1=0:=h0 2 (by omega);have a3:ziR (sig1 t)=0:=h0 3 (by omega);rw[if_neg (by simp[a0]),if_neg (by simp[a1]),if_neg (by simp[a2]),if_neg (by simp[a3])];have a4:=h0 4 (by omega);rw[cod4]at a4;rw[cod5]at h⊢;cases e:zpc t (ziY (sig1 t))with
  |none=>rw[e]at a4;exact absurd a4 (by decide)
  |some r=>
   rw[e]at h;obtain⟨P,en⟩:=r;dsimp only at h⊢;rw[if_pos h]
theorem zb8 {t:Tr} (h0:∀j<6,cod t j=0):(zb4 t).2=0∧∃P en,zpc t (ziY (sig1 t))=some (P,en)∧(zb4 t).1=⟨t.sc,t.dt,t.vn,t.cm,(zj2 t.S t.V).1,(zj2 t.S t.V).2.1,clrL P en (ziY (sig1 t)),P,en⟩:=by
 have a0:zpa t=0:=h0 0 (by omega);have a1:zdA t=0:=h0 1 (by omega);have a2:ze0 (fitE (sig1 t)) (zj2 t.S t.V).2.1=0:=h0 2 (by omega);have a3:ziR (sig1 t)=0:=h0 3 (by omega);have a4:=h0 4 (by omega);have a5:=h0 5 (by omega);rw[cod4]at a4;rw[cod5]at a5;unfold zb4;rw[if_neg (by simp[a0]),if_neg (by simp[a1]),if_neg (by simp[a2]),if_neg (by simp[a3])];cases e:zpc t (ziY (sig1 t))with
 |none=>rw[e]at a4;exact absurd a4 (by decide)
 |some r=>
  rw[e]at a5;obtain⟨P,en⟩:=r;dsimp only at a5⊢;rw[if_neg (by simp[a5])];exact⟨rfl,P,en,rfl,rfl⟩
theorem zpe {t:Tr} (h:FB t) (hn:ziR (sig1 t)=0) {P:List Gp} {en:Int} (e:zpc t (ziY (sig1 t))=some (P,en)):P.length≤1000∧(∀g∈P,g.2≤1099511627777)∧en≤1099511627776:=by
 unfold zpc at e;split at e
 ·cases e
 ·rename_i hen
  cases hg:zfm 0 [] t.en t.P with
  |none=>rw[hg]at e;cases e
  |some r=>
   rw[hg]at e;obtain⟨P2,en2⟩:=r;injection e with e;injection e with e1 e2;subst e1;have h1:=zfp _ _ _ _ _ _ hg;obtain⟨⟨c,hc⟩,-,-,h4,-⟩:=zfq _ _ _ _ _ _ hg ⟨trivial,(fun g hg=>by cases hg),(fun g hg=>by cases hg)⟩ (fun x hx=>by cases hx);refine⟨by have:=h.p;simp at h1;show P2.length≤1000;omega,hc.most,?_⟩
   have hl:∀(G:List Sg) (e0:Int),e0≤1099511627776→(∀s∈G,∀c∈s.2.2,c.1≤1099511627776)→zhv G e0≤1099511627776:=by
    intro G;induction G with
    |nil=>intro e0 h0 _;exact h0
    |cons s G ih=>
     intro e0 h0 hG;unfold zhv;rw[List.foldl_cons];refine ih _ ?_ (fun s hs=>hG s (List.mem_cons_of_mem _ hs));cases hl:s.2.2.getLast? with
     |none=>exact h0
     |some c=>
      have:=hG s (List.mem_cons_self ..) c (List.mem_of_getLast? hl);exact Int.max_le.2 ⟨h0,this⟩
   rw[←e2];refine hl _ _ (by omega) (fun s hs c hc=>?_);have h5:=(zi3 h hn s hs).2.2;exact(zoJ h5 c hc).2.1
theorem zkv {cs:List Ch} {x y:Int} {c:Ch}:c∈zku cs x y↔c∈cs∧x≤c.1∧c.1≤y:=by
 unfold zku;simp
def zhr (G:List Sg) (e:Int):Int:=G.foldl (fun e s=>s.2.2.foldl (fun e c=>max e c.1) e) e
theorem zhs (s:Sg) (G:List Sg) (e:Int):zhr (s::G) e=zhr G (s.2.2.foldl (fun e c=>max e c.1) e):=rfl
theorem zis:∀(l:List Ch) (e:Int),e≤l.foldl (fun e c=>max e c.1) e∧∀c∈l,c.1≤l.foldl (fun e c=>max e c.1) e
 | [],_=>⟨Int.le_refl _,fun c h=>by cases h⟩
 |d::l,e=>by
  rw[List.foldl_cons];obtain⟨h1,h2⟩:=zis l (max e d.1);refine⟨by omega,fun c hc=>?_⟩;rcases List.mem_cons.1 hc with rfl|hc
  ·omega
  ·exact h2 c hc
theorem zht:∀(G:List Sg) (e:Int),e≤zhr G e∧∀s∈G,∀c∈s.2.2,c.1≤zhr G e
 | [],_=>⟨Int.le_refl _,fun s h=>by cases h⟩
 |x::G,e=>by
  rw[zhs];obtain⟨h1,h2⟩:=zht G (x.2.2.foldl (fun e c=>max e c.1) e);obtain⟨k1,k2⟩:=zis x.2.2 e;refine⟨by omega,fun s hs c hc=>?_⟩;rcases List.mem_cons.1 hs with rfl|hs
  ·have:=k2 c hc;omega
  ·exact h2 s hs c hc
theorem zit {B:Int}:∀(l:List Ch) (e:Int),e≤B→(∀c∈l,c.1≤B)→l.foldl (fun e c=>max e c.1) e≤B
 | [],_,h,_=>h
 |d::l,e,h,hc=>by
  rw[List.foldl_cons];exact zit l _ (by have:=hc d (by simp);omega) fun c hc'=>hc c (by simp[hc'])
theorem zhu {B:Int}:∀(G:List Sg) (e:Int),e≤B→(∀s∈G,∀c∈s.2.2,c.1≤B)→zhr G e≤B
 | [],_,h,_=>h
 |s::G,e,h,hc=>by
  rw[zhs];exact zhu G _ (zit _ _ h (hc s (by simp))) fun x hx=>hc x (by simp[hx])
def zlg (s:Sg) (g:Gp):Bool:=if s.1=0 then decide (val (vi s.1 s.2.1) s.2.2 g.1=vi s.1 s.2.1)&&decide ((zku s.2.2 (g.1+1) (g.2-1)).length=0)else true
def gapR (P:List Gp) (en:Int) (i:Nat):Prop:=∀h:i<P.length,0≤P[i].1∧P[i].1<P[i].2∧P[i].2≤en+1∧∀j,(hj:j+1=i)→P[j].2<P[i].1
structure ValidR (t:Tr):Prop where
 sc:¬(t.sc< -15∨2<t.sc)
 wd:(zrg t.dt&&zrg t.vn&&zrg t.cm)=true
 hr:∃m,HierR t.S t.V m
 n:t.G.length≤64
 lo:0≤t.en
 hi:t.en≤1099511627776
 p:t.P.length≤16
 f:∀v∈t.V,v.sg<(t.G.length:Int)∧fitE t.G v=0
 nm:t.V.foldl (fun a v=>max a (v.sg+1)) 0=(t.G.length:Int)
 s:∀s∈t.G,sv s.1 s.2.1 s.2.2=true
 g:∀i,gapR t.P t.en i
 q:∀g∈t.P,∀s∈t.G,zlg s g=true
 ct:zda t.G≤4096
 ls:zhr t.G (-1)≤t.en
theorem zfs {en:Int}:∀(P:List Gp) (b:Int),zai b P→(∀g∈P,0≤g.1∧g.2≤en+1)→∀i,gapR P en i
 | [],_,_,_,_=>fun h=>by simp at h
 | [g],b,⟨h1,h2,_⟩,hm,i=>fun h=>by
   have:i=0:=by simp at h;omega
   subst this;have:=hm g (by simp);exact⟨this.1,h2,this.2,fun j hj=>by omega⟩
 |g::k::P,b,⟨h1,h2,h3⟩,hm,0=>fun h=>by
  have:=hm g (by simp);exact⟨this.1,h2,this.2,fun j hj=>by omega⟩
 |g::k::P,b,⟨h1,h2,h3⟩,hm,i+1=>fun h=>by
  have ih:=zfs (k::P) (g.2+1) h3 (fun x hx=>hm x (by simp[hx])) i (by simpa using h);refine⟨ih.1,ih.2.1,ih.2.2.1,fun j hj=>?_⟩;obtain rfl:j=i:=by omega
  cases j with
  |zero=>have:=h3.1;show g.2<k.1;omega
  |succ j=>exact ih.2.2.2 j rfl
theorem zft {en:Int}:∀(P:List Gp) (b:Int),(∀i,gapR P en i)→(∀h:0<P.length,b≤P[0].1)→zai b P
 | [],_,_,_=>trivial
 |g::P,b,h,hb=>by
  have h0:=h 0 (by simp);refine⟨hb (by simp),h0.2.1,zft (en:=en) P (g.2+1) (fun i hi=>?_) (fun hP=>?_)⟩
  ·have:=h (i+1) (by simpa using hi);refine⟨this.1,this.2.1,this.2.2.1,fun j hj=>?_⟩;subst hj;exact this.2.2.2 (j+1) rfl
  ·have:=(h 1 (by simpa using hP)).2.2.2 0 rfl;have h2:g.2<P[0].1:=this;omega
theorem zfr {P:List Gp} {en:Int} (h:∀i,gapR P en i):∀g∈P,0≤g.1∧g.1<g.2∧g.2≤en+1:=fun g hg=>by
 obtain⟨i,hi,rfl⟩:=List.mem_iff_getElem.1 hg;have:=h i hi;exact⟨this.1,this.2.1,this.2.2.1⟩
theorem zoG {k n:Int} (hk:k≠3):∀(l:List Ch) (a:Int) (v:ByteArray),svGo k n a v l=true→∀c∈l,val v l c.1=c.2∧val v l (c.1-1)≠c.2
 | [],_,_,_,c,hc=>by cases hc
 |d::l,a,v,h,c,hc=>by
  obtain⟨h1,h2,h3,h4,h5⟩:=(zoy ..).1 h;have hnd:=zoA h5;rcases List.mem_cons.1 hc with rfl|hc
  ·refine⟨?_,?_⟩
   ·rw[zp0,if_pos (Int.le_refl _),zp6 hnd (by omega)]
   ·rw[zp0,if_neg (by omega),zp6 hnd (by omega)];exact fun e=>h4 hk e.symm
  ·have hd:=hnd.mem c hc;have ih:=zoG hk l _ _ h5 c hc;rw[zp0,zp0,if_pos (by omega),if_pos (by omega)];exact ih
theorem zp2 {v:ByteArray} {a t:Int}:∀{l:List Ch},a≤t→(∀c∈l,¬(a<c.1∧c.1≤t))→val v l t=val v l a
 | [],_,_=>rfl
 |c::l,hat,h=>by
  have hc:=h c (by simp);rw[zp0,zp0];have ih:=fun v=>zp2 (v:=v) (l:=l) hat fun d hd=>h d (by simp[hd]);by_cases h1:c.1≤a
  ·rw[if_pos (by omega),if_pos h1,ih]
  ·rw[if_neg (by omega),if_neg h1,ih]
theorem ValidR.times {t:Tr} (h:ValidR t):Times t.P t.en t.G:=by
 refine⟨zft t.P 0 h.g (fun hP=>(h.g 0 hP).1),fun g hg=>?_,h.lo,h.hi,fun s hs c hc=>?_⟩
 ·have:=zfr h.g g hg;have:=h.hi;omega
 ·have:=(zht t.G (-1)).2 s hs c hc;have:=h.ls;omega
theorem ValidR.valid {t:Tr} (h:ValidR t):zqu t:=by
 obtain⟨m,hh⟩:=h.hr;have hT:=h.times;have ho:=zf7.1 hh;have hc:=(zcF.1 hh.c);have hv:=fun v hv=>(zdI hc.d v hv).2.2
 have hm:m=t.G.length:=by
  have:=zmt t.V 0 m hv hh.q;have h2:=h.nm;rw[show((0:Nat):Int)=0 from rfl]at this;omega
 rw[hm]at ho;have h1:zdA t=0:=zdB ho (fun n hn=>(zlN.1 hn).2) (by rw[zlM];exact h.n)
 have e1:sig1 t=t.G:=by
  unfold sig1;rw[ho];exact zlO t.G
 obtain⟨e2,e3⟩:=ziZ h.s
 have hx:∀s∈t.G,s.1=0→offF t.P t.en s=(s,0):=by
  rintro⟨k,n,cs⟩ hs h0;have h0:k=0:=h0;subst h0;have hsv:=h.s _ hs;refine zjD hT hsv (hT.ch _ hs) fun u u0 u1 hu=>?_;unfold inG at hu;rw[List.any_eq_true]at hu;obtain⟨g,hg,hu⟩:=hu;rw[Bool.and_eq_true,decide_eq_true_iff,decide_eq_true_iff]at hu;have hq:=h.q g hg _ hs;unfold zlg at hq;rw[if_pos rfl,Bool.and_eq_true,decide_eq_true_iff,decide_eq_true_iff]at hq;obtain⟨q1,q2⟩:=hq;have q2:=List.eq_nil_of_length_eq_zero q2;have hgp:=zfr h.g g hg;have q1:val (vi 0 n) cs g.1=vi 0 n:=q1
  refine(zp2 (a:=g.1) hu.1 (fun c hc hcc=>by
   have hce:=hT.ch _ hs c hc
   have hm2:c∈zku cs (g.1+1) (g.2-1):=by
    refine zkv.2 ⟨hc,by omega,?_⟩;have hlt:=hu.2;unfold zfj at hlt;split at hlt<;>omega
   have q2:zku cs (g.1+1) (g.2-1)=[]:=q2;rw[q2]at hm2;cases hm2)).trans q1
 have e4:clrL t.P t.en t.G=t.G:=by
  unfold clrL;rw[List.map_congr_left (g:=id) (fun s hs=>?_),List.map_id];split
  ·rename_i h0;rw[hx s hs h0];rfl
  ·rfl
 have hb:Built t t t.P t.en:=by
  refine⟨?_,h1,?_,?_,?_,?_,?_⟩
  ·unfold zpa;rw[if_neg h.sc,if_pos h.wd]
  ·rw[ho,e1];exact fun v hv=>(h.f v hv).2
  ·rw[e1];exact e3
  ·rw[e1,e2];exact hT.f rfl rfl
  ·rw[e1,e2];refine zcO h.p (fun s hs h0=>by rw[hx s hs h0]) ?_;rw[e4];exact h.ct
  ·rw[ho,e1,e2,e4]
 exact hb.build
theorem ValidR.of {t:Tr} (h:zqu t):ValidR t:=by
 have hV:=zqv h;obtain⟨P,en,hb⟩:=zb5 h;obtain⟨hTN,hT,hs,hmap,hx,h16,hct,-,hin⟩:=hb.sigs;obtain⟨b1,b2,b3,b4,b5,b6,b7⟩:=hb;have eP:t.P=P:=by rw[b7]
 have eE:t.en=en:=by rw[b7]
 subst eP eE;have hh:HierR t.S t.V t.G.length:=zf7.2 hV.o;have hc:=zcF.1 hV.c;have hv:=fun v hv=>(zdI hc.d v hv).2.2
 have hsg:∀v∈t.V,v.sg<(t.G.length:Int):=fun v hv'=>by
  have h1:=zmt t.V 0 _ hv hh.q
  have h2:∀(l:List Vr) (a:Int),a≤l.foldl (fun a v=>max a (v.sg+1)) a∧∀v∈l,v.sg+1≤l.foldl (fun a v=>max a (v.sg+1)) a:=fun l=>by
   induction l with
   |nil=>exact fun a=>⟨Int.le_refl _,fun v hv=>by cases hv⟩
   |cons x l ih=>
    intro a;rw[List.foldl_cons];obtain⟨i1,i2⟩:=ih (max a (x.sg+1));refine⟨by omega,fun v hv=>?_⟩;rcases List.mem_cons.1 hv with rfl|hv
    ·omega
    ·exact i2 v hv
  have:=(h2 t.V 0).2 v hv';rw[show((0:Nat):Int)=0 from rfl]at h1;omega
 unfold zpa at b1;refine⟨?_,?_,⟨_,hh⟩,hV.n,hT.lo,hT.hi,h16,fun v hv'=>⟨hsg v hv',hV.f v hv'⟩,?_,hs,?_,?_,hct,?_⟩
 ·intro h1;rw[if_pos h1]at b1;cases b1
 ·split at b1
  ·cases b1
  ·split at b1
   ·assumption
   ·cases b1
 ·have:=zmt t.V 0 _ hv hh.q;rw[show((0:Nat):Int)=0 from rfl]at this;exact this
 ·exact zfs t.P 0 hT.ok fun g hg=>⟨(hT.ok.mem g hg).1,by have:=(hT.most g hg).2;omega⟩
 ·intro g hg s hs';unfold zlg;split
  ·rename_i h0
   obtain⟨k,n,cs⟩:=s;have h0:k=0:=h0;subst h0;have hxs:=hx _ hs' rfl;have hg1:=hT.ok.mem g hg;have hg2:=hT.most g hg;have hhi:=hT.hi;have hgt:=zfk (en:=t.en) hg1.2 hg2.1
   have hi:∀u,g.1≤u→u<g.2→val (vi 0 n) cs u=vi 0 n:=fun u u0 u1=>by
    refine hxs u (by omega) (by omega) ?_;unfold inG;rw[List.any_eq_true];exact⟨g,hg,by simp;omega⟩
   rw[Bool.and_eq_true,decide_eq_true_iff,decide_eq_true_iff];refine⟨hi g.1 (Int.le_refl _) hg1.2,?_⟩;cases hp:zku cs (g.1+1) (g.2-1)with
   |nil=>rfl
   |cons c l=>
    exfalso
    have hm:c∈zku cs (g.1+1) (g.2-1):=by rw[hp];simp
    obtain⟨m1,m2,m3⟩:=zkv.1 hm;obtain⟨z1,z2⟩:=zoG (k:=0) (n:=n) (by decide) cs _ _ (zoI.1 (hs _ hs')).2.2 c m1;rw[hi c.1 (by omega) (by omega)]at z1;rw[hi (c.1-1) (by omega) (by omega)]at z2;exact z2 z1
  ·rfl
 ·refine zhu t.G _ (by have:=hT.lo;omega) hT.ch
def Inc (a:Int):List Ch→Prop
 | []=>True
 |c::l=>a<c.1∧Inc c.1 l
def kp (v:ByteArray):List Ch→List Ch
 | []=> []
 |c::l=>if c.2=v then kp v l else c::kp c.2 l
def zhA (v:ByteArray):List Ch→ByteArray
 | []=>v
 |c::l=>zhA c.2 l
theorem Inc.nonDec:∀{l:List Ch} {a b:Int},Inc a l→b≤a+1→zan b l
 | [],_,_,_,_=>trivial
 |c::l,a,b,⟨h1,h2⟩,h=>⟨by omega,h2.nonDec (by omega)⟩
theorem zgi {k n:Int}:∀{l:List Ch} {a:Int} {v:ByteArray},svGo k n a v l=true→Inc a l
 | [],_,_,_=>trivial
 |c::l,a,v,h=>by
  obtain⟨h1,-,-,-,h5⟩:=(zoy ..).1 h;exact⟨h1,zgi h5⟩
theorem zgh {f:ByteArray→ByteArray}:∀{l:List Ch} {a:Int},Inc a l→Inc a (l.map (mvC f))
 | [],_,_=>trivial
 |_::_,_,⟨h1,h2⟩=>⟨h1,zgh h2⟩
theorem ziU {k:Int} (hk:k≠3):∀(l:List Ch) (v:ByteArray) (a:Int),Inc a l→ziS k v l=kp v l
 | [],_,_,_=>rfl
 |c::l,v,a,h=>by
  unfold ziS kp;by_cases hc:c.2=v
  ·rw[if_pos (.inr ⟨hk,hc⟩),if_pos hc];exact ziU hk l v c.1 h.2
  ·rw[if_neg hc,if_neg,ziU hk l c.2 c.1 h.2];rintro(⟨d,hd,he⟩|⟨-,he⟩)
   ·cases l with
    |nil=>simp at hd
    |cons d' l=>
     simp at hd;subst hd;have:=h.2.1;omega
   ·exact hc he
theorem zhn:∀(l:List Ch) (v:ByteArray),(kp v l).Sublist l
 | [],_=>List.Sublist.refl _
 |c::l,v=>by
  unfold kp;split
  ·exact(zhn l v).cons _
  ·exact(zhn l c.2).cons_cons _
theorem zhm (t:Int):∀(l:List Ch) (v:ByteArray) (a:Int),Inc a l→
 (kp v l).take (lo (kp v l) t)=kp v (l.take (lo l t))∧(kp v l).drop (lo (kp v l) t)=kp (val v l (t-1)) (l.drop (lo l t))
 | [],v,a,_=>⟨rfl,rfl⟩
 |c::l,v,a,h=>by
  by_cases hc:c.1<t
  ·rw[zhL hc,List.take_succ_cons,List.drop_succ_cons,zp0,if_pos (by omega)];by_cases hv:c.2=v
   ·obtain⟨h1,h2⟩:=zhm t l v c.1 h.2;rw[show kp v (c::l)=kp v l by rw[kp,if_pos hv],show kp v (c::l.take (lo l t))=kp v (l.take (lo l t))by rw[kp,if_pos hv],hv];exact⟨h1,h2⟩
   ·obtain⟨h1,h2⟩:=zhm t l c.2 c.1 h.2;rw[show kp v (c::l)=c::kp c.2 l by rw[kp,if_neg hv],show kp v (c::l.take (lo l t))=c::kp c.2 (l.take (lo l t))by rw[kp,if_neg hv],zhL hc,List.take_succ_cons,List.drop_succ_cons,h1];exact⟨rfl,h2⟩
  ·have hn:zan t (c::l):=⟨by omega,(h.2.nonDec (Int.le_refl _)).mono (by omega)⟩;rw[zhK (by omega),zhM (hn.sub (zhn _ _)) (Int.le_refl _),zp6 hn (by omega)];exact⟨rfl,rfl⟩
theorem zhk (v:ByteArray) (c:Ch) (l:List Ch):kp v (c::l)=if c.2=v then kp v l else c::kp c.2 l:=rfl
theorem zhj:∀(l m:List Ch) (v:ByteArray),kp v (l++m)=kp v l++kp (zhA v l) m
 | [],_,_=>rfl
 |c::l,m,v=>by
  rw[List.cons_append,zhk,zhk,show zhA v (c::l)=zhA c.2 l from rfl];by_cases hv:c.2=v
  ·rw[if_pos hv,if_pos hv,zhj l m v,hv]
  ·rw[if_neg hv,if_neg hv,zhj l m c.2];rfl
theorem zhB (f:ByteArray→ByteArray):∀(l:List Ch) (v:ByteArray),zhA (f v) (l.map (mvC f))=f (zhA v l)
 | [],_=>rfl
 |c::l,_=>zhB f l c.2
theorem zp5 {t:Int}:∀{l:List Ch} (v:ByteArray),(∀c∈l,c.1≤t)→val v l t=zhA v l
 | [],_,_=>rfl
 |c::l,v,h=>by
  rw[zp0,if_pos (h c List.mem_cons_self)];exact zp5 _ fun d hd=>h d (List.mem_cons_of_mem _ hd)
theorem zhP (f:ByteArray→ByteArray) (t:Int):∀l:List Ch,lo (l.map (mvC f)) t=lo l t
 | []=>rfl
 |c::l=>by
  rw[List.map_cons];by_cases hc:c.1<t
  ·rw[zhL (show(mvC f c).1<t from hc),zhL hc,zhP f t l]
  ·rw[zhK (show t≤(mvC f c).1 from by show t≤c.1;omega),zhK (by omega)]
theorem zhJ:∀{l:List Ch} {a:Int},Inc a l→∀{j:Nat} (hj:j<l.length),lo l l[j].1=j∧lo l (l[j].1+1)=j+1
 | [],_,_,_,hj=>by simp at hj
 |c::l,a,h,0,_=>by
  rw[List.getElem_cons_zero,zhK (Int.le_refl _),zhL (by omega),zhM (h.2.nonDec (Int.le_refl _)) (Int.le_refl _)];exact⟨rfl,rfl⟩
 |c::l,a,h,j+1,hj=>by
  have hj':j<l.length:=by simpa using hj
  have hm:=(h.2.nonDec (Int.le_refl _)).mem l[j] (List.getElem_mem hj');obtain⟨h1,h2⟩:=zhJ h.2 hj';rw[List.getElem_cons_succ,zhL (by omega),zhL (by omega),h1,h2];exact⟨rfl,rfl⟩
theorem zpZ {a:Int} {l:List Ch} {v:ByteArray} (h:Inc a l) {j:Nat} (hj:j<l.length):val v l (l[j].1-1)=zhA v (l.take j)∧val v l l[j].1=l[j].2:=by
 have hn:=h.nonDec (Int.le_refl _);obtain⟨h1,h2⟩:=zhJ h hj;have h3:=(zhQ l[j].1 l _ hn).1;have h4:=(zhQ (l[j].1+1) l _ hn).1;rw[h1]at h3;rw[h2]at h4;constructor
 ·rw[←zqq hn (show l[j].1-1<l[j].1 by omega),h1];exact zp5 _ fun c hc=>by have:=h3 c hc;omega
 ·rw[←zqq hn (show l[j].1<l[j].1+1 by omega),h2,zp5 _ fun c hc=>by have:=h4 c hc;omega,List.take_succ_eq_append_getElem hj];generalize l.take j=m;generalize l[j]=c;clear h3 h4 h1 h2 hn h hj;induction m generalizing v with
  |nil=>rfl
  |cons d m ih=>exact ih
def chO:Option Ch→Ch×Int
 |some c=>(c,0)
 |none=>((0,⟨#[]⟩),6)
theorem zcr (l:List Ch) (i:Nat):chR l (i:Int)=chO (l.drop i).head? :=by
 unfold chR;rw[if_neg (by omega),Int.toNat_natCast,List.head?_drop];cases l[i]? <;>rfl
theorem zcs (l:List Ch) (i:Nat) (h:i≤l.length):chR l ((i:Int)-1)=chO (l.take i).getLast? :=by
 unfold chR;cases i with
 |zero=>rw[if_pos (by omega)];rfl
 |succ i=>
  rw[if_neg (by omega),show((i+1:Nat):Int)-1=(i:Int)by omega,Int.toNat_natCast,List.getElem?_eq_getElem (show i<l.length by omega),List.take_succ_eq_append_getElem (show i<l.length by omega),List.getLast?_append];rfl
structure DerS (ny n:Int) (yl S:List Ch) (f:ByteArray→ByteArray):Prop where
 y:sv 0 ny yl=true
 s:sv 0 n S=true
 i:f (vi 0 ny)=vi 0 n
 e:S=kp (vi 0 n) (yl.map (mvC f))
theorem DerS.mk' {ny n:Int} {yl S:List Ch} {f:ByteArray→ByteArray} (hy:sv 0 ny yl=true) (hs:sv 0 n S=true) (hi:f (vi 0 ny)=vi 0 n) (he:S=zi2 0 n (yl.map (mvC f))):DerS ny n yl S f:=
 ⟨hy,hs,hi,by rw[he];exact ziU (by decide) _ _ _ (zgh (zgi (zoI.1 hy).2.2))⟩
theorem DerS.inc {ny n:Int} {yl S:List Ch} {f:ByteArray→ByteArray} (h:DerS ny n yl S f):Inc (-1) yl:=zgi (zoI.1 h.y).2.2
theorem DerS.len {ny n:Int} {yl S:List Ch} {f:ByteArray→ByteArray} (h:DerS ny n yl S f):S.length≤yl.length:=by
 have:=(zhn (yl.map (mvC f)) (vi 0 n)).length_le;rw[h.e];rwa [List.length_map]at this
theorem DerS.split {ny n:Int} {yl S:List Ch} {f:ByteArray→ByteArray} (h:DerS ny n yl S f) (t:Int):
 S.take (lo S t)=kp (vi 0 n) ((yl.take (lo yl t)).map (mvC f))∧S.drop (lo S t)=kp (f (val (vi 0 ny) yl (t-1))) ((yl.drop (lo yl t)).map (mvC f)):=by
 obtain⟨h1,h2⟩:=zhm t (yl.map (mvC f)) (vi 0 n) (-1) (zgh h.inc);rw[←h.e,zhP]at h1 h2;rw[h1,h2,List.map_take,List.map_drop,←h.i,zp7];exact⟨rfl,rfl⟩
theorem DerS.val {ny n:Int} {yl S:List Ch} {f:ByteArray→ByteArray} (h:DerS ny n yl S f) (t:Int):Go.Proofs.YtbiadennhnokhaaGreatDoor.val (vi 0 n) S t=f (Go.Proofs.YtbiadennhnokhaaGreatDoor.val (vi 0 ny) yl t):=by
 rw[h.e,←ziU (k:=0) (by decide) _ _ _ (zgh h.inc),zp9 0 t _ _ 0 ((zgh h.inc).nonDec (by omega)),←h.i];exact zp7 f t yl _
theorem DerS.next {ny n:Int} {yl S:List Ch} {f:ByteArray→ByteArray} (h:DerS ny n yl S f) {t:Int} (h0: -1≤t) (h1:t≤1099511627776):
 ziG 0 n S t=chO (kp (f (Go.Proofs.YtbiadennhnokhaaGreatDoor.val (vi 0 ny) yl t)) ((yl.drop (lo yl (t+1))).map (mvC f))).head? :=by
 unfold ziG;rw[if_neg (by rw[h.s];simp),if_neg (by omega),zcr,(h.split (t+1)).2,show t+1-1=t by omega]
theorem DerS.prev {ny n:Int} {yl S:List Ch} {f:ByteArray→ByteArray} (h:DerS ny n yl S f) {t:Int} (h0:0≤t) (h1:t≤1099511627777):
 zk9 0 n S t=chO (kp (vi 0 n) ((yl.take (lo yl t)).map (mvC f))).getLast? :=by
 unfold zk9;rw[if_neg (by rw[h.s];simp),if_neg (by omega),zcs _ _ (zhN S t),(h.split t).1]
theorem DerS.step {ny n:Int} {yl S:List Ch} {f:ByteArray→ByteArray} (h:DerS ny n yl S f) {j:Nat} (hj:j<yl.length):
 kp (vi 0 n) ((yl.take (j+1)).map (mvC f))=kp (vi 0 n) ((yl.take j).map (mvC f))++(if f yl[j].2=f (Go.Proofs.YtbiadennhnokhaaGreatDoor.val (vi 0 ny) yl (yl[j].1-1))then []else [mvC f yl[j]]):=by
 rw[List.take_succ_eq_append_getElem hj,List.map_append,zhj,←h.i,zhB,(zpZ h.inc hj).1];rfl
theorem zhR {a b:Int} (hab:a≤b):∀(l:List Ch),lo (l.take (lo l b)) a=lo l a
 | []=>rfl
 |c::l=>by
  by_cases hc:c.1<a
  ·rw[zhL (show c.1<b by omega),List.take_succ_cons,zhL hc,zhL hc,zhR hab l]
  ·rw[zhK (t:=a) (by omega)];by_cases hb:c.1<b
   ·rw[zhL hb,List.take_succ_cons,zhK (by omega)]
   ·rw[zhK (by omega)];rfl
theorem DerS.win {ny n:Int} {yl S:List Ch} {f:ByteArray→ByteArray} (h:DerS ny n yl S f) {a b:Int} (hab:a≤b) (hb:b≤1099511627776):
 winR 0 n S a b=kp (f (Go.Proofs.YtbiadennhnokhaaGreatDoor.val (vi 0 ny) yl (a-1))) ((winR 0 ny yl a b).map (mvC f)):=by
 unfold winR;rw[if_neg (by rw[h.s];simp),if_neg (by omega),if_neg (by rw[h.y];simp),if_neg (by omega),show min b 1099511627776=b by omega,(h.split (b+1)).1];have hI:Inc (-1) (yl.map (mvC f)):=zgh h.inc
 have hT:Inc (-1) ((yl.take (lo yl (b+1))).map (mvC f)):=by
  rw[List.map_take];generalize yl.map (mvC f)=m at hI;generalize lo yl (b+1)=i;generalize (-1:Int)=x at hI;clear h hab hb;induction m generalizing i x with
  |nil=>rw[List.take_nil];trivial
  |cons c m ih=>
   cases i with
   |zero=>trivial
   |succ i=>exact⟨hI.1,ih i c.1 hI.2⟩
 have hlo:lo S a=lo (kp (vi 0 n) ((yl.take (lo yl (b+1))).map (mvC f))) a:=by
  rw[←(h.split (b+1)).1,zhR (by omega)]
 have h2:=(zhm a ((yl.take (lo yl (b+1))).map (mvC f)) (vi 0 n) (-1) hT).2;rw[hlo,h2,zhP,zhR (by omega),←h.i,zp7,zqq (h.inc.nonDec (b:=0) (by omega)) (by omega),List.map_drop]
end Go.Proofs.YtbiadennhnokhaaGreatDoor
