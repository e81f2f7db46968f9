import Derived.Test.YtcdekelomkcahaaGreatDoorZ00
import Derived.Lib.Builder
import Derived.Test.YtcdekelomkcahaaGreatDoorZ10
import Derived.Test.YtcdekelomkcahaaGreatDoorZ18
set_option maxRecDepth 100000
set_option maxHeartbeats 16000000
namespace Go.Proofs.YtcdekelomkcahaaGreatDoor
open Go.RowKit
theorem zgr (s:ByteArray) (w:World):Calls Tryz.prog 198 #[.string s] w fun e w'=>e=.returned (.string ⟨#[49]⟩)∧Below w.heap.size w w':=by
 go_enter Tryz.func198,Tryz.ntmps198;go_wp2_with fail;go_ret;exact⟨rfl,Below.refl _ _⟩
theorem zmQ:∀(s:Bs),∃a r,spl s []=a::r∧(∀cur,spl s cur=(cur++a)::r)∧a++Lib.joinTail [32] r=s
 | []=>⟨[],[],rfl,fun cur=>by simp[spl],rfl⟩
 |c::t=>by
  obtain⟨a,r,h1,h2,h3⟩:=zmQ t;by_cases hc:c=32
  ·subst hc;refine⟨[],a::r,by rw[spl,if_pos rfl,h1],fun cur=>by rw[spl,if_pos rfl,h1,List.append_nil],?_⟩;show []++(32::a++Lib.joinTail [32] r)=_;simp[h3]
  ·refine⟨c::a,r,by rw[spl,if_neg hc,h2];rfl,fun cur=>by rw[spl,if_neg hc,h2,List.append_assoc];rfl,?_⟩;rw[List.cons_append,h3]
theorem zmR (s:Bs):Lib.join (spl s []) [32]=s:=by
 obtain⟨a,r,h1,-,h3⟩:=zmQ s;rw[h1,Lib.join_cons,h3]
theorem zfZ (t:Bs):Lib.index (32::t) [32]=0:=by rw[Lib.index_one];rfl
theorem zf0 {c:UInt8} (hc:c≠32) (t:Bs):Lib.index (c::t) [32]=if Lib.index t [32]= -1 then-1 else Lib.index t [32]+1:=by
 rw[Lib.index_one,Lib.index_one,Lib.indexByte,if_neg (by simpa using hc)];simp
theorem zf5 {t:Bs} (h:t.count 32≠0):0≤Lib.index t [32]:=by
 induction t with
 |nil=>simp at h
 |cons c t ih=>
  by_cases hc:c=32
  ·subst hc;rw[zfZ];omega
  ·rw[List.count_cons_of_ne (by simpa using hc)]at h;have:=ih h;rw[zf0 hc,if_neg (by omega)];omega
theorem zmZ:∀(s:Bs),Lib.splitK [32] 0 (s.count 32) s=spl s []
 | []=>rfl
 |c::t=>by
  have ih:=zmZ t;obtain⟨a,r,h1,h2,-⟩:=zmQ t;by_cases hc:c=32
  ·subst hc;rw[List.count_cons_self,Lib.splitK,if_neg (by rw[zfZ];decide),zfZ,spl,if_pos rfl,←ih];rfl
  ·rw[List.count_cons_of_ne (by simpa using hc),spl,if_neg hc,h2];rw[h1]at ih;cases hk:t.count 32 with
   |zero=>
    rw[hk,Lib.splitK]at ih;injection ih with e1 e2;subst e1 e2;rfl
   |succ k=>
    have hi:=zf5 (t:=t) (by omega);rw[hk,Lib.splitK,if_neg (by rw[beq_iff_eq];omega)]at ih;injection ih with e1 e2;have hx:Lib.index (c::t) [32]=Lib.index t [32]+1:=by rw[zf0 hc,if_neg (by omega)]
    rw[Lib.splitK,hx,if_neg (by rw[beq_iff_eq];omega)];obtain⟨i,hi2⟩:=Int.eq_ofNat_of_zero_le hi;rw[hi2]at e1 e2⊢;subst e1 e2;rw[show((i:Int)+1).toNat=i+1 by omega,Int.toNat_natCast];show(c::t).take (i+1)::Lib.splitK [32] 0 k ((c::t).drop (i+1+1))=_;rw[List.take_succ_cons,List.drop_succ_cons];rfl
theorem zmY (s:Bs):(Lib.splitB ⟨#[32]⟩ 0 (Lib.countB (bsB s) ⟨#[32]⟩) (bsB s)).map (fun x=>x.data.toList)=spl s []:=by
 rw[Lib.splitB_data]
 have e1:Lib.countB (bsB s) ⟨#[32]⟩=s.count 32:=by
  show Lib.count (bsB s).data.toList [32]=_;rw[Lib.count_one];simp[bsB]
 rw[e1];show Lib.splitK [32] 0 (s.count 32) (bsB s).data.toList=_;rw[show(bsB s).data.toList=s by simp[bsB],zmZ]
theorem zmX (s:Bs):(Lib.splitB ⟨#[32]⟩ 0 (Lib.countB (bsB s) ⟨#[32]⟩) (bsB s))=(spl s []).map bsB:=by
 rw[←zmY,List.map_map];conv=>lhs;rw[←List.map_id (Lib.splitB ⟨#[32]⟩ 0 (Lib.countB (bsB s) ⟨#[32]⟩) (bsB s))]
 exact List.map_congr_left fun x _=>by
  obtain⟨⟨l⟩⟩:=x;rfl
theorem zmU (s:Bs):(spl s []).length=s.count 32+1:=by
 have:=Lib.splitB_all ⟨#[32]⟩ (by decide) 0 _ (bsB s) rfl;rw[zmX,List.length_map]at this;rw[this];congr 1
 show Lib.count (bsB s).data.toList [32]=_;rw[Lib.count_one];simp[bsB]
set_option linter.unusedSimpArgs false
def Glm (w:World):Prop:=∃m,w.cell? ⟨0,0,none⟩=some (.int .i64 m)
theorem Glm.below {w w':World} (h:Glm w) (hb:Below w.heap.size w w'):Glm w':=by
 obtain⟨m,hm⟩:=h;exact⟨m,(hb.cell (p:=⟨0,0,none⟩) (zbA hm)).trans hm⟩
theorem zkG (s:ByteArray) (w:World) (hm:s.size≤2000000):Calls Tryz.prog 169 #[.string s] w fun e w'=>e=.returned (.bool (zpZ s.data.toList))∧Below w.heap.size w w':=by
 have hP:=lhd (zkH s);by_cases h0:s.size=0
 ·have HR:=lhd (show false=zpZ s.data.toList by
   have:s.data.toList=[]:=by rw[←List.length_eq_zero_iff];simpa using h0
   rw[this];rfl)
  have hb:(s==(⟨#[]⟩:ByteArray))=true:=by
   have:s=⟨#[]⟩:=by cases s with|mk d=>congr;exact Array.eq_empty_of_size_eq_zero h0
   rw[this];rfl
  obtain rfl:s=⟨#[]⟩:=by cases s with|mk d=>congr;exact Array.eq_empty_of_size_eq_zero h0
  go_enter Tryz.func169,Tryz.ntmps169;go_wp2_with fail;go_ret;exact⟨zle HR.out,Below.refl _ _⟩
 ·have hne:decide (s=(⟨#[]⟩:ByteArray))=false:=by
   rw[decide_eq_false_iff_not];rintro rfl;exact h0 rfl
  have hlt:0<s.size:=by omega
  have hte:=znN h0;have htn:¬s.toList=[]:=by intro h;rw[h]at hte;cases hte
  have hW:zpZ s.data.toList=(!decide (s[0]'hlt=36)&&s.data.toList.all prn):=by
   unfold zpZ
   have h1:s.data.toList≠ []:=by
    intro h;apply h0;have:=congrArg List.length h;simpa using this
   rw[decide_eq_false h1]
   have h2:s.data.toList.head? =some (s[0]'hlt):=by
    rw[List.head?_eq_getElem?,List.getElem?_eq_getElem (by simpa using hlt)];rfl
   rw[h2];simp
  have hu:(((s[0]'hlt).toNat:Int)==36)=decide (s[0]'hlt=36):=zn8 (s[0]'hlt) 36 (by omega);by_cases hc:s[0]'hlt=36
  ·have HR:=lhd (show false=zpZ s.data.toList by rw[hW,decide_eq_true hc];rfl);rw[decide_eq_true hc]at hu;have hcn:(s[0]'hlt).toNat=36:=by rw[hc];rfl
   clear hW hc;go_enter Tryz.func169,Tryz.ntmps169;go_wp2_with fail;go_ret;exact⟨zle HR.out,Below.refl _ _⟩
  ·have HR:=lhd (show s.data.toList.all prn=zpZ s.data.toList by rw[hW,decide_eq_false hc];rfl);rw[decide_eq_false hc]at hu;have hcn:¬((s[0]'hlt).toNat:Int)=36:=by simpa using hu
   clear hW hc;go_enter Tryz.func169,Tryz.ntmps169;go_wp2_with fail;refine(hP.out _).mono ?_;rintro e w1 ⟨rfl,hb⟩;rw[HR.out];go_wp2_with fail;go_ret;exact⟨zle (by simp[bne,hu]),hb⟩
theorem zmT:∀(s cur:Bs),∀y∈spl s cur,y.length≤cur.length+s.length
 | [],cur,y,h=>by
   rw[show spl [] cur=[cur]from rfl,List.mem_singleton]at h;subst h;simp
 |c::t,cur,y,h=>by
  unfold spl at h;split at h
  ·rcases List.mem_cons.1 h with rfl|h
   ·omega
   ·have:=zmT t [] y h;simp at this⊢;omega
  ·have:=zmT t _ y h;simp at this⊢;omega
def zgb (L:List ByteArray):Int:=if L.all (fun x=>zpZ x.data.toList)=true then if 200<(Lib.join (L.map (·.data.toList)) [32]).length then 9 else 0 else 3
theorem zkB (g:Nat) (L:List ByteArray) (w:World) (hc:∀(j:Nat) x,L[j]? =some x→w.cell? ⟨g,j,none⟩=some (.string x)) (hg:g<w.heap.size) (hL:L.length≤1000000)
 (hx:∀x∈L,x.size≤1000000) (hz:(Lib.join (L.map (·.data.toList)) [32]).length≤1000000):
 Calls Tryz.prog 138 #[.slice (some ⟨g,0,none⟩) L.length L.length] w fun e w'=>
  (∃s,e=.returned (.tuple #[.string s,.int .i64 (zgb L)]))∧Below w.heap.size w w':=by
 have HC:=lhd hc;have HX:=lhd hx;obtain⟨J,hJ⟩:∃J,J=Lib.join (L.map (·.data.toList)) [32]:=⟨_,rfl⟩;rw[←hJ]at hz;have HJ:=lhd hJ
 have HJoin:=lhd (fun(W:World) (hb:Below w.heap.size w W)=>Tryz.strings_Join g 0 L.length L ⟨#[32]⟩ W (fun j x h=>by rw[Nat.zero_add];exact(hb.cell (p:=⟨g,j,none⟩) hg).trans (hc j x h)) (Nat.lt_of_lt_of_le hg hb.size) (by omega) (Nat.le_refl _) (by
  show(Lib.join (L.map (·.data.toList)) [32]).length≤_;rw[←hJ];omega))
 clear hc hx hJ;have HB0:=lhd (Below.refl w.heap.size w);go_enter Tryz.func138,Tryz.ntmps138;go_wp2_with fail;go_loopw [9] (fun i wr=>∃k:Nat,k≤L.length∧i=.int .i64 k∧(L.take k).all (fun x=>zpZ x.data.toList)=true∧Below w.heap.size w wr) (fun i _=>L.length-(intOf i).toNat)
 case atStart=>exact⟨0,Nat.zero_le _,rfl,rfl,HB0.out⟩
 case round=>
  obtain⟨k,hk,rfl,hal,hb⟩:=hrel;have HB:=lhd hb;have HA:=lhd hal;clear hal hb;by_cases hlt:k<L.length
  ·have d0:wr.cell? ⟨g,k,none⟩=some (.string L[k]):=(HB.out.cell (p:=⟨g,k,none⟩) hg).trans (HC.out k _ (List.getElem?_eq_getElem hlt));have HW:=lhd (zkG L[k] wr (Nat.le_trans (HX.out _ (List.getElem_mem hlt)) (by decide)));by_cases hw:zpZ L[k].data.toList=true
   ·rw[hw]at HW
    have HA2:=lhd (show(L.take (k+1)).all (fun x=>zpZ x.data.toList)=true by
     rw[List.take_succ_eq_append_getElem hlt,List.all_append,HA.out];simp[hw])
    clear hw;generalize L[k]=x at*;go_wp2_with fail;refine HW.out.mono ?_;rintro e w1 ⟨rfl,hb1⟩;have HB1:=lhd (HB.out.trans (hb1.mono HB.out.size));clear hb1;go_wp2_with fail;go_roundw;case rel=>exact⟨k+1,hlt,by go_num,HA2.out,HB1.out⟩
    case measure=>simp[intOf];omega
   ·have hwf:zpZ L[k].data.toList=false:=by simpa using hw
    rw[hwf]at HW
    have HR:=lhd (show(3:Int)=zgb L by
     unfold zgb;rw[←HJ.out];rw[if_neg];intro h;rw[List.all_eq_true]at h;exact hw (h _ (List.getElem_mem hlt)))
    clear hw hwf;generalize L[k]=x at*;go_wp2_with fail;refine HW.out.mono ?_;rintro e w1 ⟨rfl,hb1⟩;have HB1:=lhd (HB.out.trans (hb1.mono HB.out.size));clear hb1;go_wp2_with fail;refine bodyPost_ret (v:=.tuple #[.string ⟨#[]⟩,.int .i64 3]) (by simp[results,Tryz.results138,go_sem]) rfl ?_;exact⟨⟨_,by rw[←HR.out]⟩,HB1.out⟩
  ·obtain rfl:k=L.length:=by omega
   have hal:L.all (fun x=>zpZ x.data.toList)=true:=by have:=HA.out;rwa [List.take_length]at this
   have HAL:=lhd hal;clear hal hlt;obtain⟨SS,hSS⟩:∃SS:ByteArray,SS=⟨(Lib.join (L.map (·.data.toList)) [32]).toArray⟩:=⟨_,rfl⟩;have hsz:SS.size=J.length:=by rw[hSS,HJ.out];rfl
   have HJN:=HJoin.out wr HB.out;rw[show(Lib.join (L.map (·.data.toList)) (⟨#[32]⟩:ByteArray).data.toList)=(Lib.join (L.map (·.data.toList)) [32])from rfl,←hSS]at HJN;have HJN:=lhd HJN;clear hSS;by_cases h200:200<J.length
   ·have h2:(200:Int)<(SS.size:Int):=by omega
    have HR:=lhd (show(9:Int)=zgb L by
     unfold zgb;rw[←HJ.out];rw[if_pos HAL.out,if_pos h200])
    clear h200 hsz;go_wp2_with fail;refine HJN.out.mono ?_;rintro e w1 ⟨rfl,hb1⟩;have HB1:=lhd (HB.out.trans (hb1.mono HB.out.size));clear hb1;go_wp2_with fail;refine bodyPost_ret (v:=.tuple #[.string ⟨#[]⟩,.int .i64 9]) (by simp[results,Tryz.results138,go_sem]) rfl ?_;exact⟨⟨_,by rw[←HR.out]⟩,HB1.out⟩
   ·have h2:¬(200:Int)<(SS.size:Int):=by omega
    have HR:=lhd (show(0:Int)=zgb L by
     unfold zgb;rw[←HJ.out];rw[if_pos HAL.out,if_neg h200])
    clear h200 hsz;go_wp2_with fail;refine HJN.out.mono ?_;rintro e w1 ⟨rfl,hb1⟩;have HB1:=lhd (HB.out.trans (hb1.mono HB.out.size));clear hb1;go_wp2_with fail;refine bodyPost_ret (v:=.tuple #[.string SS,.int .i64 0]) (by simp[results,Tryz.results138,go_sem]) rfl ?_;exact⟨⟨_,by rw[←HR.out]⟩,HB1.out⟩
theorem zkF (s:ByteArray) (w:World) (hm:s.size≤100000) (hg:Glm w):Calls Tryz.prog 117 #[.string s] w fun e w'=>
 (∃v,e=.returned v∧((s.data.toList≠ []∧zp2 s.data.toList=true∧∃g n,v=.slice (some ⟨g,0,none⟩) (n+1) (n+1))∨(v=.slice none 0 0∧(s.data.toList=[]∨zp2 s.data.toList=false))))∧Below w.heap.size w w':=by
 by_cases h0:s.size=0
 ·obtain rfl:s=⟨#[]⟩:=by cases s with|mk d=>congr;exact Array.eq_empty_of_size_eq_zero h0
  go_enter Tryz.func117,Tryz.ntmps117;go_wp2_with fail;go_ret;exact⟨⟨_,rfl,Or.inr ⟨rfl,by simp⟩⟩,Below.refl _ _⟩
 ·have hte:=znN h0;have htn:¬s.toList=[]:=by intro h;rw[h]at hte;cases hte
  have hne:¬s=(⟨#[]⟩:ByteArray):=by rintro rfl;exact h0 rfl
  obtain⟨m,hm0⟩:=hg;have HSP:=lhd (Tryz.strings_Split s ⟨#[32]⟩ m w (by omega) hm0 (by decide))
  have hl0:s.data.toList≠ []:=by
   intro h;apply h0;have:=congrArg List.length h;simpa using this
  have HL0:=lhd hl0;have hs:s=bsB s.data.toList:=by obtain⟨⟨l⟩⟩:=s;rfl
  have hall:Lib.splitB ⟨#[32]⟩ 0 (Lib.countB s ⟨#[32]⟩) s=(spl s.data.toList []).map bsB:=by
   conv=>lhs;rw[hs]
   exact zmX s.data.toList
  have hct:Lib.countB s ⟨#[32]⟩+1=(spl s.data.toList []).length:=by
   rw[←Lib.splitB_all ⟨#[32]⟩ (by decide) 0 _ s rfl,hall,List.length_map]
  rw[hall,hct]at HSP;obtain⟨L,hL⟩:∃L,L=(spl s.data.toList []).map bsB:=⟨_,rfl⟩;have hll:(spl s.data.toList []).length=L.length:=by rw[hL,List.length_map]
  rw[hll,←hL]at HSP
  have hlm:L.map (·.data.toList)=spl s.data.toList []:=by
   rw[hL,List.map_map];conv=>rhs;rw[←List.map_id (spl s.data.toList [])]
   rfl
  have hjn:Lib.join (L.map (·.data.toList)) [32]=s.data.toList:=by rw[hlm,zmR]
  have hE:zgb L=0↔zp2 s.data.toList=true:=by
   unfold zgb zp2;rw[hjn,decide_eq_false hl0,Bool.false_or,hL,List.all_map];have e1:((fun x=>zpZ x.data.toList)∘bsB)=zpZ:=by funext x;rfl
   rw[e1];by_cases h1:(spl s.data.toList []).all zpZ=true
   ·rw[if_pos h1,h1];by_cases h2:200<s.data.toList.length
    ·rw[if_pos h2];simp;simpa using h2
    ·rw[if_neg h2];simp;simpa using h2
   ·rw[if_neg h1];simp[h1]
  have HE:=lhd hE;have hlen:L.length=s.data.toList.count 32+1:=by rw[←hll,zmU]
  have hcz:s.data.toList.count 32≤s.size:=Nat.le_trans List.count_le_length (by simp);obtain⟨n,hn⟩:∃n,L.length=n+1:=⟨_,hlen⟩;have HN:=lhd hn
  have HJN:=lhd (fun(W:World)=>zkB w.heap.size L (w.alloc (.cells (L.map Value.string).toArray 9)) (fun j x h=>by
   have:=(zaq.fresh w (L.map Value.string).toArray 9).cell (j:=j) (v:=.string x) (by simp[h])
   exact this) (by simp) (by omega) (fun x hx=>by
    rw[hL]at hx;obtain⟨y,hy,rfl⟩:=List.mem_map.1 hx;have:=zmT _ _ y hy;have h2:(bsB y).size=y.length:=rfl;rw[h2];have h3:s.data.toList.length=s.size:=rfl;simp at this;omega) (by rw[hjn];simpa using (show s.size≤1000000 by omega)))
  have HNE:=lhd hlen;clear hE hlen hcz hjn hlm hll hL hct hall hs hl0 hn hm0;go_enter Tryz.func117,Tryz.ntmps117;go_wp2_with fail;refine HSP.out.mono ?_;rintro e w1 ⟨rfl,rfl⟩;have HB0:=lhd (show Below w.heap.size w (w.alloc (.cells (L.map Value.string).toArray 9))from(Below.refl _ _).alloc (Nat.le_refl _) _);have HJ1:=lhd (HJN.out w);clear HSP HJN;rw[HN.out];generalize w.alloc (.cells (L.map Value.string).toArray 9)=w1 at*;rw[HN.out]at HJ1;by_cases hw:zp2 s.data.toList=true
  ·have hj:=HE.out.2 hw;rw[hj]at HJ1;have HW:=lhd hw;clear hw hj;go_wp2_with fail;refine HJ1.out.mono ?_;rintro e w2 ⟨⟨x,rfl⟩,hb⟩;have HB:=lhd (HB0.out.trans (hb.mono HB0.out.size));clear hb;go_wp2_with fail;go_ret;exact⟨⟨_,rfl,Or.inl ⟨HL0.out,HW.out,_,_,rfl⟩⟩,HB.out⟩
  ·have hj:¬zgb L=0:=fun h=>hw (HE.out.1 h);have hj2:(zgb L==0)=false:=by simpa using hj
   have HW:=lhd (show zp2 s.data.toList=false by simpa using hw);clear hw;generalize zgb L=q at*;go_wp2_with fail;refine HJ1.out.mono ?_;rintro e w2 ⟨⟨x,rfl⟩,hb⟩;have HB:=lhd (HB0.out.trans (hb.mono HB0.out.size));clear hb;go_wp2_with fail;go_ret;exact⟨⟨_,rfl,Or.inr ⟨rfl,Or.inr HW.out⟩⟩,HB.out⟩
theorem zkE (s:ByteArray) (w:World) (hm:s.size≤100000) (hg:Glm w):Calls Tryz.prog 64 #[.string s] w fun e w'=>e=.returned (.bool (zp2 s.data.toList))∧Below w.heap.size w w':=by
 have HWD:=lhd (zkF s w hm hg);by_cases h0:s.size=0
 ·obtain rfl:s=⟨#[]⟩:=by cases s with|mk d=>congr;exact Array.eq_empty_of_size_eq_zero h0
  go_enter Tryz.func64,Tryz.ntmps64;go_wp2_with fail;go_ret;exact⟨rfl,Below.refl _ _⟩
 ·have hte:=znN h0;have htn:¬s.toList=[]:=by intro h;rw[h]at hte;cases hte
  have hne:¬s=(⟨#[]⟩:ByteArray):=by rintro rfl;exact h0 rfl
  have hl0:s.data.toList≠ []:=by
   intro h;apply h0;have:=congrArg List.length h;simpa using this
  have HL:=lhd hl0;clear hl0;go_enter Tryz.func64,Tryz.ntmps64;go_wp2_with fail;refine HWD.out.mono ?_;rintro e w1 ⟨⟨v,rfl,hv⟩,hb⟩;have HB:=lhd hb;clear hb;rcases hv with⟨-,hv,g,n,rfl⟩|⟨rfl,hv⟩
  ·have HV:=lhd hv;clear hv;have hn:(0:Int)<((n+1:Nat):Int):=by omega
   have hn1:decide ((0:Int)<(n:Int)+1)=true:=by rw[decide_eq_true_iff];omega
   go_wp2_with fail;go_ret;exact⟨zle HV.out.symm,HB.out⟩
  ·have HV:=lhd (show zp2 s.data.toList=false by rcases hv with hv|hv;exact absurd hv HL.out;exact hv);clear hv;go_wp2_with fail;go_ret;exact⟨zle HV.out.symm,HB.out⟩
theorem zbT (k n:Int) (v id:Bs):(cmdB k n (bsB v) (bsB id)).toList.isEmpty=decide (cmdL cv k n v id=[]):=by
 unfold cmdB;rw[ByteArray.toList_eq,zbh,zbh,zbh];cases cmdL cv k n v id with
 |nil=>rfl
 |cons a l=>rfl
structure KB (B:Nat) (W V:World):Prop where
 b:Below B W V
 keep:∀(i:Nat) (o:Obj),W.heap[i]? =some o→(∀C T fr,o=.cells C T fr→T≠5∧T≠72)→V.heap[i]? =some o
theorem KB.refl (B:Nat) (W:World):KB B W W:=⟨Below.refl _ _,fun _ _ h _=>h⟩
theorem KB.trans {B:Nat} {X Y Z:World} (h:KB B X Y) (k:KB B Y Z):KB B X Z:=⟨h.b.trans k.b,fun i o ho hT=>k.keep i o (h.keep i o ho hT) hT⟩
theorem KB.of_below {B:Nat} {W V:World} (h:Below W.heap.size W V) (hB:B≤W.heap.size):KB B W V:=
 ⟨h.mono hB,fun i o ho _=>by rw[h.block i (Array.getElem?_eq_some_iff.1 ho).1];exact ho⟩
theorem KB.set {B:Nat} {W:World} {b:Nat} {C:Array Value} {T:TypeId} {fr:Nat×Nat} (hb:W.heap[b]? =some (.cells C T fr)) (hT:T=5∨T=72) (hB:B≤b) (j:Nat) (u:Value):KB B W (W.setCell ⟨b,j,none⟩ u):=
 ⟨(Below.refl _ _).setCell (p:=⟨b,j,none⟩) hB _,fun i o ho hk=>by
  have hne:i≠b:=by
   rintro rfl;rw[hb]at ho;injection ho with ho;have:=hk _ _ _ ho.symm;rcases hT with rfl|rfl
   ·exact this.1 rfl
   ·exact this.2 rfl
  rw[Below.heap_setCell _ _ _ _ hne];exact ho⟩
theorem KB.row {B:Nat} {W V:World} {b:Nat} {xs:List Value} {C:Array Value} {T:TypeId} (h:KB B W V) (hb:W.heap[b]? =some (.cells C T (0,0))) (hT:T≠5∧T≠72) (hx:zaq W b xs):zaq V b xs:=by
 have:=h.keep b _ hb (fun C' T' fr' e=>by injection e with _ e _;rw[←e];exact hT);exact hx.same (this.trans hb.symm)
theorem KB.map {B:Nat} {W V:World} {P:Program} {K:TypeId} {b n:Nat} {f:BsM→Option Value} (h:KB B W V) (hm:SMap P K W b n f):SMap P K V b n f:=by
 have hlt:=hm.lt;have e:W.heap[b]? =some W.heap[b]:=Array.getElem?_eq_getElem hlt;exact hm.same ((h.keep b _ e (fun C T fr ho=>absurd (e.trans (congrArg some ho)) hm.no_cells)).trans e.symm)
theorem zbr:(Tryz.prog.info? 5).map (fun i=>(i.zero,i.size,i.bytes))=some (some (.int .u8 0),1,1):=by kernel_rfl
theorem zgT (a b:List Bs):zgS (a++b)=zgS a++zgS b:=by simp[zgS]
theorem zgU (a:Bs) (b:List Bs):zgS (a::b)=zgN a++zgS b:=rfl
structure FmI (w w3:World) (L:List Dcl) (W:Bs) (wr:World) (T R:Bs):Prop where
 bld:Lib.IsBuilder 72 5 w3.heap.size w3.heap.size (Lib.byteCells T) wr
 eq:W=T++R
 k:Below w3.heap.size w3 wr
theorem FmI.keep {w w3 wr wr':World} {L:List Dcl} {W T R:Bs} (h:FmI w w3 L W wr T R) (hk:Below wr.heap.size wr wr'):FmI w w3 L W wr' T R:=by
 obtain⟨hb,he,hk0⟩:=h
 have aux:∀p,Lib.BuilderAt 72 5 w3.heap.size w3.heap.size p (Lib.byteCells T) wr→Lib.BuilderAt 72 5 w3.heap.size w3.heap.size p (Lib.byteCells T) wr':=by
  rintro p ⟨h1,v,h2,h3,h4⟩;exact⟨h1,v,by rw[hk.block _ (Array.getElem?_eq_some_iff.1 h2).1];exact h2,zjb h3 hk,h4⟩
 exact⟨hb.elim (fun x=> .inl (aux _ x)) (fun x=> .inr (aux _ x)),he,hk0.trans (hk.mono hk0.size)⟩
theorem FmI.grown {w w3 wr wr':World} {L:List Dcl} {W T R:Bs} {mb n:Nat} {P:Program} {K:TypeId} {f:BsM→Option Value} (h:FmI w w3 L W wr T R) (hm:SMap P K wr mb n f) (hg:wr.grownBy wr' (some mb)) (hlo:w3.heap.size≤mb):FmI w w3 L W wr' T R:=by
 obtain⟨hb,he,hk0⟩:=h
 have aux:∀p,Lib.BuilderAt 72 5 w3.heap.size w3.heap.size p (Lib.byteCells T) wr→Lib.BuilderAt 72 5 w3.heap.size w3.heap.size p (Lib.byteCells T) wr':=by
  rintro p ⟨h1,v,h2,h3,h4⟩;refine⟨h1,v,?_,h3.kept hg (.inr (fun e=>hm.ne_row h3 e.symm)),h4⟩;rw[hg.block _ (Array.getElem?_eq_some_iff.1 h2).1 (fun e=>by injection e with e;subst e;exact hm.no_cells h2)];exact h2
 exact⟨hb.elim (fun x=> .inl (aux _ x)) (fun x=> .inr (aux _ x)),he,hk0.grown hg hk0.size (fun k hk=>by injection hk with hk;omega)⟩
end Go.Proofs.YtcdekelomkcahaaGreatDoor
