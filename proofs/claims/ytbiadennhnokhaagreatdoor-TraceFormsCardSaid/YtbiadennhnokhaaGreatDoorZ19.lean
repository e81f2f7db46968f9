import Derived.Test.YtbiadennhnokhaaGreatDoorZ00
import Derived.Test.YtbiadennhnokhaaGreatDoorZ17
set_option maxRecDepth 100000
set_option maxHeartbeats 16000000
namespace Go.Proofs.YtbiadennhnokhaaGreatDoor
open Go.RowKit
set_option linter.unusedSimpArgs false
def zl9 (x y:Vr):Bool:=decide (x.nm=y.nm)&&(decide (x.rg=y.rg)&&(decide (x.mb=y.mb)&&decide (x.lb=y.lb)))
theorem zma {x y:Vr}:zl9 x y=true↔x.nm=y.nm∧x.rg=y.rg∧x.mb=y.mb∧x.lb=y.lb:=by
 unfold zl9;simp only[Bool.and_eq_true,decide_eq_true_iff]
theorem zlU (x y:Vr) (w:World):Calls Tryz.prog 173 #[vrV x,vrV y] w fun e w'=>e=.returned (.bool (zl9 x y))∧Below w.heap.size w w':=by
 obtain⟨R,hR⟩:∃R,R=zl9 x y:=⟨_,rfl⟩;rw[←hR]
 have hn:∀(h:¬(x.nm=y.nm∧x.rg=y.rg∧x.mb=y.mb∧x.lb=y.lb)),R=false:=fun h=>by
  rw[hR,←Bool.not_eq_true,zma];exact h
 have hy:x.nm=y.nm→x.rg=y.rg→x.mb=y.mb→x.lb=y.lb→R=true:=fun a b c d=>by rw[hR,zma];exact⟨a,b,c,d⟩
 have HB:=lhd (show Below w.heap.size w ((w.alloc (.cells #[.string (bsB x.nm),.int .i64 x.ty,.int .i64 x.sc,.int .i64 x.sg,.bool x.rg,.int .i64 x.mb,.int .i64 x.lb] 42)).alloc (.cells #[.string (bsB y.nm),.int .i64 y.ty,.int .i64 y.sc,.int .i64 y.sg,.bool y.rg,.int .i64 y.mb,.int .i64 y.lb] 42))from((Below.refl _ _).alloc (Nat.le_refl _) _).alloc (by simp) _);have HN:=lhd hn;have HY:=lhd hy;obtain⟨nm,ty,sc,sg,rg,mb,lb⟩:=x;obtain⟨nm2,ty2,sc2,sg2,rg2,mb2,lb2⟩:=y;dsimp only at*;clear hn hy hR;by_cases h0:nm=nm2
 rotate_left
 ·have HR:=lhd (HN.out fun h=>h0 h.1);have hss:=za1 (zbv h0);clear h0 HN HY;go_enter Tryz.func173,Tryz.ntmps173;go_wp2_with fail;go_ret;exact⟨zli HR.out.symm,HB.out⟩
 subst h0;by_cases h1:rg=rg2
 rotate_left
 ·have HR:=lhd (HN.out fun h=>h1 h.2.1);have hbb:(rg=true∧rg2=false)∨(rg=false∧rg2=true):=by cases rg<;>cases rg2<;>simp_all
  clear h1 HN HY;rcases hbb with⟨rfl,rfl⟩|⟨rfl,rfl⟩
  ·skip
   go_enter Tryz.func173,Tryz.ntmps173;go_wp2_with fail;go_ret;exact⟨zli HR.out.symm,HB.out⟩
  ·skip
   go_enter Tryz.func173,Tryz.ntmps173;go_wp2_with fail;go_ret;exact⟨zli HR.out.symm,HB.out⟩
 subst h1;by_cases h2:mb=mb2
 rotate_left
 ·have HR:=lhd (HN.out fun h=>h2 h.2.2.1);have hnb:(mb==mb2)=false:=by rw[beq_eq_false_iff_ne];exact h2
  clear h2 HN HY;go_enter Tryz.func173,Tryz.ntmps173;go_wp2_with fail;go_ret;exact⟨zli HR.out.symm,HB.out⟩
 subst h2;by_cases h3:lb=lb2
 rotate_left
 ·have HR:=lhd (HN.out fun h=>h3 h.2.2.2);have hnb:(lb==lb2)=false:=by rw[beq_eq_false_iff_ne];exact h3
  clear h3 HN HY;go_enter Tryz.func173,Tryz.ntmps173;go_wp2_with fail;go_ret;exact⟨zli HR.out.symm,HB.out⟩
 subst h3;have HR:=lhd (HY.out rfl rfl rfl rfl);clear HN HY;go_enter Tryz.func173,Tryz.ntmps173;go_wp2_with fail;go_ret;exact⟨zli HR.out.symm,HB.out⟩
theorem zlS (c:UInt8) (w:World):Calls Tryz.prog 268 #[.int .u8 (c.toNat:Int)] w fun e w'=>e=.returned (.bool (prn c))∧w=w':=by
 obtain⟨R,hR⟩:∃R,R=prn c:=⟨_,rfl⟩;rw[←hR];unfold prn at hR;generalize c.toNat=n at*;by_cases h1:33≤n
 ·have b1:decide (33≤(n:Int))=true:=by rw[decide_eq_true_iff];omega
  by_cases h2:n≤126
  ·have b2:decide ((n:Int)≤126)=true:=by rw[decide_eq_true_iff];omega
   have HR:=lhd (show R=true by rw[hR,decide_eq_true h1,decide_eq_true h2];rfl);clear hR h1 h2;go_enter Tryz.func268,Tryz.ntmps268;go_wp2_with fail;go_ret;exact⟨zli HR.out.symm,rfl⟩
  ·have b2:decide ((n:Int)≤126)=false:=by rw[decide_eq_false_iff_not];omega
   have HR:=lhd (show R=false by rw[hR,decide_eq_false h2,Bool.and_false]);clear hR h1 h2;go_enter Tryz.func268,Tryz.ntmps268;go_wp2_with fail;go_ret;exact⟨zli HR.out.symm,rfl⟩
 ·have b1:decide (33≤(n:Int))=false:=by rw[decide_eq_false_iff_not];omega
  have HR:=lhd (show R=false by rw[hR,decide_eq_false h1,Bool.false_and]);clear hR h1;go_enter Tryz.func268,Tryz.ntmps268;go_wp2_with fail;go_ret;exact⟨zli HR.out.symm,rfl⟩
theorem zlR (s:ByteArray) (w:World) (hm:s.size≤1000000):Calls Tryz.prog 224 #[.string s] w fun e w'=>e=.returned (.bool (s.data.toList.all prn))∧w=w':=by
 obtain⟨R,hR⟩:∃R,R=s.data.toList.all prn:=⟨_,rfl⟩;rw[←hR];have HRR:=lhd hR;clear hR;go_enter Tryz.func224,Tryz.ntmps224;go_wp2_with fail;go_loopw [3] (fun i wr=>∃k:Nat,k≤s.size∧i=.int .i64 k∧(s.data.toList.take k).all prn=true∧w=wr) (fun i _=>s.size-(intOf i).toNat)
 case atStart=>exact⟨0,Nat.zero_le _,rfl,rfl,rfl⟩
 case round=>
  obtain⟨k,hk,rfl,hall,rfl⟩:=hrel;have HA:=lhd hall;clear hall;by_cases hlt:k<s.size
  ·have hlt2:(k:Int)<(s.size:Int):=by omega
   have HT:=lhd (zaM (p:=prn) hlt);have HN:=lhd (fun h=>zaL (p:=prn) hlt h);have HP:=lhd (zlS (s[k]'hlt) w);have hw1:=zhO k (by omega);cases hp:prn (s[k]'hlt)
   ·have HR:=lhd (show s.data.toList.all prn=false from HN.out hp);rw[hp]at HP;clear hp;go_wp2_with fail;refine HP.out.mono ?_;rintro e w1 ⟨rfl,rfl⟩;go_wp2_with fail;go_ret;exact⟨zli (HRR.out.trans HR.out).symm,rfl⟩
   ·have HA2:=lhd (show(s.data.toList.take (k+1)).all prn=true by
     rw[HT.out,HA.out,hp];rfl)
    rw[hp]at HP;clear hp;go_wp2_with fail;refine HP.out.mono ?_;rintro e w1 ⟨rfl,rfl⟩;go_wp2_with fail;go_roundw;case rel=>exact⟨k+1,by omega,by go_num,HA2.out,by first|trivial|rfl⟩
    case measure=>simp[intOf];omega
  ·obtain rfl:k=s.size:=by omega
   have HR:=lhd (show s.data.toList.all prn=true by
    have:=HA.out;rwa [List.take_of_length_le (by simp)]at this)
   go_wp2_with fail;go_ret;exact⟨zli (HRR.out.trans HR.out).symm,rfl⟩
theorem zcX {s:ByteArray} {k:Nat} (h:k<s.size) {c:UInt8}:(s.data.toList.take (k+1)).contains c=((s.data.toList.take k).contains c||(s[k]'h==c)):=by
 have hl:k<s.data.toList.length:=by simpa using h
 have e:s.data.toList[k]=s[k]:=by simp;rfl
 rw[List.take_succ_eq_append_getElem hl,e,Bool.eq_iff_iff];simp only[List.contains_iff_mem,List.mem_append,List.mem_singleton,Bool.or_eq_true,beq_iff_eq];exact⟨fun h=>h.imp_right Eq.symm,fun h=>h.imp_right Eq.symm⟩
theorem zlL (s:ByteArray) (c:UInt8) (z:Int) (hz:(c.toNat:Int)=z) (w:World) (hm:s.size≤1000000):Calls Tryz.prog 225 #[.string s,.int .u8 z,.int .i64 0] w fun e w'=>(∃r:Int,e=.returned (.int .i64 r)∧decide (r<0)=!s.data.toList.contains c)∧w=w':=by
 obtain⟨R,hR⟩:∃R,R=!s.data.toList.contains c:=⟨_,rfl⟩;rw[←hR];have HRR:=lhd hR;have HZ:=lhd hz;clear hR hz;go_enter Tryz.func225,Tryz.ntmps225;go_wp2_with fail;go_loop [7] (fun i=>∃k:Nat,k≤s.size∧i=.int .i64 k∧(s.data.toList.take k).contains c=false) (fun i=>s.size-(intOf i).toNat)
 case atStart=>exact⟨0,Nat.zero_le _,rfl,rfl⟩
 case round=>
  obtain⟨k,hk,rfl,hno⟩:=hrel;have HNO:=lhd hno;clear hno;by_cases hlt:k<s.size
  ·have hlt2:(k:Int)<(s.size:Int):=by omega
   have HT:=lhd (zcX (c:=c) hlt);have hw1:=zhO k (by omega);by_cases he:s[k]'hlt=c
   ·have hb:(((s[k]'hlt).toNat:Int)==z)=true:=by rw[he,HZ.out];simp
    have HR:=lhd (show decide ((k:Int)<0)=R by
     rw[HRR.out];have h1:(s.data.toList.take (k+1)).contains c=true:=by rw[HT.out,he];simp
     have h2:s.data.toList.contains c=true:=by
      rw[List.contains_iff_mem]at h1⊢;exact List.mem_of_mem_take h1
     rw[h2,Bool.not_true,decide_eq_false_iff_not];omega)
    clear he;go_wp2_with fail;go_ret;exact⟨⟨_,rfl,HR.out⟩,rfl⟩
   ·have hb:(((s[k]'hlt).toNat:Int)==z)=false:=by
     rw[beq_eq_false_iff_ne,←HZ.out];intro h;apply he;apply UInt8.toNat_inj.1;omega
    have HN:=lhd (show(s.data.toList.take (k+1)).contains c=false by rw[HT.out,HNO.out,Bool.false_or,beq_eq_false_iff_ne];exact he);clear he;go_wp2_with fail;go_round
    case rel=>exact⟨k+1,by omega,by go_num,HN.out⟩
    case measure=>simp[intOf];omega
  ·obtain rfl:k=s.size:=by omega
   have HR:=lhd (show decide ((-1:Int)<0)=R by
    rw[HRR.out];have:=HNO.out;rw[List.take_of_length_le (by simp)]at this;rw[this];rfl)
   go_wp2_with fail;go_ret;exact⟨⟨_,rfl,HR.out⟩,rfl⟩
theorem zbw (s:Bs):(bsB s).size=s.length:=zbt s
theorem zbu {c:UInt8} {t:Bs} (h:0<(bsB (c::t)).size):(bsB (c::t))[0]'h=c:=rfl
theorem zlp (s:Bs) (w:World) (hm:s.length≤100000):Calls Tryz.prog 223 #[.string (bsB s)] w fun e w'=>e=.returned (.bool (escN s))∧w=w':=by
 obtain⟨R,hR⟩:∃R,R=escN s:=⟨_,rfl⟩;rw[←hR];have HP:=lhd (zlR (bsB s) w (by rw[zbw];omega));have hsz:=zbw s;by_cases h1:2≤s.length
 rotate_left
 ·have HR:=lhd (show R=false by rw[hR];unfold escN;rw[decide_eq_false h1];rfl);have b1:decide ((2:Int)≤((bsB s).size:Int))=false:=by rw[hsz,decide_eq_false_iff_not];omega
  clear hR h1 HP hsz;go_enter Tryz.func223,Tryz.ntmps223;go_wp2_with fail;go_ret;exact⟨zli HR.out.symm,rfl⟩
 have b1:decide ((2:Int)≤((bsB s).size:Int))=true:=by rw[hsz,decide_eq_true_iff];omega
 by_cases h2:s.length≤32
 rotate_left
 ·have HR:=lhd (show R=false by rw[hR];unfold escN;rw[decide_eq_false h2,Bool.false_and,Bool.and_false]);have b2:decide (((bsB s).size:Int)≤32)=false:=by rw[hsz,decide_eq_false_iff_not];omega
  clear hR h1 h2 HP hsz;go_enter Tryz.func223,Tryz.ntmps223;go_wp2_with fail;go_ret;exact⟨zli HR.out.symm,rfl⟩
 have b2:decide (((bsB s).size:Int)≤32)=true:=by rw[hsz,decide_eq_true_iff];omega
 obtain⟨c,t,rfl⟩:∃c t,s=c::t:=by
  cases s with
  |nil=>simp at h1
  |cons c t=>exact⟨c,t,rfl⟩
 have h0:0<(bsB (c::t)).size:=by rw[hsz];simp
 have hix:=zbu h0;have e92:=zpi c 92 (by decide);by_cases hc:c=92
 rotate_left
 ·have HR:=lhd (show R=false by
   rw[hR];unfold escN;rw[List.head?_cons,decide_eq_false (show ¬some c=some 92 by simpa using hc),Bool.false_and,Bool.and_false,Bool.and_false])
  have b3:((c.toNat:Int)==92)=false:=by rw[show(92:Int)=((92:Nat):Int)from rfl,e92];simpa using hc
  clear hR h1 h2 HP hsz e92 hc;generalize bsB (c::t)=x at*;go_enter Tryz.func223,Tryz.ntmps223;go_wp2_with fail;go_ret;exact⟨zli HR.out.symm,rfl⟩
 have b3:((c.toNat:Int)==92)=true:=by rw[show(92:Int)=((92:Nat):Int)from rfl,e92];simp[hc]
 have HR:=lhd (show R=((bsB (c::t)).data.toList.all prn)by
  rw[hR,zbq];unfold escN;rw[List.head?_cons,decide_eq_true h1,decide_eq_true h2,decide_eq_true (show some c=some 92 by rw[hc]),Bool.true_and,Bool.true_and,Bool.true_and])
 clear hR h1 h2 hsz e92 hc;generalize (bsB (c::t)).data.toList.all prn=q at HP HR;generalize bsB (c::t)=x at*;go_enter Tryz.func223,Tryz.ntmps223;go_wp2_with fail;refine HP.out.mono ?_;rintro e w1 ⟨rfl,rfl⟩;go_wp2_with fail;go_ret;exact⟨zli HR.out.symm,rfl⟩
theorem zlN (s:Bs) (w:World) (hm:s.length≤100000):Calls Tryz.prog 172 #[.string (bsB s)] w fun e w'=>e=.returned (.bool (zhM s))∧w=w':=by
 obtain⟨R,hR⟩:∃R,R=zhM s:=⟨_,rfl⟩;rw[←hR];rw[←zkK]at hR;unfold refN at hR;have HE:=lhd (zlp s w hm);have HP:=lhd (zlR (bsB s) w (by rw[zbw];omega));have HI:=lhd (fun c z hz=>zlL (bsB s) c z hz w (by rw[zbw];omega));have hsz:=zbw s;rw[zbq]at HP HI;cases he:escN s
 rotate_left
 ·have HR:=lhd (show R=true by rw[hR,he];rfl);rw[he]at HE;clear hR he HP HI hsz;go_enter Tryz.func172,Tryz.ntmps172;go_wp2_with fail;refine HE.out.mono ?_;rintro e w1 ⟨rfl,rfl⟩;go_wp2_with fail;go_ret;exact⟨zli HR.out.symm,rfl⟩
 rw[he]at HE;rw[he,Bool.false_or]at hR;clear he;obtain⟨x0,hx0⟩:∃x,x=bsB s:=⟨_,rfl⟩;rw[←hx0]at HE HP HI hsz⊢;cases s with
 |nil=>
  obtain rfl:x0=⟨#[]⟩:=hx0;have HR:=lhd (show R=false by rw[hR];rfl);have hb1:(⟨#[]⟩:ByteArray).toList.isEmpty=true:=by rw[ByteArray.toList_eq];rfl
  clear hR HP HI hsz;go_enter Tryz.func172,Tryz.ntmps172;go_wp2_with fail;refine HE.out.mono ?_;rintro e w1 ⟨rfl,rfl⟩;go_wp2_with fail;go_ret;exact⟨zli HR.out.symm,rfl⟩
 |cons c t=>
  subst hx0;have hne:(bsB (c::t)).toList.isEmpty=false:=zoZ (by rw[zbw];simp);rw[decide_eq_true (show(c::t)≠ []by simp),Bool.true_and]at hR;have h0:0<(bsB (c::t)).size:=by rw[hsz];simp
  have hix:=zbu h0;have e36:=zpi c 36 (by decide);by_cases h2:(c::t).length≤32
  rotate_left
  ·have HR:=lhd (show R=false by rw[hR,decide_eq_false h2,Bool.false_and]);have b2:decide (((bsB (c::t)).size:Int)≤32)=false:=by rw[hsz,decide_eq_false_iff_not];omega
   clear hR HP HI hsz h2;generalize bsB (c::t)=x at*;go_enter Tryz.func172,Tryz.ntmps172;go_wp2_with fail;refine HE.out.mono ?_;rintro e w1 ⟨rfl,rfl⟩;go_wp2_with fail;go_ret;exact⟨zli HR.out.symm,rfl⟩
  have b2:decide (((bsB (c::t)).size:Int)≤32)=true:=by rw[hsz,decide_eq_true_iff];omega
  rw[decide_eq_true h2,Bool.true_and]at hR;cases hp:(c::t).all prn
  ·have HR:=lhd (show R=false by rw[hR,hp,Bool.false_and]);rw[hp]at HP;clear hR HI hsz h2 hp;generalize bsB (c::t)=x at*;go_enter Tryz.func172,Tryz.ntmps172;go_wp2_with fail;refine HE.out.mono ?_;rintro e w1 ⟨rfl,rfl⟩;go_wp2_with fail;refine HP.out.mono ?_;rintro e w1 ⟨rfl,rfl⟩;go_wp2_with fail;go_ret;exact⟨zli HR.out.symm,rfl⟩
  rw[hp]at HP;rw[hp,Bool.true_and]at hR;by_cases hc:c=36
  ·have HR:=lhd (show R=false by rw[hR,List.head?_cons,decide_eq_false (show ¬some c≠some 36 by simpa using hc),Bool.false_and]);have b3:((c.toNat:Int)==36)=true:=by rw[show(36:Int)=((36:Nat):Int)from rfl,e36];simp[hc]
   have b5:((c.toNat:Int) !=36)=false:=by rw[bne,b3];rfl
   clear hR HI hsz h2 hp e36 hc;generalize bsB (c::t)=x at*;go_enter Tryz.func172,Tryz.ntmps172;go_wp2_with fail;refine HE.out.mono ?_;rintro e w1 ⟨rfl,rfl⟩;go_wp2_with fail;refine HP.out.mono ?_;rintro e w1 ⟨rfl,rfl⟩;go_wp2_with fail;go_ret;exact⟨zli HR.out.symm,rfl⟩
  have b3:((c.toNat:Int)==36)=false:=by rw[show(36:Int)=((36:Nat):Int)from rfl,e36];simpa using hc
  have b5:((c.toNat:Int) !=36)=true:=by rw[bne,b3];rfl
  rw[List.head?_cons,decide_eq_true (show some c≠some 36 by simpa using hc),Bool.true_and]at hR;have I1:=lhd (HI.out 92 92 rfl);have I2:=lhd (HI.out 46 46 rfl);have I3:=lhd (HI.out 91 91 rfl);have I4:=lhd (HI.out 93 93 rfl);clear hsz h2 hp e36 hc HI;generalize (c::t).contains 92=q1 at*;generalize (c::t).contains 46=q2 at*;generalize (c::t).contains 91=q3 at*;generalize (c::t).contains 93=q4 at*;generalize bsB (c::t)=x at*;cases q1
  rotate_left
  ·have HR:=lhd (show R=false from hR);clear hR;go_enter Tryz.func172,Tryz.ntmps172;go_wp2_with fail;refine HE.out.mono ?_;rintro e w1 ⟨rfl,rfl⟩;go_wp2_with fail;refine HP.out.mono ?_;rintro e w1 ⟨rfl,rfl⟩;go_wp2_with fail;refine(I1).out.mono ?_;rintro e w1 ⟨⟨r,rfl,hr⟩,rfl⟩;go_wp2_with fail;go_ret;exact⟨zli HR.out.symm,rfl⟩
  cases q2
  rotate_left
  ·have HR:=lhd (show R=false from hR);clear hR;go_enter Tryz.func172,Tryz.ntmps172;go_wp2_with fail;refine HE.out.mono ?_;rintro e w1 ⟨rfl,rfl⟩;go_wp2_with fail;refine HP.out.mono ?_;rintro e w1 ⟨rfl,rfl⟩;go_wp2_with fail;refine(I1).out.mono ?_;rintro e w1 ⟨⟨r,rfl,hr⟩,rfl⟩;go_wp2_with fail;clear hr;refine(I2).out.mono ?_;rintro e w1 ⟨⟨r,rfl,hr⟩,rfl⟩;go_wp2_with fail;go_ret;exact⟨zli HR.out.symm,rfl⟩
  cases q3
  rotate_left
  ·have HR:=lhd (show R=false from hR);clear hR;go_enter Tryz.func172,Tryz.ntmps172;go_wp2_with fail;refine HE.out.mono ?_;rintro e w1 ⟨rfl,rfl⟩;go_wp2_with fail;refine HP.out.mono ?_;rintro e w1 ⟨rfl,rfl⟩;go_wp2_with fail;refine(I1).out.mono ?_;rintro e w1 ⟨⟨r,rfl,hr⟩,rfl⟩;go_wp2_with fail;clear hr;refine(I2).out.mono ?_;rintro e w1 ⟨⟨r,rfl,hr⟩,rfl⟩;go_wp2_with fail;clear hr;refine(I3).out.mono ?_;rintro e w1 ⟨⟨r,rfl,hr⟩,rfl⟩;go_wp2_with fail;go_ret;exact⟨zli HR.out.symm,rfl⟩
  have HR:=lhd (show R=!q4 from hR);clear hR;go_enter Tryz.func172,Tryz.ntmps172;go_wp2_with fail;refine HE.out.mono ?_;rintro e w1 ⟨rfl,rfl⟩;go_wp2_with fail;refine HP.out.mono ?_;rintro e w1 ⟨rfl,rfl⟩;go_wp2_with fail;refine(I1).out.mono ?_;rintro e w1 ⟨⟨r,rfl,hr⟩,rfl⟩;go_wp2_with fail;clear hr;refine(I2).out.mono ?_;rintro e w1 ⟨⟨r,rfl,hr⟩,rfl⟩;go_wp2_with fail;clear hr;refine(I3).out.mono ?_;rintro e w1 ⟨⟨r,rfl,hr⟩,rfl⟩;go_wp2_with fail;clear hr;refine I4.out.mono ?_;rintro e w1 ⟨⟨r,rfl,hr⟩,rfl⟩;go_wp2_with fail;go_ret;exact⟨zli (by first|(rw[HR.out];done)|(rw[HR.out];exact hr)),rfl⟩
end Go.Proofs.YtbiadennhnokhaaGreatDoor
