import Derived.Test.YtcdekelomkcahaaGreatDoorZ00
import Derived.Test.YtcdekelomkcahaaGreatDoorZ21
import Derived.Test.YtcdekelomkcahaaGreatDoorZ22
set_option maxRecDepth 100000
set_option maxHeartbeats 16000000
namespace Go.Proofs.YtcdekelomkcahaaGreatDoor
structure DD where
 sc:Int
 dt:Bs
 vn:Bs
 cm:Bs
 S:List Sc
 D:List Dcl
def szD (x:Dcl):Int:=if x.kind=0 then x.width else if x.kind=1 then 64 else 1
def rngT (m l:Int):Bs:=if m=l then 91::(Lib.itoa m++ [93])else 91::(Lib.itoa m++58::(Lib.itoa l++ [93]))
def refW (x:Dcl):List Bs:=if x.rg=true then [x.nm,rngT x.mb x.lb]else [x.nm]
def refT (x:Dcl):Bs:=zgc (refW x)
def secT (ws:List Bs):Bs:=zgc (ws++ [sEnd])
def varT (x:Dcl):Bs:=secT [sVar,zhx varW x.ty,Lib.itoa (szD x),x.code,refT x]
def zl3 (s:Sc):Bs:=secT [zlC,zhx zl4 s.2.1,s.1]
def inT (S:List Sc) (D:List Dcl):Nat→Int→List Bs
 |0,_=> []
 |f+1,p=>(D.filter fun x=>decide (x.sc=p)).map varT++(List.range S.length).flatMap fun i=>if parS S i=p then zl3 (S.getD i ([],0,0))::(inT S D f i++ [secT [zlE]])else []
def optT (k t:Bs):List Bs:=if t=[]then []else [secT [k,t]]
def zgR (d:DD):List Bs:=optT zlw d.dt++(optT zlF d.vn++(optT zlv d.cm++(optT zlD (zlU d.sc)++(inT d.S d.D (d.S.length+1) (-1)++ [secT [zlB]]))))
def fmtD (d:DD):Bs:=zgS (zgR d)
theorem zgd (w x:Bs) (l:List Bs):zgc (w::x::l)=w++32::zgc (x::l):=rfl
theorem zp3:∀(l:List Bs),zp1 (zgc l)=l.flatMap zp1
 | []=>rfl
 | [w]=>by rw[show zgc [w]=w from rfl];simp
 |w::x::l=>by rw[zgd,zqe (by decide),zp3 (x::l)];simp[List.flatMap_cons]
theorem zgi:∀(l:List Bs),zgc l=Lib.join l [32]
 | []=>rfl
 | [w]=>by rw[Lib.join_cons];simp[zgc,Lib.joinTail]
 |w::x::l=>by
  rw[zgd,zgi (x::l),Lib.join_cons,Lib.join_cons];simp[Lib.joinTail]
theorem zp0 {w:Bs} (h:zpZ w=true):(∀c∈w,isW c=false)∧w≠ []∧w.head? ≠some 36:=by
 unfold zpZ at h;simp only[Bool.and_eq_true,Bool.not_eq_true',decide_eq_false_iff_not,List.all_eq_true]at h;exact⟨fun c hc=>zkz (h.2 c hc),h.1.1,h.1.2⟩
theorem zef:∀{l:List Bs},(∀w∈l,(∀c∈w,isW c=false)∧w≠ [])→l.flatMap zp1=l
 | [],_=>rfl
 |w::l,h=>by
  rw[List.flatMap_cons,zqb (h w List.mem_cons_self).1 (h w List.mem_cons_self).2,zef fun x hx=>h x (List.mem_cons_of_mem _ hx)];rfl
theorem zp7 {s:Bs} (h:zp2 s=true) (hn:s≠ []):zp1 s=spl s []∧zgg (spl s [])=(s,0)∧∀w∈spl s [],w≠sEnd:=by
 unfold zp2 at h;rw[decide_eq_false hn,Bool.false_or,Bool.and_eq_true,decide_eq_true_iff]at h;have hj:zgc (spl s [])=s:=by rw[zgi,zmR]
 have ha:=h.1;rw[List.all_eq_true]at ha;refine⟨?_,?_,fun w hw he=>?_⟩
 ·conv=>lhs;rw[←hj]
  rw[zp3];exact zef fun w hw=>⟨(zp0 (ha w hw)).1,(zp0 (ha w hw)).2.1⟩
 ·unfold zgg;rw[if_neg (by rw[h.1];simp),hj,if_neg (by omega)]
 ·have:=(zp0 (ha w hw)).2.2;rw[he]at this;exact this rfl
theorem zqa (ws:List Bs):zp1 (secT ws)=ws.flatMap zp1++ [sEnd]:=by
 unfold secT;rw[zp3,List.flatMap_append,List.flatMap_cons,zp8];rfl
def Rd (s:DS) (L:List Bs) (s':DS):Prop:=∀(ws rest:List Wd),ws.map (·.1)=L→dRun s (ws++rest)=((dRun s' rest).1,(dRun s' rest).2+ws.length)
theorem Rd.refl (s:DS):Rd s [] s:=fun ws rest h=>by
 obtain rfl:ws=[]:=List.map_eq_nil_iff.1 h;simp
theorem Rd.trans {s s' s'':DS} {L M:List Bs} (h:Rd s L s') (k:Rd s' M s''):Rd s (L++M) s'':=fun ws rest he=>by
 obtain⟨u,v,rfl,h1,h2⟩:=zhd he;rw[List.append_assoc,h u _ h1,k v _ h2,List.length_append];refine Prod.ext rfl ?_;show _+_+_=_+_;omega
theorem zco:∀{c:List Wd} {e:Wd} {rest:List Wd},(∀x∈c,x.1≠sEnd)→e.1=sEnd→zck (c++e::rest)=c∧zeE (c++e::rest)=true
 | [],e,rest,_,he=>by
   rw[List.nil_append,zcn,if_pos he,zeF,decide_eq_true he];exact⟨rfl,rfl⟩
 |x::c,e,rest,hc,he=>by
  obtain⟨h1,h2⟩:=zco (rest:=rest) (fun y hy=>hc y (List.mem_cons_of_mem _ hy)) he;rw[List.cons_append,zcn,if_neg (hc x List.mem_cons_self),h1,zeF,h2];exact⟨rfl,by simp⟩
def isKw (k:Bs):Bool:=decide (k.head? =some 36)&&!decide (k=sEnd)&&!decide (k=zlA)&&!decide (k=zlx)&&!decide (k=zlz)&&!decide (k=zly)
theorem zkW {s s':DS} {k:Bs} {c:List Bs} (he:s.ended=false) (hk:isKw k=true) (hc:∀x∈c,x≠sEnd) (h:∀w cw,w.1=k→txt cw=c→secP s w cw=s'):Rd s (k::(c++ [sEnd])) s':=by
 intro ws rest hw;unfold isKw at hk;simp only[Bool.and_eq_true,Bool.not_eq_true',decide_eq_false_iff_not,decide_eq_true_iff]at hk;obtain⟨⟨⟨⟨⟨h1,h2⟩,h3⟩,h4⟩,h5⟩,h6⟩:=hk;cases ws with
 |nil=>cases hw
 |cons w v=>
  obtain⟨hw1,hw2⟩:=List.cons.inj hw;obtain⟨cw,ev,rfl,hc1,hc2⟩:=zhd hw2;obtain⟨e,rfl,hee⟩:=zhf hc2;have hcw:∀x∈cw,x.1≠sEnd:=fun x hx=>hc _ (by rw[←hc1];exact List.mem_map.2 ⟨x,hx,rfl⟩);obtain⟨hc3,hc4⟩:=zco (rest:=rest) hcw hee
  have hs:zcF s w (cw++e::rest)=(s',some (cw.length+1)):=by
   unfold zcF
   have hst:znk w=false:=by
    unfold znk;have hw1:w.1=k:=hw1;rw[hw1,decide_eq_false h3,decide_eq_false h4,decide_eq_false h5,decide_eq_false h6,decide_eq_false (by rw[h1];decide)];rfl
   have hlo:zg4 w=false:=by
    unfold zg4;have hw1:w.1=k:=hw1;rw[hw1,decide_eq_false h2,decide_eq_false (by rw[h1];simp)];rfl
   rw[if_neg (by rw[hst];simp),if_neg (by rw[hlo];simp),if_pos hc4,hc3,h w cw hw1 hc1]
  rw[show(w::(cw++ [e]))++rest=w::(cw++e::rest)by simp,zcC he hs,show(cw++e::rest).drop (cw.length+1)=rest by
   rw[←List.drop_drop,List.drop_left];rfl]
  refine Prod.ext rfl ?_;show _+_=_+_;simp
open Go.RowKit
set_option linter.unusedSimpArgs false
theorem zoq (n:Int) (s id:ByteArray) (w:World) (hg:Glob w) (hv:vt 3 n=true) (hs:s.size≤100000) (hid:id.size≤140737488351232):
 Calls Tryz.prog 118 #[.int .i64 3,.int .i64 n,.string s,.string id] w fun e w'=>e=.returned (.string (cmdB 3 n s id))∧Below w.heap.size w w':=by
 have hs2:s.size≤maxLen:=by unfold maxLen;omega
 have HG:=lhd hg;clear hg;go_enter Tryz.func118,Tryz.ntmps118;go_wp2_with fail;refine(zoK 3 n _).mono ?_;rintro e w1 ⟨C,rfl,hb,hC⟩;have HB:=lhd hb;rw[hv];rcases hC with⟨-,h⟩|⟨B,hK,⟨h,-⟩|⟨h,-⟩|⟨h,-⟩|⟨-,rfl⟩⟩
 ·rw[hv]at h;cases h
 ·cases h
 ·cases h
 ·cases h
 ·have HX:=lhd hv;clear hb hv hK;unfold kd3;have hrow:=zaq.fresh w1 (kd3 B) 161;unfold kd3 at hrow;have HROW:=lhd hrow;clear hrow;go_wp2_with fail;refine(zgq n s _).mono ?_;rintro e w2 ⟨rfl,hb2⟩;have HB2:=lhd (zd5 HB.out (zd3 hb2));have c5:=(HROW.out.below hb2 (by simp)).cell (j:=5) rfl;have c6:=(HROW.out.below hb2 (by simp)).cell (j:=6) rfl;clear hb2;cases hvv:nilB s
  ·have HR:=lhd (zbU (k:=3) (n:=n) (s:=s) (id:=id) (by unfold vv;simp[hvv]));clear hvv;go_wp2_with fail;refine bodyPost_ret (v:=.string ⟨#[]⟩) (by simp[results,Tryz.results118,go_sem]) rfl ?_;rw[HR.out];exact⟨rfl,HB2.out⟩
  ·have HVV:=lhd (show vv 3 n s=true by unfold vv;simp[hvv,HX.out]);have HFS:=lhd (show(⟨#[49]⟩:ByteArray).size≤400000 by decide);clear hvv;go_wp2_with fail;refine(zos id _ (by omega)).mono ?_;rintro e w3 ⟨rfl,rfl⟩;cases hc:zb1 id.data.toList
   ·have HR:=lhd (zbU (k:=3) (n:=n) (s:=s) (id:=id) (by rw[hc];simp));clear hc;go_wp2_with fail;refine bodyPost_ret (v:=.string ⟨#[]⟩) (by simp[results,Tryz.results118,go_sem]) rfl ?_;rw[HR.out];exact⟨rfl,HB2.out⟩
   ·have HAL:=lhd (show(vt 3 n&&vv 3 n s&&zb1 id.data.toList)=true by rw[HX.out,HVV.out,hc];rfl);clear hc;have HR:=lhd (zbV HAL.out rfl);have hq1:¬9223372036854775807<1+id.size:=by omega
    go_wp2_with fail;refine(zgr s _).mono ?_;rintro e w4 ⟨rfl,hb4⟩;have HB4:=lhd (zd5 HB2.out hb4);clear hb4;go_wp2_with fail;refine bodyPost_ret (v:=.string (⟨#[49]⟩++id)) (by simp[results,Tryz.results118,go_sem]) rfl ⟨by rw[HR.out];rfl,HB4.out⟩
theorem zb2 (s:Bs):(cmdB 3 0 ⟨#[]⟩ (bsB s)).toList.isEmpty=!zb1 s:=by
 rw[show(⟨#[]⟩:ByteArray)=bsB []from rfl,zbT];unfold cmdL;rw[show(cv.vt 3 0&&cv.vv 3 0 []&&zb1 s)=zb1 s by rw[show cv.vt 3 0=true from rfl,show cv.vv 3 0 []=true from rfl];rfl];cases zb1 s<;>rfl
theorem zdm (s:Bs) (w:World) (hg:Glob w) (hs:s.length≤140737488351232):
 Calls Tryz.prog 65 #[.string (bsB s)] w fun e w'=>e=.returned (.bool (zb1 s))∧Below w.heap.size w w':=by
 have HC:=lhd (zoq 0 ⟨#[]⟩ (bsB s) w hg rfl (by decide) (by rw[zbk];exact hs));have hE:=zb2 s;generalize cmdB 3 0 ⟨#[]⟩ (bsB s)=r at*;go_enter Tryz.func65,Tryz.ntmps65;go_wp2_with fail;refine HC.out.mono ?_;rintro e w1 ⟨rfl,hb⟩;have HB:=lhd hb;clear hb;go_wp2_with fail;go_ret;exact⟨rfl,HB.out⟩
theorem zmg:∀(t:List Wd),zaX t=if zeE t=true then some (t.drop ((zck t).length+1))else none
 | []=>rfl
 |w::t=>by
  show(if w.1=sEnd then some t else zaX t)=_;unfold zeE zck;rw[List.any_cons,List.takeWhile_cons];by_cases h:w.1=sEnd
  ·rw[if_pos h,decide_eq_true h,decide_eq_false (by rw[h];simp)];rfl
  ·rw[if_neg h,decide_eq_false h,decide_eq_true h,Bool.false_or,zmg t];rfl
theorem zmh (ws:List Wd) (i:Nat) (hi:i<ws.length):secN ws i=(if zeE (ws.drop (i+1))=true then i+1+((zck (ws.drop (i+1))).length+1)else ws.length,zeE (ws.drop (i+1))):=by
 unfold secN;rw[zmg];cases h:zeE (ws.drop (i+1))with
 |false=>rfl
 |true=>
  have hl:(zck (ws.drop (i+1))).length<(ws.drop (i+1)).length:=by
   rcases Nat.lt_or_ge (zck (ws.drop (i+1))).length (ws.drop (i+1)).length with h1|h1
   ·exact h1
   ·exfalso
    have h2:zck (ws.drop (i+1))=ws.drop (i+1):=(List.takeWhile_prefix _).eq_of_length_le h1;unfold zeE at h;obtain⟨x,hx,he⟩:=List.any_eq_true.1 h;rw[←h2]at hx;have:=List.all_eq_true.1 (List.all_takeWhile (l:=ws.drop (i+1)) (p:=fun w:Wd=>decide (w.1≠sEnd))) x hx;simp at this he;exact this he
  rw[List.length_drop]at hl;simp only[if_true];rw[List.length_drop,List.length_drop];congr 1
  omega
end Go.Proofs.YtcdekelomkcahaaGreatDoor
