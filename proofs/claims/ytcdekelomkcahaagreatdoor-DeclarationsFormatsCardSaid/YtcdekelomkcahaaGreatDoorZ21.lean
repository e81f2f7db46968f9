import Derived.Test.YtcdekelomkcahaaGreatDoorZ00
import Derived.Test.YtcdekelomkcahaaGreatDoorZ19
import Derived.Test.YtcdekelomkcahaaGreatDoorZ20
set_option maxRecDepth 100000
set_option maxHeartbeats 16000000
namespace Go.Proofs.YtcdekelomkcahaaGreatDoor
open Go.RowKit
theorem zgr (s:ByteArray) (w:World):Calls Tryz.prog 198 #[.string s] w fun e w'=>e=.returned (.string ⟨#[49]⟩)∧Below w.heap.size w w':=by
 go_enter Tryz.func198,Tryz.ntmps198;go_wp2_with fail;go_ret;exact⟨rfl,Below.refl _ _⟩
set_option linter.unusedSimpArgs false
theorem zcn (w:Wd) (t:List Wd):zck (w::t)=if w.1=sEnd then []else w::zck t:=by
 unfold zck;by_cases h:w.1=sEnd
 ·rw[if_pos h,List.takeWhile_cons_of_neg (by simp[h])]
 ·rw[if_neg h,List.takeWhile_cons_of_pos (by simp[h])]
theorem zeF (w:Wd) (t:List Wd):zeE (w::t)=(decide (w.1=sEnd)||zeE t):=rfl
theorem zcp:∀{t:List Wd},zeE t=true→(zck t).length<t.length
 | [],h=>by cases h
 |w::t,h=>by
  rw[zcn];by_cases he:w.1=sEnd
  ·rw[if_pos he];simp
  ·rw[zeF,decide_eq_false he,Bool.false_or]at h;have:=zcp h;rw[if_neg he,List.length_cons,List.length_cons];omega
def DS.pre (x:List Pb) (s:DS):DS:={s with wrong:=x++s.wrong}
structure DD where
 sc:Int
 dt:Bs
 vn:Bs
 cm:Bs
 S:List Sc
 D:List Dcl
def szD (x:Dcl):Int:=if x.kind=0 then x.width else if x.kind=1 then 64 else 1
def rngT (m l:Int):Bs:=if m=l then 91::(Lib.itoa m++ [93])else 91::(Lib.itoa m++58::(Lib.itoa l++ [93]))
def refW (x:Dcl):List Bs:=if x.rg=true then [x.nm,rngT x.mb x.lb]else [x.nm]
def refT (x:Dcl):Bs:=zgc (refW x)
def secT (ws:List Bs):Bs:=zgc (ws++ [sEnd])
def varT (x:Dcl):Bs:=secT [sVar,zhx varW x.ty,Lib.itoa (szD x),x.code,refT x]
def zl3 (s:Sc):Bs:=secT [zlC,zhx zl4 s.2.1,s.1]
def inT (S:List Sc) (D:List Dcl):Nat→Int→List Bs
 |0,_=> []
 |f+1,p=>(D.filter fun x=>decide (x.sc=p)).map varT++(List.range S.length).flatMap fun i=>if parS S i=p then zl3 (S.getD i ([],0,0))::(inT S D f i++ [secT [zlE]])else []
def optT (k t:Bs):List Bs:=if t=[]then []else [secT [k,t]]
def zgR (d:DD):List Bs:=optT zlw d.dt++(optT zlF d.vn++(optT zlv d.cm++(optT zlD (zlU d.sc)++(inT d.S d.D (d.S.length+1) (-1)++ [secT [zlB]]))))
def fmtD (d:DD):Bs:=zgS (zgR d)
theorem zgd (w x:Bs) (l:List Bs):zgc (w::x::l)=w++32::zgc (x::l):=rfl
theorem zgi:∀(l:List Bs),zgc l=Lib.join l [32]
 | []=>rfl
 | [w]=>by rw[Lib.join_cons];simp[zgc,Lib.joinTail]
 |w::x::l=>by
  rw[zgd,zgi (x::l),Lib.join_cons,Lib.join_cons];simp[Lib.joinTail]
theorem zp0 {w:Bs} (h:zpZ w=true):(∀c∈w,isW c=false)∧w≠ []∧w.head? ≠some 36:=by
 unfold zpZ at h;simp only[Bool.and_eq_true,Bool.not_eq_true',decide_eq_false_iff_not,List.all_eq_true]at h;exact⟨fun c hc=>zkz (h.2 c hc),h.1.1,h.1.2⟩
def Rd (s:DS) (L:List Bs) (s':DS):Prop:=∀(ws rest:List Wd),ws.map (·.1)=L→dRun s (ws++rest)=((dRun s' rest).1,(dRun s' rest).2+ws.length)
theorem Rd.refl (s:DS):Rd s [] s:=fun ws rest h=>by
 obtain rfl:ws=[]:=List.map_eq_nil_iff.1 h;simp
theorem Rd.trans {s s' s'':DS} {L M:List Bs} (h:Rd s L s') (k:Rd s' M s''):Rd s (L++M) s'':=fun ws rest he=>by
 obtain⟨u,v,rfl,h1,h2⟩:=zhd he;rw[List.append_assoc,h u _ h1,k v _ h2,List.length_append];refine Prod.ext rfl ?_;show _+_+_=_+_;omega
theorem zde:∀d:Fin 10,UInt8.ofNat (48+d.val)=48→d.val=0:=by decide
theorem zcT:∀(u:Nat),0<u→(Lib.decDigits u).head? ≠some 48:=by
 intro u;induction u using Nat.strongRecOn with
 |_ u ih=>
  intro hu h;rw[Lib.decDigits]at h;by_cases hs:u<10
  ·rw[dif_pos hs]at h;have:=zde ⟨u,hs⟩ (Option.some.inj h);have:u=0:=this;omega
  ·rw[dif_neg hs]at h;refine ih (u/10) (by omega) (by omega) ?_;cases hd:Lib.decDigits (u/10)with
   |nil=>exact absurd hd (zcL _)
   |cons d t=>rw[hd]at h;exact h
theorem zcU {u:Nat} (h:u<1000000000):(Lib.decDigits u).length≤9∧1≤(Lib.decDigits u).length:=by
 rw[Lib.decDigits_length];exact⟨zhw 8 u (by simpa using h),Lib.nDigits_pos u⟩
theorem zbc {m:Int} (h:zba m=true): -32768≤m∧m≤32768:=by
 unfold zba at h;rw[Bool.and_eq_true,decide_eq_true_iff,decide_eq_true_iff]at h;exact h
theorem zmL {n:Int} (h0:1≤n) (h1:n<1000000000):zmK (Lib.itoa n)=some n:=by
 have e:Lib.itoa n=Lib.decDigits n.toNat:=by unfold Lib.itoa;rw[if_neg (by omega)]
 have hl:=zcU (u:=n.toNat) (by omega);unfold zmK;rw[e,if_neg,zcM]
 ·congr 1;omega
 ·rintro(h|h|h|h)
  ·exact zcL _ h
  ·omega
  ·rw[zcK]at h;cases h
  ·exact zcT _ (by omega) h
theorem zoq (n:Int) (s id:ByteArray) (w:World) (hg:Glob w) (hv:vt 3 n=true) (hs:s.size≤100000) (hid:id.size≤140737488351232):
 Calls Tryz.prog 118 #[.int .i64 3,.int .i64 n,.string s,.string id] w fun e w'=>e=.returned (.string (cmdB 3 n s id))∧Below w.heap.size w w':=by
 have hs2:s.size≤maxLen:=by unfold maxLen;omega
 have HG:=lhd hg;clear hg;go_enter Tryz.func118,Tryz.ntmps118;go_wp2_with fail;refine(zoK 3 n _).mono ?_;rintro e w1 ⟨C,rfl,hb,hC⟩;have HB:=lhd hb;rw[hv];rcases hC with⟨-,h⟩|⟨B,hK,⟨h,-⟩|⟨h,-⟩|⟨h,-⟩|⟨-,rfl⟩⟩
 ·rw[hv]at h;cases h
 ·cases h
 ·cases h
 ·cases h
 ·have HX:=lhd hv;clear hb hv hK;unfold kd3;have hrow:=zaq.fresh w1 (kd3 B) 161;unfold kd3 at hrow;have HROW:=lhd hrow;clear hrow;go_wp2_with fail;refine(zgq n s _).mono ?_;rintro e w2 ⟨rfl,hb2⟩;have HB2:=lhd (zd5 HB.out (zd3 hb2));have c5:=(HROW.out.below hb2 (by simp)).cell (j:=5) rfl;have c6:=(HROW.out.below hb2 (by simp)).cell (j:=6) rfl;clear hb2;cases hvv:nilB s
  ·have HR:=lhd (zbU (k:=3) (n:=n) (s:=s) (id:=id) (by unfold vv;simp[hvv]));clear hvv;go_wp2_with fail;refine bodyPost_ret (v:=.string ⟨#[]⟩) (by simp[results,Tryz.results118,go_sem]) rfl ?_;rw[HR.out];exact⟨rfl,HB2.out⟩
  ·have HVV:=lhd (show vv 3 n s=true by unfold vv;simp[hvv,HX.out]);have HFS:=lhd (show(⟨#[49]⟩:ByteArray).size≤400000 by decide);clear hvv;go_wp2_with fail;refine(zos id _ (by omega)).mono ?_;rintro e w3 ⟨rfl,rfl⟩;cases hc:zb1 id.data.toList
   ·have HR:=lhd (zbU (k:=3) (n:=n) (s:=s) (id:=id) (by rw[hc];simp));clear hc;go_wp2_with fail;refine bodyPost_ret (v:=.string ⟨#[]⟩) (by simp[results,Tryz.results118,go_sem]) rfl ?_;rw[HR.out];exact⟨rfl,HB2.out⟩
   ·have HAL:=lhd (show(vt 3 n&&vv 3 n s&&zb1 id.data.toList)=true by rw[HX.out,HVV.out,hc];rfl);clear hc;have HR:=lhd (zbV HAL.out rfl);have hq1:¬9223372036854775807<1+id.size:=by omega
    go_wp2_with fail;refine(zgr s _).mono ?_;rintro e w4 ⟨rfl,hb4⟩;have HB4:=lhd (zd5 HB2.out hb4);clear hb4;go_wp2_with fail;refine bodyPost_ret (v:=.string (⟨#[49]⟩++id)) (by simp[results,Tryz.results118,go_sem]) rfl ⟨by rw[HR.out];rfl,HB4.out⟩
theorem zb2 (s:Bs):(cmdB 3 0 ⟨#[]⟩ (bsB s)).toList.isEmpty=!zb1 s:=by
 rw[show(⟨#[]⟩:ByteArray)=bsB []from rfl,zbT];unfold cmdL;rw[show(cv.vt 3 0&&cv.vv 3 0 []&&zb1 s)=zb1 s by rw[show cv.vt 3 0=true from rfl,show cv.vv 3 0 []=true from rfl];rfl];cases zb1 s<;>rfl
theorem zdm (s:Bs) (w:World) (hg:Glob w) (hs:s.length≤140737488351232):
 Calls Tryz.prog 65 #[.string (bsB s)] w fun e w'=>e=.returned (.bool (zb1 s))∧Below w.heap.size w w':=by
 have HC:=lhd (zoq 0 ⟨#[]⟩ (bsB s) w hg rfl (by decide) (by rw[zbk];exact hs));have hE:=zb2 s;generalize cmdB 3 0 ⟨#[]⟩ (bsB s)=r at*;go_enter Tryz.func65,Tryz.ntmps65;go_wp2_with fail;refine HC.out.mono ?_;rintro e w1 ⟨rfl,hb⟩;have HB:=lhd hb;clear hb;go_wp2_with fail;go_ret;exact⟨rfl,HB.out⟩
theorem zmg:∀(t:List Wd),zaX t=if zeE t=true then some (t.drop ((zck t).length+1))else none
 | []=>rfl
 |w::t=>by
  show(if w.1=sEnd then some t else zaX t)=_;unfold zeE zck;rw[List.any_cons,List.takeWhile_cons];by_cases h:w.1=sEnd
  ·rw[if_pos h,decide_eq_true h,decide_eq_false (by rw[h];simp)];rfl
  ·rw[if_neg h,decide_eq_false h,decide_eq_true h,Bool.false_or,zmg t];rfl
theorem zmh (ws:List Wd) (i:Nat) (hi:i<ws.length):secN ws i=(if zeE (ws.drop (i+1))=true then i+1+((zck (ws.drop (i+1))).length+1)else ws.length,zeE (ws.drop (i+1))):=by
 unfold secN;rw[zmg];cases h:zeE (ws.drop (i+1))with
 |false=>rfl
 |true=>
  have hl:(zck (ws.drop (i+1))).length<(ws.drop (i+1)).length:=by
   rcases Nat.lt_or_ge (zck (ws.drop (i+1))).length (ws.drop (i+1)).length with h1|h1
   ·exact h1
   ·exfalso
    have h2:zck (ws.drop (i+1))=ws.drop (i+1):=(List.takeWhile_prefix _).eq_of_length_le h1;unfold zeE at h;obtain⟨x,hx,he⟩:=List.any_eq_true.1 h;rw[←h2]at hx;have:=List.all_eq_true.1 (List.all_takeWhile (l:=ws.drop (i+1)) (p:=fun w:Wd=>decide (w.1≠sEnd))) x hx;simp at this he;exact this he
  rw[List.length_drop]at hl;simp only[if_true];rw[List.length_drop,List.length_drop];congr 1
  omega
theorem zn3 {ws:List Wd} {k:Nat} (h:k<ws.length):(txt ws).take (k+1)=(txt ws).take k++ [ws[k].1]:=by
 rw[List.take_succ_eq_append_getElem (by unfold txt;rw[List.length_map];exact h)];simp[txt]
theorem zdw (wv:Value) (ws:List Wd) (w:World) (hs:SlR w wv ws.length (wds ws)) (hl:ws.length≤100000):
 Calls Tryz.prog 139 #[wv] w fun e w'=>∃v,e=.returned v∧w'.ownsRow w.heap.size 9 1 v ws.length (strs (txt ws))∧Below w.heap.size w w':=by
 obtain⟨i0,hi0,iz0,iz1,iz2⟩:=info_parts (P:=Tryz.prog) zno;obtain⟨a,cap,rfl,hc,hm⟩:=hs.shape;have HS:=lhd hs;clear hs;go_enter Tryz.func139,Tryz.ntmps139;go_wp2_with fail;go_loopw [3,8] (fun v i wr=>∃k:Nat,k≤ws.length∧i=.int .i64 k∧wr.ownsRow w.heap.size 9 1 v k (strs ((txt ws).take k))∧Below w.heap.size w wr) (fun _ i _=>ws.length-(intOf i).toNat)
 case atStart=>exact⟨0,Nat.zero_le _,rfl,⟨rfl,.inl ⟨rfl,rfl⟩⟩,Below.refl _ _⟩
 case round=>
  obtain⟨k,hk,rfl,ho,hb⟩:=hrel;by_cases hlt:k<ws.length
  ·obtain⟨b,o,rfl,d0,d1,d2,d3⟩:=SlR.wds (HS.out.below hb) hlt;have HT:=lhd (zn3 hlt);obtain⟨⟨t0,q1,q2,q3⟩,hx⟩:∃x,x=ws[k]:=⟨_,rfl⟩;rw[←hx]at d0 d1 d2 d3 HT;dsimp only at d0 d1 d2 d3 HT;have HO:=lhd ho;have HB:=lhd hb
   have HNEW:=lhd (show((wr.alloc (.cells #[.string (bsB t0),.int .i64 q1,.int .i64 q2,.int .i64 q3] 58)).alloc (.cells #[.string (bsB t0)] 9)).heap[wr.heap.size+1]? =some (.cells #[.string (bsB t0)] 9 (0,0))by
    have:=heap_alloc_new (wr.alloc (.cells #[.string (bsB t0),.int .i64 q1,.int .i64 q2,.int .i64 q3] 58)) (.cells #[.string (bsB t0)] 9);simpa using this)
   clear ho hb hx;go_wp2_with (at_builtin;refine wpList_append_own _ rfl _ _ 65 rfl w.heap.size 9 i0 (.string ⟨#[]⟩) 1 16 Tryz.underlying65 hi0 iz0 iz1 iz2 rfl (by decide) _ _ _ rfl (World.ownsRow.alloc (World.ownsRow.alloc (by exact HO.out) _) _) ⟨wr.heap.size+1,0,none⟩ 1 1 [.string (bsB t0)] rfl rfl (World.news_of_block (cs:=#[.string (bsB t0)]) (t:=9) (fr:=(0,0)) (by exact HNEW.out)) (by simp[Value.oneCell']) (by unfold maxLen;omega) (by omega) (by have:=HB.out.size;simp;omega) ?_)
   intro v7 w7 ho7 hg7 _;rw[show strs ((txt ws).take k)++ [Value.string (bsB t0)]=strs ((txt ws).take (k+1))by rw[HT.out];simp[strs,strV]]at ho7;have HO7:=lhd ho7;have HB7:=lhd (((HB.out.alloc HB.out.size _).alloc (by have:=HB.out.size;simp;omega) _).grown hg7 (by have:=HB.out.size;simp;omega) (fun q hq=>(HO.out.lt q hq).1));clear ho7 hg7 HNEW HT HO HB;go_wp2_with fail;go_roundw;case rel=>exact⟨k+1,by omega,by go_num,HO7.out,HB7.out⟩
   case measure=>simp[intOf];omega
  ·obtain rfl:k=ws.length:=by omega
   have HO:=lhd ho;have HB:=lhd hb;rw[List.take_of_length_le (by unfold txt;rw[List.length_map];exact Nat.le_refl _)]at HO;clear ho hb;go_wp2_with fail;go_ret;exact⟨_,rfl,HO.out,HB.out⟩
def zgh (L:List ByteArray):ByteArray:=if zgb L=0 then⟨(Lib.join (L.map (·.data.toList)) [32]).toArray⟩else⟨#[]⟩
theorem zkC (g c:Nat) (L:List ByteArray) (w:World) (hc:∀(j:Nat) x,L[j]? =some x→w.cell? ⟨g,j,none⟩=some (.string x)) (hg:g<w.heap.size) (hL:L.length≤1000000) (hcap:L.length≤c)
 (hx:∀x∈L,x.size≤2000000) (hz:(Lib.join (L.map (·.data.toList)) [32]).length≤2000000):
 Calls Tryz.prog 138 #[.slice (some ⟨g,0,none⟩) L.length c] w fun e w'=>
  e=.returned (.tuple #[.string (zgh L),.int .i64 (zgb L)])∧Below w.heap.size w w':=by
 have HC:=lhd hc;have HX:=lhd hx;obtain⟨J,hJ⟩:∃J,J=Lib.join (L.map (·.data.toList)) [32]:=⟨_,rfl⟩;rw[←hJ]at hz;have HJ:=lhd hJ
 have HJoin:=lhd (fun(W:World) (hb:Below w.heap.size w W)=>Tryz.strings_Join g 0 c L ⟨#[32]⟩ W (fun j x h=>by rw[Nat.zero_add];exact(hb.cell (p:=⟨g,j,none⟩) hg).trans (hc j x h)) (Nat.lt_of_lt_of_le hg hb.size) (by omega) hcap (by
  show(Lib.join (L.map (·.data.toList)) [32]).length≤_;rw[←hJ];omega))
 clear hc hx hJ;have HB0:=lhd (Below.refl w.heap.size w);go_enter Tryz.func138,Tryz.ntmps138;go_wp2_with fail;go_loopw [9] (fun i wr=>∃k:Nat,k≤L.length∧i=.int .i64 k∧(L.take k).all (fun x=>zpZ x.data.toList)=true∧Below w.heap.size w wr) (fun i _=>L.length-(intOf i).toNat)
 case atStart=>exact⟨0,Nat.zero_le _,rfl,rfl,HB0.out⟩
 case round=>
  obtain⟨k,hk,rfl,hal,hb⟩:=hrel;have HB:=lhd hb;have HA:=lhd hal;clear hal hb;by_cases hlt:k<L.length
  ·have d0:wr.cell? ⟨g,k,none⟩=some (.string L[k]):=(HB.out.cell (p:=⟨g,k,none⟩) hg).trans (HC.out k _ (List.getElem?_eq_getElem hlt));have HW:=lhd (zkG L[k] wr (HX.out _ (List.getElem_mem hlt)));by_cases hw:zpZ L[k].data.toList=true
   ·rw[hw]at HW
    have HA2:=lhd (show(L.take (k+1)).all (fun x=>zpZ x.data.toList)=true by
     rw[List.take_succ_eq_append_getElem hlt,List.all_append,HA.out];simp[hw])
    clear hw;generalize L[k]=x at*;go_wp2_with fail;refine HW.out.mono ?_;rintro e w1 ⟨rfl,hb1⟩;have HB1:=lhd (HB.out.trans (hb1.mono HB.out.size));clear hb1;go_wp2_with fail;go_roundw;case rel=>exact⟨k+1,hlt,by go_num,HA2.out,HB1.out⟩
    case measure=>simp[intOf];omega
   ·have hwf:zpZ L[k].data.toList=false:=by simpa using hw
    rw[hwf]at HW
    have HR:=lhd (show(3:Int)=zgb L by
     unfold zgb;rw[←HJ.out];rw[if_neg];intro h;rw[List.all_eq_true]at h;exact hw (h _ (List.getElem_mem hlt)))
    clear hw hwf;generalize L[k]=x at*;go_wp2_with fail;refine HW.out.mono ?_;rintro e w1 ⟨rfl,hb1⟩;have HB1:=lhd (HB.out.trans (hb1.mono HB.out.size));clear hb1;go_wp2_with fail;refine bodyPost_ret (v:=.tuple #[.string ⟨#[]⟩,.int .i64 3]) (by simp[results,Tryz.results138,go_sem]) rfl ?_;exact⟨by unfold zgh;rw[←HR.out];rfl,HB1.out⟩
  ·obtain rfl:k=L.length:=by omega
   have hal:L.all (fun x=>zpZ x.data.toList)=true:=by have:=HA.out;rwa [List.take_length]at this
   have HAL:=lhd hal;clear hal hlt;obtain⟨SS,hSS⟩:∃SS:ByteArray,SS=⟨(Lib.join (L.map (·.data.toList)) [32]).toArray⟩:=⟨_,rfl⟩;have hsz:SS.size=J.length:=by rw[hSS,HJ.out];rfl
   have HJN:=HJoin.out wr HB.out;rw[show(Lib.join (L.map (·.data.toList)) (⟨#[32]⟩:ByteArray).data.toList)=(Lib.join (L.map (·.data.toList)) [32])from rfl,←hSS]at HJN;have HJN:=lhd HJN;have HSS:=lhd hSS;clear hSS;by_cases h200:200<J.length
   ·have h2:(200:Int)<(SS.size:Int):=by omega
    have HR:=lhd (show(9:Int)=zgb L by
     unfold zgb;rw[←HJ.out];rw[if_pos HAL.out,if_pos h200])
    clear h200 hsz;go_wp2_with fail;refine HJN.out.mono ?_;rintro e w1 ⟨rfl,hb1⟩;have HB1:=lhd (HB.out.trans (hb1.mono HB.out.size));clear hb1;go_wp2_with fail;refine bodyPost_ret (v:=.tuple #[.string ⟨#[]⟩,.int .i64 9]) (by simp[results,Tryz.results138,go_sem]) rfl ?_;exact⟨by unfold zgh;rw[←HR.out];rfl,HB1.out⟩
   ·have h2:¬(200:Int)<(SS.size:Int):=by omega
    have HR:=lhd (show(0:Int)=zgb L by
     unfold zgb;rw[←HJ.out];rw[if_pos HAL.out,if_neg h200])
    clear h200 hsz;go_wp2_with fail;refine HJN.out.mono ?_;rintro e w1 ⟨rfl,hb1⟩;have HB1:=lhd (HB.out.trans (hb1.mono HB.out.size));clear hb1;go_wp2_with fail;refine bodyPost_ret (v:=.tuple #[.string SS,.int .i64 0]) (by simp[results,Tryz.results138,go_sem]) rfl ?_;exact⟨by unfold zgh;rw[←HR.out,if_pos rfl,←HSS.out],HB1.out⟩
theorem zhe (l:List Bs):(l.map bsB).map (fun x=>x.data.toList)=l:=by
 rw[List.map_map];have:((fun x:ByteArray=>x.data.toList)∘bsB)=id:=funext fun x=>zbh x;rw[this,List.map_id]
theorem zaE (l:List Bs):(l.map bsB).all (fun x=>zpZ x.data.toList)=l.all zpZ:=by
 rw[List.all_map];have:((fun x:ByteArray=>zpZ x.data.toList)∘bsB)=zpZ:=funext fun x=>by show zpZ (bsB x).data.toList=zpZ x;rw[zbh]
 rw[this]
theorem zgj (l:List Bs):zgh (l.map bsB)=bsB (zgg l).1∧zgb (l.map bsB)=(zgg l).2:=by
 unfold zgh zgb zgg;rw[zaE,zhe,←zgi];cases h:l.all zpZ with
 |false=>exact⟨rfl,rfl⟩
 |true=>
  by_cases h2:200<(zgc l).length
  ·simp only[h2,if_true,Bool.true_eq_false,if_false];exact⟨rfl,trivial⟩
  ·simp only[h2,if_true,Bool.true_eq_false,if_false];exact⟨rfl,trivial⟩
theorem zjY {k:Nat} (h:k≤17):(1:Int)≤((10^k:Nat):Int)∧((10^k:Nat):Int)≤100000000000000000:=by
 have h1:10^k≤10^17:=Nat.pow_le_pow_right (by decide) h;have h2:0<10^k:=Nat.pow_pos (by decide);omega
theorem znW (b n:Nat) (w:World) (hn:n≤17) (hc:w.cell? ⟨b,0,none⟩=some (.int .i64 1)) (hf:w.frozen? ⟨b,0,none⟩=false):
 Calls Tryz.prog 156 #[.int .i64 n,.pointer (some ⟨b,0,none⟩)] w fun e w'=>e=.returned (.tuple #[])∧w'.cell? ⟨b,0,none⟩=some (.int .i64 (10^n:Nat))∧Below b w w':=by
 go_enter Tryz.func156,Tryz.ntmps156;go_wp2_with fail;go_loopw [4] (fun u wr=>∃k:Nat,k≤n∧u=.int .i64 k∧wr.cell? ⟨b,0,none⟩=some (.int .i64 (10^k:Nat))∧wr.frozen? ⟨b,0,none⟩=false∧Below b w wr) (fun u _=>n-(intOf u).toNat)
 case atStart=>exact⟨0,Nat.zero_le _,rfl,hc,hf,Below.refl _ _⟩
 case round=>
  obtain⟨k,hk,rfl,hck,hfk,hb⟩:=hrel;have HB:=lhd hb;clear hb;by_cases hlt:k<n
  ·have hp:=zjY (k:=k) (by omega);have HN:=lhd (show((10^k:Nat):Int)*10=((10^(k+1):Nat):Int)by rw[Nat.pow_succ];omega);have hq:=zjY (k:=k+1) (by omega);generalize ((10^k:Nat):Int)=x at*;obtain⟨y,hy⟩:∃y:Int,y=((10^(k+1):Nat):Int):=⟨_,rfl⟩;rw[←hy]at HN hq;have HY:=lhd hy;clear hy;have hw:IntKind.i64.wrap (x*10)=y:=by rw[HN.out];exact IntWalk.i64_in _ (by omega)
   have HC2:=lhd (show(wr.setCell ⟨b,0,none⟩ (.int .i64 y)).cell? ⟨b,0,none⟩=some (.int .i64 y)by simp[World.cell?_setCell_same,hck]);have HF2:=lhd (show(wr.setCell ⟨b,0,none⟩ (.int .i64 y)).frozen? ⟨b,0,none⟩=false by rw[World.frozen?_setCell];exact hfk);have HB2:=lhd (show Below b w (wr.setCell ⟨b,0,none⟩ (.int .i64 y))from HB.out.setCell (Nat.le_refl _) _);go_wp2_with fail;go_roundw;case rel=>exact⟨k+1,hlt,by go_num,HY.out▸HC2.out,HF2.out,HB2.out⟩
   case measure=>simp[intOf];omega
  ·obtain rfl:k=n:=by omega
   go_wp2_with fail;go_end0
   exact⟨rfl,hck,HB.out⟩
theorem znU (n:Nat) (w:World) (hn:n≤17):Calls Tryz.prog 124 #[.int .i64 n] w fun e w'=>e=.returned (.int .i64 (10^n:Nat))∧Below w.heap.size w w':=by
 have hal:Below w.heap.size w (w.alloc (.cells #[.int .i64 1] 3)):=(Below.refl _ _).alloc (Nat.le_refl _) _;have hx:=zaq.fresh w #[.int .i64 1] 3;have HT:=lhd (znW w.heap.size n _ hn (hx.cell (j:=0) rfl) (hx.free (j:=0) (by simp)));have HB:=lhd hal;clear hal hx;go_enter Tryz.func124,Tryz.ntmps124;go_wp2_with fail;refine HT.out.mono ?_;rintro e w2 ⟨rfl,hc,hb⟩;have HB2:=lhd (HB.out.trans hb);clear hb;generalize hy:((10^n:Nat):Int)=y at hc;have HY:=lhd hy;clear hy;go_wp2_with fail;go_ret;exact⟨by rw[HY.out];rfl,HB2.out⟩
theorem zbf {x y:Bs}:bsB x=bsB y↔x=y:=⟨fun h=>by
 have:=congrArg (fun b:ByteArray=>b.data.toList) h;rwa [zbh,zbh]at this,fun h=>by rw[h]⟩
theorem ze6 (x:Bs):∀(l:List Bs) (i:Nat),Lib.idxFromS (l.map bsB) (bsB x) i=if x∈l then((i+l.idxOf x:Nat):Int)else-1
 | [],i=>rfl
 |y::l,i=>by
  show(if bsB y=bsB x then((i:Nat):Int)else Lib.idxFromS (l.map bsB) (bsB x) (i+1))=_;by_cases h:y=x
  ·subst h;rw[if_pos rfl,if_pos List.mem_cons_self,List.idxOf_cons_self,Nat.add_zero]
  ·rw[if_neg (fun e=>h (zbf.1 e)),ze6 x l,List.idxOf_cons,show(y==x)=false by simpa using h,cond_false];by_cases hm:x∈l
   ·rw[if_pos hm,if_pos (List.mem_cons_of_mem _ hm)];congr 1
    omega
   ·rw[if_neg hm,if_neg];intro hm2;rcases List.mem_cons.1 hm2 with e|e
    ·exact h e.symm
    ·exact hm e
theorem ze7 (l:List Bs) (x:Bs):Lib.idxOfS (l.map bsB) (bsB x)=if x∈l then((l.idxOf x:Nat):Int)else-1:=by
 unfold Lib.idxOfS;rw[ze6,Nat.zero_add]
theorem zfe (v:Value) (l:List Bs) (x:Bs) (w:World) (hs:SlR w v l.length (strs l)) (h0:0<l.length) (hl:l.length≤1000000):
 Calls Tryz.prog 62 #[v,.string (bsB x)] w fun e w'=>e=.returned (.int .i64 (if x∈l then((l.idxOf x:Nat):Int)else-1))∧w'=w:=by
 obtain⟨b,o,cap,rfl,-,-,hcell⟩:=hs.at h0
 have hx:=Tryz.slices_Index_string b o l.length cap (l.map bsB) (bsB x) w (by simp) (by omega) (fun j hj=>hcell j _ (by
  rw[List.length_map]at hj;simp[strs,strV,List.getD,hj]))
 rw[List.take_of_length_le (by simp),ze7]at hx;exact hx
theorem zdI (v:Value) (l:List Bs) (x:Bs) (w:World) (hs:SlR w v l.length (strs l)) (h0:0<l.length) (hl:l.length≤1000000):
 Calls Tryz.prog 31 #[v,.string (bsB x)] w fun e w'=>e=.returned (.tuple #[.int .i64 (zn4 l x).1,.bool (zn4 l x).2])∧w'=w:=by
 have hx:=zfe v l x w hs h0 hl;unfold zn4;by_cases hm:x∈l
 ·rw[if_pos hm]at hx⊢;have hlt:=List.idxOf_lt_length_of_mem hm;go_enter Tryz.func31,Tryz.ntmps31;go_wp2_with fail;refine hx.mono ?_;rintro e w' ⟨rfl,rfl⟩;go_wp2_with fail;exact bodyPost_ret (v:=.tuple #[.int .i64 ((l.idxOf x:Nat):Int),.bool true]) (by simp[results,Tryz.results31,go_sem]) rfl ⟨rfl,rfl⟩
 ·rw[if_neg hm]at hx⊢;go_enter Tryz.func31,Tryz.ntmps31;go_wp2_with fail;refine hx.mono ?_;rintro e w' ⟨rfl,rfl⟩;go_wp2_with fail;exact bodyPost_ret (v:=.tuple #[.int .i64 0,.bool false]) (by simp[results,Tryz.results31,go_sem];rfl) rfl ⟨rfl,rfl⟩
theorem zsI (l:List Bs):(strs l).length=l.length:=by unfold strs;rw[List.length_map]
theorem zhb (w:World) (l:List Bs) (T:TypeId) (hl:l.length≤1000000):SlR (w.alloc (.cells (strs l).toArray T)) (.slice (some ⟨w.heap.size,0,none⟩) l.length l.length) l.length (strs l):=by
 refine⟨_,_,rfl,Nat.le_refl _,by unfold maxLen;omega,fun h=>(by cases h),fun _=>⟨_,_,rfl,fun j u hj=>?_⟩⟩;have:=(zaq.fresh w (strs l).toArray T).cell (j:=j) (v:=u) (by simpa using hj);rwa [Nat.zero_add]
theorem zdx (v:Value) (l:List Bs) (t:Int) (w:World) (hs:SlR w v l.length (strs l)) (h0:0<l.length):
 Calls Tryz.prog 46 #[v,.int .i64 t] w fun e w'=>e=.returned (.string (bsB (zhx l t)))∧w'=w:=by
 obtain⟨b,o,cap,rfl,-,-,hcell⟩:=hs.at h0;clear hs;by_cases h1:t<0
 ·have e1:zhx l t=[]:=if_pos h1;rw[e1];go_enter Tryz.func46,Tryz.ntmps46;go_wp2_with fail;go_ret;exact⟨rfl,rfl⟩
 ·obtain⟨k,rfl⟩:∃k:Nat,t=(k:Int):=⟨t.toNat,by omega⟩;by_cases h2:k<l.length
  ·have e1:zhx l (k:Int)=l[k]:=by unfold zhx;rw[if_neg h1,Int.toNat_natCast];simp[List.getD,h2]
   have hc:=hcell k (.string (bsB l[k])) (by simp[strs,strV,h2]);rw[e1];clear hcell e1;go_enter Tryz.func46,Tryz.ntmps46;go_wp2_with fail;go_ret;exact⟨rfl,rfl⟩
  ·have e1:zhx l (k:Int)=[]:=by unfold zhx;rw[if_neg h1,Int.toNat_natCast];simp[List.getD,List.getElem?_eq_none (Nat.le_of_not_lt h2)]
   rw[e1];clear hcell e1;go_enter Tryz.func46,Tryz.ntmps46;go_wp2_with fail;go_ret;exact⟨rfl,rfl⟩
theorem zdL (w:World):Calls Tryz.prog 32 #[] w fun e w'=>e=.returned (.slice (some ⟨w.heap.size,0,none⟩) 19 19)∧w'=w.alloc (.cells (strs varW).toArray 9):=by
 go_enter Tryz.func32,Tryz.ntmps32;go_wp2_with fail;go_ret;exact⟨rfl,rfl⟩
theorem zdl (x:Bs) (w:World):Calls Tryz.prog 11 #[.string (bsB x)] w fun e w'=>e=.returned (.tuple #[.int .i64 (zn4 varW x).1,.bool (zn4 varW x).2])∧Below w.heap.size w w':=by
 have hb:Below w.heap.size w (w.alloc (.cells (strs varW).toArray 9)):=(Below.refl _ _).alloc (Nat.le_refl _) _;have hs:=zhb w varW 9 (by decide);have HT:=lhd (zdI _ varW x _ hs (by decide) (by decide));clear hs;go_enter Tryz.func11,Tryz.ntmps11;go_wp2_with fail;refine(zdL w).mono ?_;rintro e w1 ⟨rfl,rfl⟩;go_wp2_with fail;refine HT.out.mono ?_;rintro e w2 ⟨rfl,rfl⟩;go_wp2_with fail;exact bodyPost_ret (v:=.tuple #[.int .i64 (zn4 varW x).1,.bool (zn4 varW x).2]) (by simp[results,Tryz.results11,go_sem]) rfl ⟨rfl,hb⟩
theorem zdk (t:Int) (w:World):Calls Tryz.prog 17 #[.int .i64 t] w fun e w'=>e=.returned (.string (bsB (zhx varW t)))∧Below w.heap.size w w':=by
 have hb:Below w.heap.size w (w.alloc (.cells (strs varW).toArray 9)):=(Below.refl _ _).alloc (Nat.le_refl _) _;have hs:=zhb w varW 9 (by decide);have HT:=lhd (zdx _ varW t _ hs (by decide));clear hs;go_enter Tryz.func17,Tryz.ntmps17;go_wp2_with fail;refine(zdL w).mono ?_;rintro e w1 ⟨rfl,rfl⟩;go_wp2_with fail;refine HT.out.mono ?_;rintro e w2 ⟨rfl,rfl⟩;go_wp2_with fail;go_ret;exact⟨rfl,hb⟩
theorem zdB (w:World):Calls Tryz.prog 35 #[] w fun e w'=>e=.returned (.slice (some ⟨w.heap.size,0,none⟩) 5 5)∧w'=w.alloc (.cells (strs zl4).toArray 9):=by
 go_enter Tryz.func35,Tryz.ntmps35;go_wp2_with fail;go_ret;exact⟨rfl,rfl⟩
theorem zdj (x:Bs) (w:World):Calls Tryz.prog 13 #[.string (bsB x)] w fun e w'=>e=.returned (.tuple #[.int .i64 (zn4 zl4 x).1,.bool (zn4 zl4 x).2])∧Below w.heap.size w w':=by
 have hb:Below w.heap.size w (w.alloc (.cells (strs zl4).toArray 9)):=(Below.refl _ _).alloc (Nat.le_refl _) _;have hs:=zhb w zl4 9 (by decide);have HT:=lhd (zdI _ zl4 x _ hs (by decide) (by decide));clear hs;go_enter Tryz.func13,Tryz.ntmps13;go_wp2_with fail;refine(zdB w).mono ?_;rintro e w1 ⟨rfl,rfl⟩;go_wp2_with fail;refine HT.out.mono ?_;rintro e w2 ⟨rfl,rfl⟩;go_wp2_with fail;exact bodyPost_ret (v:=.tuple #[.int .i64 (zn4 zl4 x).1,.bool (zn4 zl4 x).2]) (by simp[results,Tryz.results13,go_sem]) rfl ⟨rfl,hb⟩
theorem zdi (t:Int) (w:World):Calls Tryz.prog 19 #[.int .i64 t] w fun e w'=>e=.returned (.string (bsB (zhx zl4 t)))∧Below w.heap.size w w':=by
 have hb:Below w.heap.size w (w.alloc (.cells (strs zl4).toArray 9)):=(Below.refl _ _).alloc (Nat.le_refl _) _;have hs:=zhb w zl4 9 (by decide);have HT:=lhd (zdx _ zl4 t _ hs (by decide));clear hs;go_enter Tryz.func19,Tryz.ntmps19;go_wp2_with fail;refine(zdB w).mono ?_;rintro e w1 ⟨rfl,rfl⟩;go_wp2_with fail;refine HT.out.mono ?_;rintro e w2 ⟨rfl,rfl⟩;go_wp2_with fail;go_ret;exact⟨rfl,hb⟩
end Go.Proofs.YtcdekelomkcahaaGreatDoor
