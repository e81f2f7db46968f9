import Derived.Test.YtbiadennhnokhaaGreatDoorZ00
import Derived.Deep.LoopGhost
import Derived.Test.YtbiadennhnokhaaGreatDoorZ13
set_option maxRecDepth 100000
set_option maxHeartbeats 16000000
namespace Go.Proofs.YtbiadennhnokhaaGreatDoor
open Go.RowKit
abbrev Ch:=Int×ByteArray
def encC (c:Ch):List Value:=[.int .i64 c.1,.string c.2]
def chs (l:List Ch):List Value:=l.flatMap encC
theorem zcI (c:Ch) (l:List Ch):chs (c::l)=.int .i64 c.1::.string c.2::chs l:=rfl
theorem zcG (l m:List Ch):chs (l++m)=chs l++chs m:=by simp[chs]
theorem zcK (l:List Ch):(chs l).length=2*l.length:=by
 induction l with
 |nil=>rfl
 |cons c l ih=>rw[zcI,List.length_cons,List.length_cons,List.length_cons,ih];omega
theorem zcH:∀(l:List Ch) (k:Nat) (h:k<l.length),(chs l)[2*k]? =some (.int .i64 l[k].1)∧(chs l)[2*k+1]? =some (.string l[k].2)
 |c::l,0,_=>⟨rfl,rfl⟩
 |c::l,k+1,h=>by
  have:=zcH l k (by simpa using h);rw[zcI,show 2*(k+1)=2*k+1+1 by omega];simpa using this
theorem SlR.ch {w:World} {a:Option Addr} {cap:Nat} {l:List Ch} (h:SlR w (.slice a l.length cap) l.length (chs l)) {j:Nat} (hj:j<l.length):
 ∃b o,a=some ⟨b,o,none⟩∧w.cell? ⟨b,o+j*2,none⟩=some (.int .i64 l[j].1)∧w.cell? ⟨b,o+j*2+1,none⟩=some (.string l[j].2):=by
 obtain⟨b,o,cap',hv,-,-,hcell⟩:=h.at (by omega);injection hv with e1 _ _;subst e1;have d0:=hcell _ _ (zcH l j hj).1;have d1:=hcell _ _ (zcH l j hj).2;rw[show o+2*j=o+j*2 by omega]at d0;rw[show o+(2*j+1)=o+j*2+1 by omega]at d1;exact⟨b,o,rfl,d0,d1⟩
theorem zbz {B:Nat} {a w:World} (h:Below B a w) (n:Nat):Below B a (w.drewN n):=⟨h.os,h.tape,h.output,h.size,h.block⟩
def svGo (k n:Int) (at_:Int) (v:ByteArray):List Ch→Bool
 | []=>true
 |c::l=>if c.1≤at_∨1099511627776<c.1 then false else if vv k n c.2=false then false else if k≠3∧c.2=v then false else svGo k n c.1 c.2 l
def sv (k n:Int) (l:List Ch):Bool:=vt k n&&decide (l.length≤4096)&&svGo k n (-1) (vi k n) l
def Fit (l:List Ch):Prop:=l.length≤1000000∧∀c∈l,c.2.size≤1000000
theorem zmY (k n:Int) (v:Value) (l:List Ch) (w:World) (hg:Glob w) (hs:SlR w v l.length (chs l)) (hf:Fit l):
 Calls Tryz.prog 43 #[.agg #[.int .i64 k,.int .i64 n,v]] w fun e w'=>e=.returned (.bool (sv k n l))∧Below w.heap.size w w':=by
 obtain⟨a,cap,rfl,hc,hm⟩:=hs.shape;have hln:=hf.1;unfold maxLen at hm;cases hv:vt k n
 ·have e:sv k n l=false:=by simp[sv,hv]
  have E:=lhd e;clear e;go_enter Tryz.func43,Tryz.ntmps43;go_wp2_with fail;refine(zpV k n _).mono ?_;rintro e w1 ⟨rfl,hb⟩;rw[hv];clear hv;go_wp2_with fail;go_ret;exact⟨zlE E.out.symm,zeF hb⟩
 by_cases h4:4096<l.length
 ·have e:sv k n l=false:=by simp[sv];omega
  have E:=lhd e;clear e;go_enter Tryz.func43,Tryz.ntmps43;go_wp2_with fail;refine(zpV k n _).mono ?_;rintro e w1 ⟨rfl,hb⟩;obtain⟨c0,c1,c2⟩:=box3 hb;rw[hv];clear hv;go_wp2_with fail;go_ret;exact⟨zlE E.out.symm,zeF hb⟩
 have e:sv k n l=svGo k n (-1) (vi k n) l:=by simp[sv,hv];omega
 have E:=lhd e;have HG:=lhd hg;have HS:=lhd hs;have HF:=lhd hf;clear e hg hs hf;go_enter Tryz.func43,Tryz.ntmps43;go_wp2_with fail;refine(zpV k n _).mono ?_;rintro e w1 ⟨rfl,hb⟩;obtain⟨c0,c1,c2⟩:=box3 hb;rw[hv];go_wp2_with fail;refine(zpT k n _).mono ?_;rintro e w2 ⟨rfl,hb2⟩;have hb12:=zeG hb hb2;obtain⟨c0',c1',c2'⟩:=box3 hb12;clear c0 c1 c2 hv;go_wp2_with fail;have HB12:=lhd hb12;clear hb hb2 hb12 c0' c1' c2'
 go_loopw [3,4,27] (fun a_ v_ i wr=>∃(j:Nat) (at_:Int) (v:ByteArray),j≤l.length∧i=.int .i64 j∧a_=.int .i64 at_∧v_=.string v∧svGo k n at_ v (l.drop j)=svGo k n (-1) (vi k n) l∧
  Below (w.alloc (.cells #[.int .i64 k,.int .i64 n,.slice a l.length cap] 45)).heap.size (w.alloc (.cells #[.int .i64 k,.int .i64 n,.slice a l.length cap] 45)) wr)
  (fun _ _ i _=>l.length-(intOf i).toNat)
 case atStart=>exact⟨0,-1,vi k n,Nat.zero_le _,rfl,rfl,rfl,rfl,HB12.out⟩
 case round=>
  obtain⟨j,at_,v,hj,rfl,rfl,rfl,hgo,hb⟩:=hrel;obtain⟨c0,c1,c2⟩:=box3 hb;have hbw:=zeF hb;have hsz0:w.heap.size<wr.heap.size:=by have:=hb.size;simp at this;omega
  have HGO:=lhd hgo;clear hgo;by_cases hlt:j<l.length
  ·obtain⟨b,o,rfl,d0,d1⟩:=(HS.out.below hbw).ch hlt
   have hfit:l[j].2.size≤maxLen:=by
    have:=HF.out.2 l[j] (List.getElem_mem hlt);unfold maxLen;omega
   have HGO2:Hid ((if l[j].1≤at_∨1099511627776<l[j].1 then false else if vv k n l[j].2=false then false else if k≠3∧l[j].2=v then false else svGo k n l[j].1 l[j].2 (l.drop (j+1)))=svGo k n (-1) (vi k n) l):=lhd (by
    have:=HGO.out;rw[List.drop_eq_getElem_cons hlt,svGo]at this;exact this)
   generalize l[j]=c at d0 d1 hfit HGO2;obtain⟨t,s⟩:=c;simp only at d0 d1 hfit;by_cases hA:t≤at_∨1099511627776<t
   ·have e:svGo k n (-1) (vi k n) l=false:=by rw[←HGO2.out,if_pos hA]
    have E2:=lhd (E.out.trans e);clear e;rcases hA with hA|hA
    all_goals
     go_wp2_with fail
    all_goals
     go_ret;exact⟨zlE E2.out.symm,hbw.alloc hbw.size _⟩
   ·obtain⟨hA1,hA2⟩:at_<t∧t≤1099511627776:=by omega
    have HGO3:=lhd ((if_neg hA).symm.trans HGO2.out);clear hA;have HB:=lhd hb;have HBW:=lhd hbw;have hbw2:=hbw.alloc hbw.size (.cells #[.int .i64 t,.string s] 53);have HVal:=lhd (zpU k n s _ (HG.out.below hbw2) hfit);clear hb hbw hbw2;cases hV:vv k n s
    ·have e:svGo k n (-1) (vi k n) l=false:=by rw[←HGO3.out,if_pos hV]
     have E2:=lhd (E.out.trans e);clear e;go_wp2_with fail;refine HVal.out.mono ?_;rintro e w3 ⟨rfl,hb3⟩;rw[hV];clear hV;go_wp2_with fail;go_ret;exact⟨zlE E2.out.symm,zeG HBW.out (zeF hb3)⟩
    ·go_wp2_with fail;refine HVal.out.mono ?_;rintro e w3 ⟨rfl,hb3⟩;rw[hV];have hbx:=zeG HBW.out (zeF hb3);have hb4:Below (w.alloc (.cells #[.int .i64 k,.int .i64 n,.slice (some ⟨b,o,none⟩) l.length cap] 45)).heap.size (w.alloc (.cells #[.int .i64 k,.int .i64 n,.slice (some ⟨b,o,none⟩) l.length cap] 45)) w3:=zeG HB.out (zeF hb3);obtain⟨c0',c1',c2'⟩:=box3 hb4;have p0:w3.cell? ⟨wr.heap.size,0,none⟩=some (.int .i64 t):=(boxN hb3 0).1;have p1:w3.cell? ⟨wr.heap.size,1,none⟩=some (.string s):=(boxN hb3 1).1;have hsz:=hb3.size;have HB4:=lhd hb4;have HB3:=lhd hb3;have HVV:=lhd hV;clear c0 c1 c2 d0 d1 hb4 hb3 hV;by_cases hk:k≠3∧s=v
     ·have e:svGo k n (-1) (vi k n) l=false:=by rw[←HGO3.out,if_neg (by rw[HVV.out];simp),if_pos hk]
      have E2:=lhd (E.out.trans e);have hk1:(k !=3)=true:=by rw[bne_iff_ne];exact hk.1
      obtain⟨-,rfl⟩:=hk;clear e;go_wp2_with fail;go_ret;exact⟨zlE E2.out.symm,hbx⟩
     ·have e:svGo k n t s (l.drop (j+1))=svGo k n (-1) (vi k n) l:=by rw[←HGO3.out,if_neg (by rw[HVV.out];simp),if_neg hk]
      have E2:=lhd e;clear e;by_cases hk3:k=3
      ·subst hk3;go_wp2_with fail;go_quiet (fail);go_wp2_with fail;go_roundw;case rel=>exact⟨j+1,t,s,by omega,by go_num,rfl,rfl,E2.out,zbz HB4.out _⟩
       case measure=>simp[intOf];omega
      ·have hk1:(k !=3)=true:=by rw[bne_iff_ne];exact hk3
       have hsv:(s.toList==v.toList)=false:=zbo (fun e=>hk ⟨hk3,e⟩);clear hk hk3;go_wp2_with fail;go_quiet (fail);go_wp2_with fail;go_roundw;case rel=>exact⟨j+1,t,s,by omega,by go_num,rfl,rfl,E2.out,zbz HB4.out _⟩
       case measure=>simp[intOf];omega
  ·obtain rfl:j=l.length:=by omega
   have e:svGo k n (-1) (vi k n) l=true:=by rw[←HGO.out,List.drop_length];rfl
   have E2:=lhd (E.out.trans e);clear e;go_wp2_with fail;go_ret;exact⟨zlE E2.out.symm,hbw⟩
end Go.Proofs.YtbiadennhnokhaaGreatDoor
