import Derived.Test.YtfppgpamkdkckaaGreatDoorZ00
import Derived.Deep.LoopGhost
import Derived.Lib.LazyBuf
import Derived.Test.YtfppgpamkdkckaaGreatDoorZ08
set_option maxRecDepth 100000
set_option maxHeartbeats 16000000
namespace Go.Proofs.YtfppgpamkdkckaaGreatDoor
open Go.RowKit
abbrev Ch:=Int×ByteArray
def encC (c:Ch):List Value:=[.int .i64 c.1,.string c.2]
def chs (l:List Ch):List Value:=l.flatMap encC
theorem zch (c:Ch) (l:List Ch):chs (c::l)=.int .i64 c.1::.string c.2::chs l:=rfl
theorem zcf (l m:List Ch):chs (l++m)=chs l++chs m:=by simp[chs]
theorem zcj (l:List Ch):(chs l).length=2*l.length:=by
 induction l with
 |nil=>rfl
 |cons c l ih=>rw[zch,List.length_cons,List.length_cons,List.length_cons,ih];omega
theorem zcg:∀(l:List Ch) (k:Nat) (h:k<l.length),(chs l)[2*k]? =some (.int .i64 l[k].1)∧(chs l)[2*k+1]? =some (.string l[k].2)
 |c::l,0,_=>⟨rfl,rfl⟩
 |c::l,k+1,h=>by
  have:=zcg l k (by simpa using h);rw[zch,show 2*(k+1)=2*k+1+1 by omega];simpa using this
theorem SlR.ch {w:World} {a:Option Addr} {cap:Nat} {l:List Ch} (h:SlR w (.slice a l.length cap) l.length (chs l)) {j:Nat} (hj:j<l.length):
 ∃b o,a=some ⟨b,o,none⟩∧w.cell? ⟨b,o+j*2,none⟩=some (.int .i64 l[j].1)∧w.cell? ⟨b,o+j*2+1,none⟩=some (.string l[j].2):=by
 obtain⟨b,o,cap',hv,-,-,hcell⟩:=h.at (by omega);injection hv with e1 _ _;subst e1;have d0:=hcell _ _ (zcg l j hj).1;have d1:=hcell _ _ (zcg l j hj).2;rw[show o+2*j=o+j*2 by omega]at d0;rw[show o+(2*j+1)=o+j*2+1 by omega]at d1;exact⟨b,o,rfl,d0,d1⟩
theorem below_drewN {B:Nat} {a w:World} (h:Below B a w) (n:Nat):Below B a (w.drewN n):=⟨h.os,h.tape,h.output,h.size,h.block⟩
def svGo (k n:Int) (at_:Int) (v:ByteArray):List Ch→Bool
 | []=>true
 |c::l=>if c.1≤at_∨1099511627776<c.1 then false else if vv k n c.2=false then false else if k≠3∧c.2=v then false else svGo k n c.1 c.2 l
def sv (k n:Int) (l:List Ch):Bool:=vt k n&&decide (l.length≤4096)&&svGo k n (-1) (vi k n) l
def Fit (l:List Ch):Prop:=l.length≤1000000∧∀c∈l,c.2.size≤1000000
theorem zoX (k n:Int) (v:Value) (l:List Ch) (w:World) (hg:Glob w) (hs:SlR w v l.length (chs l)) (hf:Fit l):
 Calls Tryz.prog 150 #[.agg #[.int .i64 k,.int .i64 n,v]] w fun e w'=>e=.returned (.bool (sv k n l))∧Below w.heap.size w w':=by
 obtain⟨a,cap,rfl,hc,hm⟩:=hs.shape;have hln:=hf.1;unfold maxLen at hm;cases hv:vt k n
 ·have e:sv k n l=false:=by simp[sv,hv]
  have E:=lhd e;clear e;go_enter Tryz.func150,Tryz.ntmps150;go_wp2_with fail;refine(zr3 k n _).mono ?_;rintro e w1 ⟨rfl,hb⟩;rw[hv];clear hv;go_wp2_with fail;go_ret;exact⟨znc E.out.symm,zfg hb⟩
 by_cases h4:4096<l.length
 ·have e:sv k n l=false:=by simp[sv];omega
  have E:=lhd e;clear e;go_enter Tryz.func150,Tryz.ntmps150;go_wp2_with fail;refine(zr3 k n _).mono ?_;rintro e w1 ⟨rfl,hb⟩;obtain⟨c0,c1,c2⟩:=box3 hb;rw[hv];clear hv;go_wp2_with fail;go_ret;exact⟨znc E.out.symm,zfg hb⟩
 have e:sv k n l=svGo k n (-1) (vi k n) l:=by simp[sv,hv];omega
 have E:=lhd e;have HG:=lhd hg;have HS:=lhd hs;have HF:=lhd hf;clear e hg hs hf;go_enter Tryz.func150,Tryz.ntmps150;go_wp2_with fail;refine(zr3 k n _).mono ?_;rintro e w1 ⟨rfl,hb⟩;obtain⟨c0,c1,c2⟩:=box3 hb;rw[hv];go_wp2_with fail;refine(zr1 k n _).mono ?_;rintro e w2 ⟨rfl,hb2⟩;have hb12:=zfj hb hb2;obtain⟨c0',c1',c2'⟩:=box3 hb12;clear c0 c1 c2 hv;go_wp2_with fail;have HB12:=lhd hb12;clear hb hb2 hb12 c0' c1' c2'
 go_loopw [3,4,27] (fun a_ v_ i wr=>∃(j:Nat) (at_:Int) (v:ByteArray),j≤l.length∧i=.int .i64 j∧a_=.int .i64 at_∧v_=.string v∧svGo k n at_ v (l.drop j)=svGo k n (-1) (vi k n) l∧
  Below (w.alloc (.cells #[.int .i64 k,.int .i64 n,.slice a l.length cap] 60)).heap.size (w.alloc (.cells #[.int .i64 k,.int .i64 n,.slice a l.length cap] 60)) wr)
  (fun _ _ i _=>l.length-(intOf i).toNat)
 case atStart=>exact⟨0,-1,vi k n,Nat.zero_le _,rfl,rfl,rfl,rfl,HB12.out⟩
 case round=>
  obtain⟨j,at_,v,hj,rfl,rfl,rfl,hgo,hb⟩:=hrel;obtain⟨c0,c1,c2⟩:=box3 hb;have hbw:=zfg hb;have hsz0:w.heap.size<wr.heap.size:=by have:=hb.size;simp at this;omega
  have HGO:=lhd hgo;clear hgo;by_cases hlt:j<l.length
  ·obtain⟨b,o,rfl,d0,d1⟩:=(HS.out.below hbw).ch hlt
   have hfit:l[j].2.size≤maxLen:=by
    have:=HF.out.2 l[j] (List.getElem_mem hlt);unfold maxLen;omega
   have HGO2:Hid ((if l[j].1≤at_∨1099511627776<l[j].1 then false else if vv k n l[j].2=false then false else if k≠3∧l[j].2=v then false else svGo k n l[j].1 l[j].2 (l.drop (j+1)))=svGo k n (-1) (vi k n) l):=lhd (by
    have:=HGO.out;rw[List.drop_eq_getElem_cons hlt,svGo]at this;exact this)
   generalize l[j]=c at d0 d1 hfit HGO2;obtain⟨t,s⟩:=c;simp only at d0 d1 hfit;by_cases hA:t≤at_∨1099511627776<t
   ·have e:svGo k n (-1) (vi k n) l=false:=by rw[←HGO2.out,if_pos hA]
    have E2:=lhd (E.out.trans e);clear e;rcases hA with hA|hA
    all_goals
     go_wp2_with fail
    all_goals
     go_ret;exact⟨znc E2.out.symm,hbw.alloc hbw.size _⟩
   ·obtain⟨hA1,hA2⟩:at_<t∧t≤1099511627776:=by omega
    have HGO3:=lhd ((if_neg hA).symm.trans HGO2.out);clear hA;have HB:=lhd hb;have HBW:=lhd hbw;have hbw2:=hbw.alloc hbw.size (.cells #[.int .i64 t,.string s] 57);have HVal:=lhd (zr2 k n s _ (HG.out.below hbw2) hfit);clear hb hbw hbw2;cases hV:vv k n s
    ·have e:svGo k n (-1) (vi k n) l=false:=by rw[←HGO3.out,if_pos hV]
     have E2:=lhd (E.out.trans e);clear e;go_wp2_with fail;refine HVal.out.mono ?_;rintro e w3 ⟨rfl,hb3⟩;rw[hV];clear hV;go_wp2_with fail;go_ret;exact⟨znc E2.out.symm,zfj HBW.out (zfg hb3)⟩
    ·go_wp2_with fail;refine HVal.out.mono ?_;rintro e w3 ⟨rfl,hb3⟩;rw[hV];have hbx:=zfj HBW.out (zfg hb3);have hb4:Below (w.alloc (.cells #[.int .i64 k,.int .i64 n,.slice (some ⟨b,o,none⟩) l.length cap] 60)).heap.size (w.alloc (.cells #[.int .i64 k,.int .i64 n,.slice (some ⟨b,o,none⟩) l.length cap] 60)) w3:=zfj HB.out (zfg hb3);obtain⟨c0',c1',c2'⟩:=box3 hb4;have p0:w3.cell? ⟨wr.heap.size,0,none⟩=some (.int .i64 t):=(boxN hb3 0).1;have p1:w3.cell? ⟨wr.heap.size,1,none⟩=some (.string s):=(boxN hb3 1).1;have hsz:=hb3.size;have HB4:=lhd hb4;have HB3:=lhd hb3;have HVV:=lhd hV;clear c0 c1 c2 d0 d1 hb4 hb3 hV;by_cases hk:k≠3∧s=v
     ·have e:svGo k n (-1) (vi k n) l=false:=by rw[←HGO3.out,if_neg (by rw[HVV.out];simp),if_pos hk]
      have E2:=lhd (E.out.trans e);have hk1:(k !=3)=true:=by rw[bne_iff_ne];exact hk.1
      obtain⟨-,rfl⟩:=hk;clear e;go_wp2_with fail;go_ret;exact⟨znc E2.out.symm,hbx⟩
     ·have e:svGo k n t s (l.drop (j+1))=svGo k n (-1) (vi k n) l:=by rw[←HGO3.out,if_neg (by rw[HVV.out];simp),if_neg hk]
      have E2:=lhd e;clear e;by_cases hk3:k=3
      ·subst hk3;go_wp2_with fail;go_quiet (fail);go_wp2_with fail;go_roundw;case rel=>exact⟨j+1,t,s,by omega,by go_num,rfl,rfl,E2.out,below_drewN HB4.out _⟩
       case measure=>simp[intOf];omega
      ·have hk1:(k !=3)=true:=by rw[bne_iff_ne];exact hk3
       have hsv:(s.toList==v.toList)=false:=za2 (fun e=>hk ⟨hk3,e⟩);clear hk hk3;go_wp2_with fail;go_quiet (fail);go_wp2_with fail;go_roundw;case rel=>exact⟨j+1,t,s,by omega,by go_num,rfl,rfl,E2.out,below_drewN HB4.out _⟩
       case measure=>simp[intOf];omega
  ·obtain rfl:j=l.length:=by omega
   have e:svGo k n (-1) (vi k n) l=true:=by rw[←HGO.out,List.drop_length];rfl
   have E2:=lhd (E.out.trans e);clear e;go_wp2_with fail;go_ret;exact⟨znc E2.out.symm,hbw⟩
theorem zb5:(Tryz.prog.info? 57).map (fun i=>(i.zero,i.size,i.bytes))=some (some (.agg #[.int .i64 0,.string ⟨#[]⟩]),2,24):=by kernel_rfl
theorem zcl (l:List Ch):∀u∈chs l,u.oneCell'=true:=by
 induction l with
 |nil=>intro u hu;simp[chs]at hu
 |cons c l ih=>
  intro u hu;rw[zch]at hu;rcases List.mem_cons.1 hu with rfl|hu
  ·rfl
  rcases List.mem_cons.1 hu with rfl|hu
  ·rfl
  ·exact ih u hu
theorem SlR.news {w:World} {ad:Addr} {n cap:Nat} {xs:List Value} (h:SlR w (.slice (some ad) n cap) n xs) (hx:n=0→xs=[]):∀j u,xs[j]? =some u→w.cell? (ad.add j)=some u:=by
 intro j u hj;rcases Nat.eq_zero_or_pos n with h0|h0
 ·rw[hx h0]at hj;simp at hj
 ·obtain⟨b,o,cap',hv,-,-,hc⟩:=h.at h0;injection hv with e1 _ _;injection e1 with e1;subst e1;rw[addr_add];exact hc j u hj
theorem zck (l:List Ch) (h:l.length=0):chs l=[]:=by rw[List.length_eq_zero_iff.1 h];rfl
theorem zco (v:Value) (l:List Ch) (w:World) (hs:SlR w v l.length (chs l)) (hn:l.length≤1000000):
 Calls Tryz.prog 152 #[v] w fun e w'=>∃v',e=.returned v'∧w'.ownsRow w.heap.size 57 2 v' l.length (chs l)∧Below w.heap.size w w':=by
 obtain⟨a,cap,rfl,hc,hm,hz,hat⟩:=hs;have hs:SlR w (.slice a l.length cap) l.length (chs l):=⟨a,cap,rfl,hc,hm,hz,hat⟩;cases a with
 |none=>
  have hcap:=hz rfl;subst hcap;have hq:=Lib.run_eql_slice_nil (P:=Tryz.prog) w 58 57 none l.length 0 0 0 Tryz.underlying58;have h0:l.length=0:=by omega
  have HL:=lhd (zck l h0);have H0:=lhd h0;clear hs hz hat h0;go_enter Tryz.func152,Tryz.ntmps152;go_wp2_with fail;go_ret;exact⟨_,rfl,by rw[HL.out,H0.out];exact World.ownsRow_nil _ _ _ _,Below.refl _ _⟩
 |some ad=>
  have hq:=Lib.run_eql_slice_nil (P:=Tryz.prog) w 58 57 (some ad) l.length cap 0 0 Tryz.underlying58;obtain⟨i0,hi,iz0,iz1,iz2⟩:=info_parts (P:=Tryz.prog) zb5;have hbw:Below w.heap.size w (w.alloc (.cells #[] 57)):=(Below.refl _ _).alloc (Nat.le_refl _) _;have HN:=lhd ((hs.below hbw).news (zck l));have hown:(w.alloc (.cells #[] 57)).ownsRow w.heap.size 57 2 (.slice (some ⟨w.heap.size,0,none⟩) 0 0) 0 []:=World.ownsRow_lit w #[] 0 (Nat.le_refl _) (by simp[maxLen]) (by simp);have HOWN:=lhd hown;clear hs hz hat hbw hown;go_enter Tryz.func152,Tryz.ntmps152;go_wp2_with (at_builtin;refine wpList_append_own _ rfl _ _ 58 rfl w.heap.size 57 i0 (.agg #[.int .i64 0,.string ⟨#[]⟩]) 2 24 Tryz.underlying58 hi iz0 iz1 iz2 rfl (by decide) _ _ _ rfl HOWN.out ad l.length cap (chs l) rfl (by rw[zcj];omega) HN.out (zcl l) (by unfold maxLen;omega) (by omega) (by simp) ?_)
  intro v' w' ho hg _;have HO:=lhd ho;have HG:=lhd hg;clear ho hg;go_wp2_with fail;go_ret;exact⟨_,rfl,by have:=HO.out;simpa using this,((Below.refl _ _).alloc (Nat.le_refl _) _).grown HG.out (by simp) (by intro k hk;simp[Value.ownBlock]at hk;omega)⟩
end Go.Proofs.YtfppgpamkdkckaaGreatDoor
