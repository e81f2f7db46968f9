import Derived.Test.YtbiadennhnokhaaGreatDoorZ00
import Derived.Sort.LotA
import Derived.Test.YtbiadennhnokhaaGreatDoorZ04
import Derived.Test.YtbiadennhnokhaaGreatDoorZ28
set_option maxRecDepth 100000
set_option maxHeartbeats 16000000
namespace Go.Proofs.YtbiadennhnokhaaGreatDoor
open Go.RowKit
theorem zlq (k n k2 n2:Int) (v u:Value) (l m:List Ch) (w:World) (hs:SlR w v l.length (chs l)) (ht:SlR w u m.length (chs m)):
 Calls Tryz.prog 72 #[.agg #[.int .i64 k,.int .i64 n,v],.agg #[.int .i64 k2,.int .i64 n2,u]] w fun e w'=>e=.returned (.bool (sEq k n l k2 n2 m))∧Below w.heap.size w w':=by
 obtain⟨a,cap,rfl,hc,hm⟩:=hs.shape;obtain⟨a2,cap2,rfl,hc2,hm2⟩:=ht.shape;have hbw:Below w.heap.size w ((w.alloc (.cells #[.int .i64 k,.int .i64 n,.slice a l.length cap] 45)).alloc (.cells #[.int .i64 k2,.int .i64 n2,.slice a2 m.length cap2] 45)):=((Below.refl _ _).alloc (Nat.le_refl _) _).alloc (by simp) _;have HE:=lhd (zlt _ _ l m _ (hs.below hbw) (ht.below hbw));have HB:=lhd hbw;clear hs ht hbw;by_cases hk:k=k2
 ·by_cases hn:n=n2
  ·have HR:=lhd (show sEq k n l k2 n2 m=zlY l m by simp[sEq,hk,hn]);subst hk hn;go_enter Tryz.func72,Tryz.ntmps72;go_wp2_with fail;refine HE.out.mono ?_;rintro e w1 ⟨rfl,hb⟩;go_wp2_with fail;go_ret;exact⟨zlE HR.out.symm,HB.out.trans (hb.mono HB.out.size)⟩
  ·have HR:=lhd (show sEq k n l k2 n2 m=false by simp[sEq,hk,hn]);have hnb:(n==n2)=false:=by rw[beq_eq_false_iff_ne];exact hn
   subst hk;clear hn;go_enter Tryz.func72,Tryz.ntmps72;go_wp2_with fail;go_ret;exact⟨zlE HR.out.symm,HB.out⟩
 ·have HR:=lhd (show sEq k n l k2 n2 m=false by simp[sEq,hk]);have hkb:(k==k2)=false:=by rw[beq_eq_false_iff_ne];exact hk
  clear hk;go_enter Tryz.func72,Tryz.ntmps72;go_wp2_with fail;go_ret;exact⟨zlE HR.out.symm,HB.out⟩
theorem zeV {p:Nat→Bool} {f N:Nat} (h:∀g,g<f→p g=false) (hf:p f=true) (hN:f<N):(List.range N).find? p=some f:=
 List.find?_range_eq_some.2 ⟨hf,List.mem_range.2 hN,fun j hj=>by rw[h j hj];rfl⟩
theorem zeU {p:Nat→Bool} {N:Nat} (h:∀g,g<N→p g=false):(List.range N).find? p=none:=by
 rw[List.find?_eq_none];intro x hx;rw[List.mem_range]at hx;simp[h x hx]
theorem zpw {x s:Sg} (h:x.1≠s.1):tryD x s=none:=by unfold tryD;rw[if_pos h]
theorem zpu {x s:Sg} (hk:x.1=s.1) {inv:Bool} {f:Nat} (hit:hitF x s inv f=true) (hf:(f:Int)≤x.2.1-s.2.1) (hb:∀g,g<f→hitF x s inv g=false) (hi:inv=true→tryF x s false=none) (hz:s.1≠0→f=0∧inv=false):tryD x s=some (f,inv):=by
 have hF:tryF x s inv=some f:=zeV hb hit (by omega);unfold tryD;rw[if_neg (by simp[hk])];by_cases h0:s.1≠0
 ·obtain⟨rfl,rfl⟩:=hz h0;rw[if_pos h0,if_pos ⟨by omega,hit⟩]
 ·rw[if_neg h0];cases inv
  ·rw[hF]
  ·rw[hi rfl,hF];rfl
theorem zpA {x s:Sg} {inv:Bool} {f:Nat} (hb:∀g,g<f→hitF x s inv g=false) (hf:x.2.1-s.2.1<(f:Int)):tryF x s inv=none:=zeU fun g hg=>hb g (by omega)
theorem zpy {x s:Sg} (hk:x.1=s.1) (h0:s.1=0) (h1:tryF x s false=none) (h2:tryF x s true=none):tryD x s=none:=by
 unfold tryD;rw[if_neg (fun h=>h hk),if_neg (fun h=>h h0),h1];simp only[h2];rfl
theorem zpx {x s:Sg} (h0:s.1≠0) (h1:hitF x s false 0=false):tryD x s=none:=by
 unfold tryD;split
 ·rfl
 ·first
   |rw[if_pos h0,if_neg (by simp[h1])]
   |rw[if_neg (by simp[h1])]
def gosR (S:List Sg) (st:List Nat) (s:Sg) (j:Nat):Option Dv:=(st.drop j).findSome? fun i=>(tryD (sgAt S i) s).map (mkD i)
theorem zfy {S:List Sg} {st:List Nat} {s x:Sg} {j kk:Nat} {p:Nat×Bool} (hj:j<st.length) (hk:st[j]=kk) (hx:sgAt S kk=x) (h:tryD x s=some p):gosR S st s j=some (mkD kk p):=by
 unfold gosR;rw[List.drop_eq_getElem_cons hj,List.findSome?_cons,hk,hx,h];rfl
theorem zfz {S:List Sg} {st:List Nat} {s x:Sg} {j kk:Nat} (hj:j<st.length) (hk:st[j]=kk) (hx:sgAt S kk=x) (h:tryD x s=none):gosR S st s (j+1)=gosR S st s j:=by
 unfold gosR;rw[List.drop_eq_getElem_cons hj,List.findSome?_cons,hk,hx,h];rfl
structure DeSt (w W:World) (s:List Value) (d:List Value):Prop where
 s:zas W w.heap.size s
 r:zas W (w.heap.size+1) [.int .i64 0,.int .i64 0,.bool false]
 d:zas W (w.heap.size+1+1) d
 b:Below w.heap.size w W
 z:w.heap.size+1+1<W.heap.size
theorem DeSt.start (w:World) (S:Array Value) (T T2:TypeId):DeSt w (((w.alloc (.cells S T)).alloc (.cells #[.int .i64 0,.int .i64 0,.bool false] T2)).alloc (.cells #[.int .i64 0,.int .i64 0,.bool false] T2)) S.toList [.int .i64 0,.int .i64 0,.bool false]:=by
 refine⟨?_,?_,?_,(((Below.refl _ _).alloc (Nat.le_refl _) _).alloc (by simp) _).alloc (by simp;omega) _,by simp⟩
 ·exact((zas.fresh w S _).alloc (by simp) _).alloc (by simp;omega) _
 ·have h:=zas.fresh (w.alloc (.cells S T)) #[.int .i64 0,.int .i64 0,.bool false] T2;simp only[World.size_alloc]at h;exact h.alloc (by simp) _
 ·have h:=zas.fresh ((w.alloc (.cells S T)).alloc (.cells #[.int .i64 0,.int .i64 0,.bool false] T2)) #[.int .i64 0,.int .i64 0,.bool false] T2;simp only[World.size_alloc]at h;exact h
theorem DeSt.later {w W W':World} {s d:List Value} (h:DeSt w W s d) {B:Nat} (hb:Below B W W') (hB:w.heap.size+1+1<B):DeSt w W' s d:=
 ⟨h.s.below hb (by omega),h.r.below hb (by omega),h.d.below hb hB,h.b.trans (hb.mono (by omega)),by have:=hb.size;have:=h.z;omega⟩
theorem DeSt.drewN {w W:World} {s d:List Value} (h:DeSt w W s d) (m:Nat):DeSt w (W.drewN m) s d:=⟨h.s,h.r,h.d,zbz h.b m,h.z⟩
theorem DeSt.setd {w W:World} {s:List Value} {x y z:Value} (h:DeSt w W s [x,y,z]) (p q r:Value):
 DeSt w (((W.setCell ⟨w.heap.size+1+1,0,none⟩ p).setCell ⟨w.heap.size+1+1,1,none⟩ q).setCell ⟨w.heap.size+1+1,2,none⟩ r) s [p,q,r]:=
 ⟨((h.s.setOther (by omega) _ _).setOther (by omega) _ _).setOther (by omega) _ _,((h.r.setOther (by omega) _ _).setOther (by omega) _ _).setOther (by omega) _ _,
  ((h.d.set (j:=0) (by simp) p).set (j:=1) (by simp) q).set (j:=2) (by simp) r,zbI h.b (by omega) _ _ _,by have:=h.z;simpa using this⟩
theorem zbw {w W:World} {x:Obj} (h:Below (w.alloc x).heap.size (w.alloc x) W):Below w.heap.size w W:=
 ((Below.refl w.heap.size w).alloc (Nat.le_refl _) x).trans (h.mono (by simp))
theorem DeSt.apart {w W:World} {s d:List Value} (h:DeSt w W s d) {b o:Nat} {v:Value} (hc:w.cell? ⟨b,o,none⟩=some v):W.cell? ⟨b,o,none⟩=some v:=(h.b.cell (p:=⟨b,o,none⟩) (zcn hc)).trans hc
theorem DeSt.setO {w W:World} {s d:List Value} (h:DeSt w W s d) {b:Nat} (hb:w.heap.size+1+1<b) (p q r:Value):DeSt w (((W.setCell ⟨b,0,none⟩ p).setCell ⟨b,1,none⟩ q).setCell ⟨b,2,none⟩ r) s d:=
 ⟨((h.s.setOther (by omega) _ _).setOther (by omega) _ _).setOther (by omega) _ _,((h.r.setOther (by omega) _ _).setOther (by omega) _ _).setOther (by omega) _ _,
  ((h.d.setOther (by omega) _ _).setOther (by omega) _ _).setOther (by omega) _ _,zbI h.b (by omega) _ _ _,by have:=h.z;simpa using this⟩
theorem DeSt.fin {w W:World} {s d:List Value} (h:DeSt w W s d) (x y z:Value):
 (((((W.setCell ⟨w.heap.size+1,0,none⟩ x).setCell ⟨w.heap.size+1,1,none⟩ y).setCell ⟨w.heap.size+1,2,none⟩ z).cell? ⟨w.heap.size+1,0,none⟩=some x∧(((W.setCell ⟨w.heap.size+1,0,none⟩ x).setCell ⟨w.heap.size+1,1,none⟩ y).setCell ⟨w.heap.size+1,2,none⟩ z).cell? ⟨w.heap.size+1,1,none⟩=some y∧(((W.setCell ⟨w.heap.size+1,0,none⟩ x).setCell ⟨w.heap.size+1,1,none⟩ y).setCell ⟨w.heap.size+1,2,none⟩ z).cell? ⟨w.heap.size+1,2,none⟩=some z))∧
  Below w.heap.size w (((W.setCell ⟨w.heap.size+1,0,none⟩ x).setCell ⟨w.heap.size+1,1,none⟩ y).setCell ⟨w.heap.size+1,2,none⟩ z):=
 ⟨set3 (h.r.cell (j:=0) rfl) (h.r.cell (j:=1) rfl) (h.r.cell (j:=2) rfl) x y z,zbI h.b (by omega) _ _ _⟩
def zae (r:Option Dv) (w:World) (e:Ending) (w':World):Prop:=
 e=.returned (.tuple #[.agg #[.int .i64 (r.getD (0,0,false)).1,.int .i64 (r.getD (0,0,false)).2.1,.bool (r.getD (0,0,false)).2.2],.bool r.isSome])∧Below w.heap.size w w'
theorem zaU (v vst:Value) (L:List (Sg×Value)) (st:List Nat) (s:Sg) (u:Value) (w:World) (hg:Glob w) (hs:Sigs w v L) (hf:FitS L) (ht:SlR w vst st.length (nats st)) (htl:st.length≤1000000) (hst:∀k∈st,k<L.length)
 (hsu:SlR w u s.2.2.length (chs s.2.2)) (hfs:Fit s.2.2) (hw:∀x∈L,0≤x.1.2.1∧x.1.2.1≤128) (hsw:0≤s.2.1∧s.2.1≤128) (hk0:s.1≠0→s.2.1=0∧∀x∈L,x.1.1=s.1→x.1.2.1=0):
 Calls Tryz.prog 116 #[v,vst,.agg #[.int .i64 s.1,.int .i64 s.2.1,u]] w (zae (zdL (L.map Prod.fst) st s) w):=by
 obtain⟨k,n,l⟩:=s;dsimp only at hsu hfs hsw hk0⊢;obtain⟨a,cap,rfl,hc,hm⟩:=hs.s.shape;obtain⟨a2,cap2,rfl,hc2,hm2⟩:=ht.shape;obtain⟨a3,cap3,rfl,hc3,hm3⟩:=hsu.shape;have hst0:=DeSt.start w #[.int .i64 k,.int .i64 n,.slice a3 l.length cap3] 45 87;have HST:=lhd hst0;have HS:=lhd hs;have HF:=lhd hf;have HT:=lhd ht;have HSU:=lhd hsu;have HG:=lhd hg;have HIN:=lhd hst;have hln:=hf.1;try (unfold maxLen at hln)
 have HW:=lhd hw;have HK0:=lhd hk0;have HFS:=lhd hfs;have HSW:=lhd hsw;clear hst0 hs hf ht hsu hg hst hw hk0 hfs hsw;by_cases hl:l=[]
 ·have HR:=lhd (show zdL (L.map Prod.fst) st (k,n,l)=some (-1,0,false)by unfold zdL;rw[if_pos hl]);have hlb:((l.length:Int)==0)=true:=by rw[hl];rfl
  clear hl;go_enter Tryz.func116,Tryz.ntmps116;go_wp2_with fail;go_step3
  go_wp2_with fail;try rw[Exit.noGoto_ret]
  refine bodyPost_ret (v:=.tuple #[.agg #[.int .i64 (-1),.int .i64 0,.bool false],.bool true]) (by simp[results,Tryz.results116,go_sem]) rfl ?_;rw[HR.out];exact⟨rfl,((Below.refl _ _).alloc (Nat.le_refl _) _).alloc (by simp) _⟩
 have hlp:0<l.length:=List.length_pos_iff.2 hl;have hlb:((l.length:Int)==0)=false:=by rw[beq_eq_false_iff_ne];omega
 have HR:=lhd (show zdL (L.map Prod.fst) st (k,n,l)=gosR (L.map Prod.fst) st (k,n,l) 0 by unfold zdL gosR;rw[if_neg hl];rfl);clear hl;go_enter Tryz.func116,Tryz.ntmps116;go_wp2_with fail;go_step3
 go_wp2_with fail;go_step3
 go_wp2_with fail
 go_loopw [23] (fun i wr=>∃(j:Nat) (d0 d1:Int) (d2:Bool),j≤st.length∧i=.int .i64 j∧gosR (L.map Prod.fst) st (k,n,l) j=zdL (L.map Prod.fst) st (k,n,l)∧
  DeSt w wr [.int .i64 k,.int .i64 n,.slice a3 l.length cap3] [.int .i64 d0,.int .i64 d1,.bool d2]) (fun i _=>st.length-(intOf i).toNat)
 case atStart=>exact⟨0,0,0,false,Nat.zero_le _,rfl,HR.out.symm,HST.out⟩
 case round=>
  obtain⟨j,e0,e1,e2,hj,rfl,hgo,hD⟩:=hrel;have HGO:=lhd hgo;have HD:=lhd hD;clear hgo hD HST HR;by_cases hlt:j<st.length
  ·obtain⟨bs,os,cs,hv,-,-,hcell⟩:=(HT.out.below HD.out.b).at (by omega);injection hv with e1 e2 e3;subst e1;clear e2 e3;obtain⟨kk,hkk⟩:∃kk,st[j]=kk:=⟨_,rfl⟩;have hki:kk<L.length:=hkk▸HIN.out st[j] (List.getElem_mem hlt);have hkc:=hcell j (.int .i64 (kk:Int)) (by simp[nats,hlt,hkk]);obtain⟨b,o,e2,y0,y1,y2,hd⟩:=HS.out.at hki;subst e2;have HX:=lhd (show sgAt (L.map Prod.fst) kk=L[kk].1 by rw[zmB (by simpa using hki)];simp);have HFX:=lhd (HF.out.2 _ (List.getElem_mem hki));have hwx:=HW.out _ (List.getElem_mem hki);have HKX:=lhd (fun h0=>(HK0.out h0).2 _ (List.getElem_mem hki));have HKK:=lhd hkk;generalize L[kk]=x at y0 y1 y2 hd HX HFX hwx HKX;obtain⟨⟨xk,xn,xl⟩,xv⟩:=x;dsimp only at y0 y1 y2 hd HX HFX hwx HKX;obtain⟨xa,xc,rfl,-,-⟩:=hd.shape;have d0:=HD.out.apart y0;have d1:=HD.out.apart y1;have d2:=HD.out.apart y2;have Y0:=lhd y0;have Y1:=lhd y1;have Y2:=lhd y2;clear y0 y1 y2;have HDX:=lhd hd;have s0:=HD.out.s.cell (j:=0) rfl;have s1:=HD.out.s.cell (j:=1) rfl;have s2:=HD.out.s.cell (j:=2) rfl;have hsw:=HSW.out;clear hcell hd hkk;go_wp2_with fail;go_quiet (fail);by_cases hkx:xk≠k
   ·have hkb:(xk !=k)=true:=by rw[bne_iff_ne];exact hkx
    have HG2:=lhd ((zfz hlt HKK.out HX.out (zpw (s:=(k,n,l)) hkx)).trans HGO.out);go_wp2_with fail;go_roundw;case rel=>exact⟨j+1,_,_,_,by omega,by go_num,HG2.out,HD.out.drewN _⟩
    case measure=>simp[intOf];omega
   have hkb:(xk !=k)=false:=by rw[bne_eq_false_iff_eq];omega
   obtain rfl:xk=k:=by omega
   clear hkx;have hD2:=(HD.out.drewN nq);have hB:=hD2.b.size;have hz:=hD2.z;have HD2:=lhd hD2;clear hD2;clear d0 d1 d2 s0 s1 s2 hkc;generalize wr.drewN nq=w1 at HD2 hB hz⊢;go_wp2_with fail;have HI:=lhd (zas.fresh w1 #[.bool false,.bool true] 4);have HD3:=lhd (HD2.out.later ((Below.refl w1.heap.size w1).alloc (Nat.le_refl _) (.cells #[.bool false,.bool true] 4)) hz)
   go_loopw [37] (fun i w2=>∃(q:Nat) (d0 d1:Int) (d2:Bool),q≤2∧i=.int .i64 q∧(1≤q→tryF (xk,xn,xl) (xk,n,l) false=none)∧(2≤q→tryF (xk,xn,xl) (xk,n,l) true=none)∧(xk≠0→q=0)∧
    zas w2 w1.heap.size [.bool false,.bool true]∧w1.heap.size<w2.heap.size∧DeSt w w2 [.int .i64 xk,.int .i64 n,.slice a3 l.length cap3] [.int .i64 d0,.int .i64 d1,.bool d2]) (fun i _=>2-(intOf i).toNat)
   case atStart=>exact⟨0,e0,e1,e2,by omega,rfl,by omega,by omega,by omega,HI.out,by simp,HD3.out⟩
   case round=>
    obtain⟨q,f0,f1,f2,hq,rfl,hn0,hn1,hkq,hi,hs2,hd2⟩:=hrel;have HN0:=lhd hn0;have HN1:=lhd hn1;have HKQ:=lhd hkq;have HDQ:=lhd hd2;clear HI HD3 HD2 hd2 hn0 hn1 hkq;by_cases hq2:q<2
    ·obtain⟨inv,hinv,hiq⟩:∃inv:Bool,([.bool false,.bool true]:List Value)[q]? =some (.bool inv)∧inv=decide (q=1):=by
      rcases(show q=0∨q=1 by omega)with rfl|rfl<;>exact⟨_,rfl,rfl⟩
     have i0:=hi.cell (j:=q) hinv;have HII:=lhd hi;have HIQ:=lhd hiq;have hqd:decide ((q:Int)<2)=true:=by rw[decide_eq_true_iff];omega
     clear hi hinv hiq;go_wp2_with fail;clear hqd
     go_loopw [13] (fun i w3=>∃(f:Nat) (d0 d1:Int) (d2:Bool),f≤(xn-n+1).toNat∧i=.int .i64 f∧(∀g,g<f→hitF (xk,xn,xl) (xk,n,l) inv g=false)∧(xk≠0→f=0)∧
      zas w3 w1.heap.size [.bool false,.bool true]∧w1.heap.size<w3.heap.size∧DeSt w w3 [.int .i64 xk,.int .i64 n,.slice a3 l.length cap3] [.int .i64 d0,.int .i64 d1,.bool d2]) (fun i _=>(xn-n+1).toNat-(intOf i).toNat)
     case atStart=>exact⟨0,f0,f1,f2,Nat.zero_le _,rfl,by omega,fun _=>rfl,HII.out,hs2,HDQ.out⟩
     case round=>
      obtain⟨f,g0,g1,g2,hf,rfl,hfg,hkf,hi3,hs3,hd3⟩:=hrel;have HFG:=lhd hfg;have HKF:=lhd hkf;have HII3:=lhd hi3;have HD3:=lhd hd3;clear HDQ HII hfg hkf hi3 hd3 i0;have x0:=HD3.out.apart Y0.out;have x1:=HD3.out.apart Y1.out;have x2:=HD3.out.apart Y2.out;have s0:=HD3.out.s.cell (j:=0) rfl;have s1:=HD3.out.s.cell (j:=1) rfl;have s2:=HD3.out.s.cell (j:=2) rfl;have e0:=HD3.out.d.free (j:=0) (by simp);have e1:=HD3.out.d.free (j:=1) (by simp);have e2:=HD3.out.d.free (j:=2) (by simp);have e3:=HD3.out.d.cell (j:=0) rfl;have e4:=HD3.out.d.cell (j:=1) rfl;have e5:=HD3.out.d.cell (j:=2) rfl;go_wp2_with fail;go_quiet (fail);by_cases hfl:(f:Int)≤xn-n
      ·go_upto_region 15 with fail;have hd4:=((HD3.out.drewN nq).setd (.int .i64 (kk:Int)) (.int .i64 (f:Int)) (.bool inv));have hi4:=((zas.setOther (w:=wr.drewN nq) (b:=w1.heap.size) (b':=w.heap.size+1+1) HII3.out (by omega) 0 (.int .i64 (kk:Int))).setOther (b':=w.heap.size+1+1) (by omega) 1 (.int .i64 (f:Int))).setOther (b':=w.heap.size+1+1) (by omega) 2 (.bool inv);have hs4:w1.heap.size<((((wr.drewN nq).setCell ⟨w.heap.size+1+1,0,none⟩ (.int .i64 (kk:Int))).setCell ⟨w.heap.size+1+1,1,none⟩ (.int .i64 (f:Int))).setCell ⟨w.heap.size+1+1,2,none⟩ (.bool inv)).heap.size:=by simpa using hs3
       generalize ((((wr.drewN nq).setCell ⟨w.heap.size+1+1,0,none⟩ (.int .i64 (kk:Int))).setCell ⟨w.heap.size+1+1,1,none⟩ (.int .i64 (f:Int))).setCell ⟨w.heap.size+1+1,2,none⟩ (.bool inv))=w4 at hd4 hi4 hs4⊢;clear x0 x1 x2 s0 s1 s2 e0 e1 e2 e3 e4 e5 HD3 HII3;have x0:=hd4.apart Y0.out;have x1:=hd4.apart Y1.out;have x2:=hd4.apart Y2.out;have s1:=hd4.s.cell (j:=1) rfl;have e0:=hd4.d.cell (j:=0) rfl;have e1:=hd4.d.cell (j:=1) rfl;have e2:=hd4.d.cell (j:=2) rfl;have hz40:=hd4.z;have HD4:=lhd hd4;have HI4:=lhd hi4;obtain⟨y,hy⟩:∃y,y=zkw (xk,xn,xl) (f:Int) inv n:=⟨_,rfl⟩;have HP:=lhd (fun W (hW:Below w.heap.size w W)=>zaW (xk,xn,xl) (.slice xa xl.length xc) (kk:Int) (f:Int) n inv W (HG.out.below hW) (HDX.out.below hW) HFX.out);rw[←hy]at HP;obtain⟨⟨yk,yn,yl⟩,ye⟩:=y;have HIT:=lhd (show hitF (xk,xn,xl) (xk,n,l) inv f=(ye&&decide (yl=l))by unfold hitF;dsimp only;rw[←hy]);dsimp only at HP;clear hd4 hi4 hy
       go_region_held3 (fun w'=>w'.cell? ⟨b,o+kk*3,none⟩=some (.int .i64 xk)∧w'.cell? ⟨b,o+kk*3+1,none⟩=some (.int .i64 xn)∧w'.cell? ⟨b,o+kk*3+2,none⟩=some (.slice xa xl.length xc)∧w'.cell? ⟨w.heap.size,1,none⟩=some (.int .i64 n)∧
        w'.cell? ⟨w.heap.size+1+1,0,none⟩=some (.int .i64 (kk:Int))∧w'.cell? ⟨w.heap.size+1+1,1,none⟩=some (.int .i64 (f:Int))∧w'.cell? ⟨w.heap.size+1+1,2,none⟩=some (.bool inv))
        (first|exact⟨x0,x1,x2,s1,e0,e1,e2⟩|exact⟨v0,v1,v2,t1,u0,u1,u2⟩|(have h9:=DeSt.setO H5.out hz40 (.int .i64 yk) (.int .i64 yn) (.slice a5 yl.length c5);exact⟨h9.apart Y0.out,h9.apart Y1.out,h9.apart Y2.out,h9.s.cell (j:=1) rfl,h9.d.cell (j:=0) rfl,h9.d.cell (j:=1) rfl,h9.d.cell (j:=2) rfl⟩)|go_keep)
        (first
          |(go_at_call 105;(with_reducible refine(HP.out _ ?_).mono ?_);(exact zbz HD4.out.b _);rintro e w5 ⟨v5,rfl,hq5,hb5⟩;have h5:=HD4.out.later (zbL hb5) HD4.out.z;have ho5:=hq5.slr (HDX.out.below h5.b);obtain⟨a5,c5,rfl,-,-⟩:=ho5.shape;have HQ5:=lhd hq5;have v0:=h5.apart Y0.out;have v1:=h5.apart Y1.out;have v2:=h5.apart Y2.out;have t1:=h5.s.cell (j:=1) rfl;have u0:=h5.d.cell (j:=0) rfl;have u1:=h5.d.cell (j:=1) rfl;have u2:=h5.d.cell (j:=2) rfl;have H5:=lhd h5;have HO5:=lhd ho5;have HI5:=lhd (HI4.out.below (zbL hb5) hs4);have hz5:w4.heap.size≤w5.heap.size:=(zbL hb5).size;clear h5 hb5 ho5 hq5)
          |(go_at_call 105;(with_reducible refine(HP.out _ ?_).mono ?_);(exact(zbz HD4.out.b _).alloc (by simpa using HD4.out.b.size) _);rintro e w5 ⟨v5,rfl,hq5,hb5⟩;have h5:=HD4.out.later (zbL (zbw hb5)) HD4.out.z;have ho5:=hq5.slr (HDX.out.below h5.b);obtain⟨a5,c5,rfl,-,-⟩:=ho5.shape;have HQ5:=lhd hq5;have v0:=h5.apart Y0.out;have v1:=h5.apart Y1.out;have v2:=h5.apart Y2.out;have t1:=h5.s.cell (j:=1) rfl;have u0:=h5.d.cell (j:=0) rfl;have u1:=h5.d.cell (j:=1) rfl;have u2:=h5.d.cell (j:=2) rfl;have H5:=lhd h5;have HO5:=lhd ho5;have HI5:=lhd (HI4.out.below (zbL (zbw hb5)) hs4);have hz5:w4.heap.size≤w5.heap.size:=(zbL (zbw hb5)).size;have hx5:zas w5 w4.heap.size [.int .i64 0,.int .i64 0,.slice none 0 0]:=(zas.fresh w4.drew #[.int .i64 0,.int .i64 0,.slice none 0 0] 45).below hb5 (by simp);have x0:=hx5.cell (j:=0) rfl;have x1:=hx5.cell (j:=1) rfl;have x2:=hx5.cell (j:=2) rfl;have z0:=hx5.free (j:=0) (by simp);have z1:=hx5.free (j:=1) (by simp);have z2:=hx5.free (j:=2) (by simp);have HX5:=lhd hx5;clear h5 hb5 ho5 hq5))
       ·rename_i hh
        clear hh;have hal:=(Below.refl w5.heap.size w5).alloc (Nat.le_refl _) (.cells #[.int .i64 yk,.int .i64 yn,.slice a5 yl.length c5] 45);have h6:=H5.out.later hal (by have:=H5.out.z;omega);have ho6:=HO5.out.below hal;have hx6:=zas.fresh w5 #[.int .i64 yk,.int .i64 yn,.slice a5 yl.length c5] 45;have hi6:=HI5.out.below hal (by omega);have hz6:w1.heap.size<(w5.alloc (.cells #[.int .i64 yk,.int .i64 yn,.slice a5 yl.length c5] 45)).heap.size:=by simp;omega
        generalize w5.alloc (.cells #[.int .i64 yk,.int .i64 yn,.slice a5 yl.length c5] 45)=w6 at h6 ho6 hx6 hi6 hz6⊢;generalize w5.heap.size=B at hx6⊢;have HD6:=lhd h6;have HI6:=lhd hi6;have HO6:=lhd ho6;have b0:=hx6.cell (j:=2) rfl;have s2:=h6.s.cell (j:=2) rfl;clear v0 v1 v2 t1 u0 u1 u2 hx6 h6 hi6 ho6;cases ye
        ·have HM:=lhd (show hitF (xk,xn,xl) (xk,n,l) inv f=false by rw[HIT.out];rfl);have HD9:=HD6;have HI9:=HI6;have hz9:=hz6;have s0:=HD9.out.s.cell (j:=0) rfl;by_cases hz0:xk≠0
         ·have hzb:(xk !=0)=true:=by rw[bne_iff_ne];exact hz0
          have HG9:=lhd ((zfz hlt HKK.out HX.out (zpx (x:=(xk,xn,xl)) (s:=(xk,n,l)) hz0 (by
           have h1:=HM.out;have h2:=HIQ.out;rw[HKF.out hz0]at h1;rw[HKQ.out hz0]at h2;rw[h2]at h1;exact h1))).trans HGO.out)
          clear hz0;go_wp2_with fail;go_roundw;case rel=>exact⟨j+1,_,_,_,by omega,by go_num,HG9.out,HD9.out⟩
          case measure=>simp[intOf];omega
         ·have hzb:(xk !=0)=false:=by rw[bne_eq_false_iff_eq];omega
          have HZ:=lhd (show xk=0 by omega);clear hz0;go_wp2_with fail;go_roundw
          case rel=>exact⟨f+1,_,_,_,by omega,by go_num,fun g hg=>by
           by_cases h:g<f
           ·exact HFG.out g h
           ·rw[show g=f by omega];exact HM.out,fun h=>absurd HZ.out h,HI9.out,hz9,HD9.out⟩
          case measure=>simp[intOf];omega
        ·go_wp2_with fail;refine(zem _ _ yl l _ HO6.out (HSU.out.below HD6.out.b)).mono ?_;rintro e w7 ⟨rfl,hb7⟩;have HD9:=lhd (HD6.out.later hb7 HD6.out.z);have HI9:=lhd (HI6.out.below hb7 hz6);have hz9:w1.heap.size<w7.heap.size:=by have:=hb7.size;omega
         clear hb7 b0 s2;by_cases hyl:yl=l
         ·have hsb:zlY yl l=true:=by rw[show zlY yl l=decide (yl=l)from rfl,decide_eq_true_iff];exact hyl
          have HM:=lhd (show hitF (xk,xn,xl) (xk,n,l) inv f=true by rw[HIT.out];simp[hyl])
          have HN:=lhd (show zdL (L.map Prod.fst) st (xk,n,l)=some (mkD kk (f,inv))from HGO.out.symm.trans (zfy hlt HKK.out HX.out (zpu (x:=(xk,xn,xl)) (s:=(xk,n,l)) rfl HM.out hfl HFG.out (fun h=>HN0.out (by
           have h2:=HIQ.out;rw[h]at h2;have:=of_decide_eq_true h2.symm;omega)) (fun h=>⟨HKF.out h,by rw[HIQ.out,HKQ.out h];rfl⟩))))
          have e0:=HD9.out.d.cell (j:=0) rfl;have e1:=HD9.out.d.cell (j:=1) rfl;have e2:=HD9.out.d.cell (j:=2) rfl;have r0:=HD9.out.r.cell (j:=0) rfl;have r1:=HD9.out.r.cell (j:=1) rfl;have r2:=HD9.out.r.cell (j:=2) rfl;have q0:=HD9.out.r.free (j:=0) (by simp);have q1:=HD9.out.r.free (j:=1) (by simp);have q2:=HD9.out.r.free (j:=2) (by simp);clear hyl;go_wp2_with fail;try rw[Exit.noGoto_ret]
          obtain⟨⟨e0,e1,e2⟩,hbb⟩:=(HD9.out).fin (.int .i64 (kk:Int)) (.int .i64 (f:Int)) (.bool inv);refine bodyPost_ret (v:=.tuple #[.agg #[.int .i64 (kk:Int),.int .i64 (f:Int),.bool inv],.bool true]) (by simp[results,Tryz.results116,go_sem,e0,e1,e2]) rfl ?_;rw[HN.out];exact⟨rfl,hbb⟩
         ·have hsb:zlY yl l=false:=by rw[show zlY yl l=decide (yl=l)from rfl,decide_eq_false_iff_not];exact hyl
          have HM:=lhd (show hitF (xk,xn,xl) (xk,n,l) inv f=false by rw[HIT.out];simp[hyl]);clear hyl;have s0:=HD9.out.s.cell (j:=0) rfl;by_cases hz0:xk≠0
          ·have hzb:(xk !=0)=true:=by rw[bne_iff_ne];exact hz0
           have HG9:=lhd ((zfz hlt HKK.out HX.out (zpx (x:=(xk,xn,xl)) (s:=(xk,n,l)) hz0 (by
            have h1:=HM.out;have h2:=HIQ.out;rw[HKF.out hz0]at h1;rw[HKQ.out hz0]at h2;rw[h2]at h1;exact h1))).trans HGO.out)
           clear hz0;go_wp2_with fail;go_roundw;case rel=>exact⟨j+1,_,_,_,by omega,by go_num,HG9.out,HD9.out⟩
           case measure=>simp[intOf];omega
          ·have hzb:(xk !=0)=false:=by rw[bne_eq_false_iff_eq];omega
           have HZ:=lhd (show xk=0 by omega);clear hz0;go_wp2_with fail;go_roundw
           case rel=>exact⟨f+1,_,_,_,by omega,by go_num,fun g hg=>by
            by_cases h:g<f
            ·exact HFG.out g h
            ·rw[show g=f by omega];exact HM.out,fun h=>absurd HZ.out h,HI9.out,hz9,HD9.out⟩
           case measure=>simp[intOf];omega
       ·rename_i hh
        clear hh;have h6:=H5.out.setO hz40 (.int .i64 yk) (.int .i64 yn) (.slice a5 yl.length c5);have ho6:=zaq.slr (zaq.set3 HQ5.out (show w4.heap.size<_ by simp) (.int .i64 yk) (.int .i64 yn) (.slice a5 yl.length c5)) (HDX.out.below h6.b);have hx6:=((HX5.out.set (j:=0) (by simp) (.int .i64 yk)).set (j:=1) (by simp) (.int .i64 yn)).set (j:=2) (by simp) (.slice a5 yl.length c5);have hi6:=((HI5.out.setOther (b':=w4.heap.size) (by omega) 0 (.int .i64 yk)).setOther (b':=w4.heap.size) (by omega) 1 (.int .i64 yn)).setOther (b':=w4.heap.size) (by omega) 2 (.slice a5 yl.length c5);have hz6:w1.heap.size<((((w5.setCell ⟨w4.heap.size,0,none⟩ (.int .i64 yk)).setCell ⟨w4.heap.size,1,none⟩ (.int .i64 yn)).setCell ⟨w4.heap.size,2,none⟩ (.slice a5 yl.length c5))).heap.size:=by simp;omega
        clear hx5 x0 x1 x2 z0 z1 z2;generalize (((w5.setCell ⟨w4.heap.size,0,none⟩ (.int .i64 yk)).setCell ⟨w4.heap.size,1,none⟩ (.int .i64 yn)).setCell ⟨w4.heap.size,2,none⟩ (.slice a5 yl.length c5))=w6 at h6 ho6 hx6 hi6 hz6⊢;generalize w4.heap.size=B at hx6⊢;have HD6:=lhd h6;have HI6:=lhd hi6;have HO6:=lhd ho6;have b0:=hx6.cell (j:=2) rfl;have s2:=h6.s.cell (j:=2) rfl;clear v0 v1 v2 t1 u0 u1 u2 hx6 h6 hi6 ho6;cases ye
        ·have HM:=lhd (show hitF (xk,xn,xl) (xk,n,l) inv f=false by rw[HIT.out];rfl);have HD9:=HD6;have HI9:=HI6;have hz9:=hz6;have s0:=HD9.out.s.cell (j:=0) rfl;by_cases hz0:xk≠0
         ·have hzb:(xk !=0)=true:=by rw[bne_iff_ne];exact hz0
          have HG9:=lhd ((zfz hlt HKK.out HX.out (zpx (x:=(xk,xn,xl)) (s:=(xk,n,l)) hz0 (by
           have h1:=HM.out;have h2:=HIQ.out;rw[HKF.out hz0]at h1;rw[HKQ.out hz0]at h2;rw[h2]at h1;exact h1))).trans HGO.out)
          clear hz0;go_wp2_with fail;go_roundw;case rel=>exact⟨j+1,_,_,_,by omega,by go_num,HG9.out,HD9.out⟩
          case measure=>simp[intOf];omega
         ·have hzb:(xk !=0)=false:=by rw[bne_eq_false_iff_eq];omega
          have HZ:=lhd (show xk=0 by omega);clear hz0;go_wp2_with fail;go_roundw
          case rel=>exact⟨f+1,_,_,_,by omega,by go_num,fun g hg=>by
           by_cases h:g<f
           ·exact HFG.out g h
           ·rw[show g=f by omega];exact HM.out,fun h=>absurd HZ.out h,HI9.out,hz9,HD9.out⟩
          case measure=>simp[intOf];omega
        ·go_wp2_with fail;refine(zem _ _ yl l _ HO6.out (HSU.out.below HD6.out.b)).mono ?_;rintro e w7 ⟨rfl,hb7⟩;have HD9:=lhd (HD6.out.later hb7 HD6.out.z);have HI9:=lhd (HI6.out.below hb7 hz6);have hz9:w1.heap.size<w7.heap.size:=by have:=hb7.size;omega
         clear hb7 b0 s2;by_cases hyl:yl=l
         ·have hsb:zlY yl l=true:=by rw[show zlY yl l=decide (yl=l)from rfl,decide_eq_true_iff];exact hyl
          have HM:=lhd (show hitF (xk,xn,xl) (xk,n,l) inv f=true by rw[HIT.out];simp[hyl])
          have HN:=lhd (show zdL (L.map Prod.fst) st (xk,n,l)=some (mkD kk (f,inv))from HGO.out.symm.trans (zfy hlt HKK.out HX.out (zpu (x:=(xk,xn,xl)) (s:=(xk,n,l)) rfl HM.out hfl HFG.out (fun h=>HN0.out (by
           have h2:=HIQ.out;rw[h]at h2;have:=of_decide_eq_true h2.symm;omega)) (fun h=>⟨HKF.out h,by rw[HIQ.out,HKQ.out h];rfl⟩))))
          have e0:=HD9.out.d.cell (j:=0) rfl;have e1:=HD9.out.d.cell (j:=1) rfl;have e2:=HD9.out.d.cell (j:=2) rfl;have r0:=HD9.out.r.cell (j:=0) rfl;have r1:=HD9.out.r.cell (j:=1) rfl;have r2:=HD9.out.r.cell (j:=2) rfl;have q0:=HD9.out.r.free (j:=0) (by simp);have q1:=HD9.out.r.free (j:=1) (by simp);have q2:=HD9.out.r.free (j:=2) (by simp);clear hyl;go_wp2_with fail;try rw[Exit.noGoto_ret]
          obtain⟨⟨e0,e1,e2⟩,hbb⟩:=(HD9.out).fin (.int .i64 (kk:Int)) (.int .i64 (f:Int)) (.bool inv);refine bodyPost_ret (v:=.tuple #[.agg #[.int .i64 (kk:Int),.int .i64 (f:Int),.bool inv],.bool true]) (by simp[results,Tryz.results116,go_sem,e0,e1,e2]) rfl ?_;rw[HN.out];exact⟨rfl,hbb⟩
         ·have hsb:zlY yl l=false:=by rw[show zlY yl l=decide (yl=l)from rfl,decide_eq_false_iff_not];exact hyl
          have HM:=lhd (show hitF (xk,xn,xl) (xk,n,l) inv f=false by rw[HIT.out];simp[hyl]);clear hyl;have s0:=HD9.out.s.cell (j:=0) rfl;by_cases hz0:xk≠0
          ·have hzb:(xk !=0)=true:=by rw[bne_iff_ne];exact hz0
           have HG9:=lhd ((zfz hlt HKK.out HX.out (zpx (x:=(xk,xn,xl)) (s:=(xk,n,l)) hz0 (by
            have h1:=HM.out;have h2:=HIQ.out;rw[HKF.out hz0]at h1;rw[HKQ.out hz0]at h2;rw[h2]at h1;exact h1))).trans HGO.out)
           clear hz0;go_wp2_with fail;go_roundw;case rel=>exact⟨j+1,_,_,_,by omega,by go_num,HG9.out,HD9.out⟩
           case measure=>simp[intOf];omega
          ·have hzb:(xk !=0)=false:=by rw[bne_eq_false_iff_eq];omega
           have HZ:=lhd (show xk=0 by omega);clear hz0;go_wp2_with fail;go_roundw
           case rel=>exact⟨f+1,_,_,_,by omega,by go_num,fun g hg=>by
            by_cases h:g<f
            ·exact HFG.out g h
            ·rw[show g=f by omega];exact HM.out,fun h=>absurd HZ.out h,HI9.out,hz9,HD9.out⟩
           case measure=>simp[intOf];omega
      ·have HK:=lhd (show xk=0 from Classical.byContradiction fun h0=>hfl (by have:=HKX.out h0 (by trivial);have:=(HK0.out h0).1;have:=HKF.out h0;omega));have HE:=lhd (zpA (x:=(xk,xn,xl)) (s:=(xk,n,l)) HFG.out (show xn-n<(f:Int)by omega));go_wp2_with fail;go_roundw
       case rel=>exact⟨q+1,_,_,_,by omega,by go_num,fun _=>by
        by_cases h:q=0
        ·have:=HE.out;rw[HIQ.out,h]at this;exact this
        ·exact HN0.out (by omega),fun h=>by have:=HE.out;rw[HIQ.out,show q=1 by omega]at this;exact this,fun h=>absurd HK.out h,HII3.out,hs3,HD3.out.drewN _⟩
       case measure=>simp[intOf];omega
    ·have HK:=lhd (show xk=0 from Classical.byContradiction fun h0=>hq2 (by have:=HKQ.out h0;omega));have HG3:=lhd ((zfz hlt HKK.out HX.out (zpy (s:=(xk,n,l)) rfl HK.out (HN0.out (by omega)) (HN1.out (by omega)))).trans HGO.out);go_wp2_with fail;go_roundw;case rel=>exact⟨j+1,_,_,_,by omega,by go_num,HG3.out,HDQ.out⟩
     case measure=>simp[intOf];omega
  ·obtain rfl:j=st.length:=by omega
   have HN:=lhd (show zdL (L.map Prod.fst) st (k,n,l)=none by rw[←HGO.out];unfold gosR;rw[List.drop_length];rfl);have r0:=HD.out.r.cell (j:=0) rfl;have r1:=HD.out.r.cell (j:=1) rfl;have r2:=HD.out.r.cell (j:=2) rfl;have q0:=HD.out.r.free (j:=0) (by simp);have q1:=HD.out.r.free (j:=1) (by simp);have q2:=HD.out.r.free (j:=2) (by simp);go_wp2_with fail;try rw[Exit.noGoto_ret]
   obtain⟨⟨e0,e1,e2⟩,hbb⟩:=(HD.out).fin (.int .i64 0) (.int .i64 0) (.bool false);refine bodyPost_ret (v:=.tuple #[.agg #[.int .i64 0,.int .i64 0,.bool false],.bool false]) (by simp[results,Tryz.results116,go_sem,e0,e1,e2]) rfl ?_;rw[HN.out];exact⟨rfl,hbb⟩
open Go.RowKit Go.Sort
section
variable {α : Type} [Inhabited α]
theorem zgl (lt:α→α→Bool) (a:Nat):∀(j:Nat) (d:Array α) (m:Nat),j<m→(insInner lt a j d)[m]! =d[m]!
 |0,_,_,_=>rfl
 |j+1,d,m,h=>by
  unfold insInner;split
  ·rw[zgl lt a j _ m (by omega),swp_other d _ _ _ (by omega) (by omega)]
  ·rfl
theorem zgn (lt:α→α→Bool) (a:Nat):∀(j:Nat) (d:Array α),(insInner lt a j d).size=d.size
 |0,_=>rfl
 |j+1,d=>by
  unfold insInner;split
  ·rw[zgn lt a j,swp_size]
  ·rfl
theorem zgm (lt:α→α→Bool) (a:Nat):∀(j:Nat) (d:Array α),j<d.size→∀k,k≤j→∃k',k'≤j∧(insInner lt a j d)[k]! =d[k']!
 |0,_,_,k,h=>⟨k,h,rfl⟩
 |j+1,d,hd,k,h=>by
  unfold insInner;split
  ·by_cases hk:k≤j
   ·obtain⟨k',h1,h2⟩:=zgm lt a j (swp d (j+1) j) (by rw[swp_size];omega) k hk;rw[h2,swp_get d hd (by omega)];by_cases e:k'=j
    ·exact⟨j+1,Nat.le_refl _,by rw[if_pos e]⟩
    ·exact⟨k',by omega,by rw[if_neg e,if_neg (by omega)]⟩
   ·obtain rfl:k=j+1:=by omega
    exact⟨j,by omega,by rw[zgl _ _ _ _ _ (by omega),swp_left d _ _ hd (by omega)]⟩
  ·exact⟨k,h,rfl⟩
theorem zgk {lt lt2:α→α→Bool} {pos:α→Nat} (h:∀x y,pos y<pos x→lt x y=lt2 x y) (a:Nat):∀(j:Nat) (d:Array α),j<d.size→(∀k,k<j→pos d[k]! <pos d[j]!)→insInner lt a j d=insInner lt2 a j d
 |0,_,_,_=>rfl
 |j+1,d,hd,hp=>by
  unfold insInner;rw[h _ _ (hp j (by omega))];split
  ·refine zgk h a j _ (by rw[swp_size];omega) fun k hk=>?_;rw[swp_other d _ _ _ (by omega) (by omega),swp_right d _ _ (by omega)];exact hp k (by omega)
  ·rfl
theorem zj4 {lt lt2:α→α→Bool} {pos:α→Nat} (h:∀x y,pos y<pos x→lt x y=lt2 x y) (a b:Nat):
 ∀(g i:Nat) (d:Array α),b-i≤g→b≤d.size→(∀k m,k<m→i≤m→m<b→pos d[k]! <pos d[m]!)→insOuter lt a b i d=insOuter lt2 a b i d:=by
 intro g;induction g with
 |zero=>
  intro i d hg _ _;unfold insOuter;rw[if_neg (by omega),if_neg (by omega)]
 |succ g ih=>
  intro i d hg hb hp;unfold insOuter;by_cases hib:i<b
  ·rw[if_pos hib,if_pos hib,zgk h a i d (by omega) fun k hk=>hp k i hk (Nat.le_refl _) hib];refine ih _ _ (by omega) (by rw[zgn];exact hb) fun k m hk hm hmb=>?_;rw[zgl _ _ _ _ _ (show i<m by omega)];by_cases hki:k≤i
   ·obtain⟨k',h1,h2⟩:=zgm lt2 a i d (by omega) k hki;rw[h2];exact hp k' m (by omega) (by omega) hmb
   ·rw[zgl _ _ _ _ _ (by omega)];exact hp k m hk (by omega) hmb
  ·rw[if_neg hib,if_neg hib]
end
def zq8 (L:List Sg) (x y:Nat):Int:=if(sgAt L y).2.1<(sgAt L x).2.1 then-1 else if(sgAt L x).2.1<(sgAt L y).2.1 then 1 else 0
theorem zre {L:List Sg} {x y:Nat} (h:y<x):decide (zq8 L x y<0)=wlt L x y:=by
 rw[Bool.eq_iff_iff,decide_eq_true_iff,zrd];unfold zq8;split
 ·simp[*]
 ·split<;>simp<;>omega
theorem zoR (L:List Sg) (n:Nat):SWO (fun x y:Fin n=>wlt L x y):=by
 constructor<;>intros<;>simp_all [zrd,←Bool.not_eq_true]<;>omega
theorem zgb {n:Nat} [Inhabited (Fin n)] {k:Nat} (h:k<n):((Array.ofFn (n:=n) id)[k]!).val=k:=by
 rw[getElem!_pos _ _ (by simpa using h)];simp
theorem znr (L:List Sg) [Inhabited (Fin L.length)]:
 (insertionSort (fun x y:Fin L.length=>decide (zq8 L x y<0)) (Array.ofFn id) 0 L.length).toList.map Fin.val=ordF L:=by
 have e:insertionSort (fun x y:Fin L.length=>decide (zq8 L x y<0)) (Array.ofFn id) 0 L.length=insertionSort (fun x y:Fin L.length=>wlt L x y) (Array.ofFn id) 0 L.length:=by
  refine zj4 (pos:=Fin.val) (fun x y h=>zre h) 0 L.length L.length 1 _ (by omega) (by simp) fun k m hk hm hmb=>?_;rw[zgb (by omega),zgb hmb];exact hk
 rw[e];obtain⟨hP,hS⟩:=insertionSort_holds (lt:=fun x y:Fin L.length=>wlt L x y) (zoR L _) (Array.ofFn id) 0 L.length (by omega) (by simp)
 have hu:=sorted_unique_holds (lt:=fun x y:Fin L.length=>wlt L x y) (zoR L _) (fun x y h1 h2=>by
  apply Fin.ext;rw[←Bool.not_eq_true,zrd]at h1 h2;omega) (Array.ofFn id) _ (by simpa using hP) (by simpa using hS)
 rw[hu,List.map_mergeSort (s:=fun x y=>!wlt L y x) (fun a _ b _=>rfl)];unfold ordF;congr 1
 apply List.ext_getElem<;>simp
open Go.RowKit Go.Sort
theorem zaT (bx:Nat) (v:Value) (L:List (Sg×Value)) (x y:Nat) (w:World) (hb:w.cell? ⟨bx,0,none⟩=some v) (hs:Sigs w v L) (hx:x<L.length) (hy:y<L.length):
 Calls Tryz.prog 114 #[.int .i64 x,.int .i64 y,.pointer (some ⟨bx,0,none⟩)] w fun e w'=>e=.returned (.int .i64 (zq8 (L.map Prod.fst) x y))∧∃q,w'=w.drewN q:=by
 obtain⟨a,cap,rfl,hc,hm⟩:=hs.s.shape;obtain⟨b,o,rfl,d0,d1,d2,hd⟩:=hs.at hx;obtain⟨b',o',e2,d3,d4,d5,hd'⟩:=hs.at hy;simp only[Option.some.injEq,Addr.mk.injEq,and_true]at e2;obtain⟨rfl,rfl⟩:=e2;have HW:=lhd (show zq8 (L.map Prod.fst) x y=Lib.compareInt L[y].1.2.1 L[x].1.2.1 by unfold zq8 Lib.compareInt;rw[zmB (by simpa using hy),zmB (by simpa using hx)];simp);have hxz:(x:Int)<L.length:=by omega
 have hyz:(y:Int)<L.length:=by omega
 generalize L[x]=sx at d0 d1 d2 hd HW;generalize L[y]=sy at d3 d4 d5 hd' HW;clear hs hd hd' d0 d2 d3 d5;go_enter Tryz.func114,Tryz.ntmps114;go_wp2_with fail;go_quiet (first|(go_at_call 115;refine Calls.quiet_of_same (Tryz.cmp_Compare_int _ _ _)))
 go_wp2_with fail;go_ret;exact⟨by rw[HW.out];rfl,_,rfl⟩
theorem zee (args:Array Value) (w:World):(callFunc 114 args).run Tryz.prog w=.ok (.enter 114 args) w:=by
 simp[callFunc,Tryz.func114,Tryz.f114,go_sem]
abbrev encF (n:Nat) (x:Fin n):Value:=.int .i64 (x.val:Int)
theorem oneF (n:Nat):Go.Proofs.OneCell (encF n):=fun _=>rfl
theorem zaZ (cb:Array Value) (cf:Nat→Nat→Int) (n g cap:Nat) [Inhabited (Fin n)] (w:World) (hl:n<20) (hH:Holds (encF n) w g 0 (Array.ofFn id))
 (hc:CmpReads Tryz.prog 114 cb (encF n) (fun x y=>cf x.val y.val) g 0 n w):
 Calls Tryz.prog 157 #[.slice (some ⟨g,0,none⟩) n cap,.int .i64 n,.func (.func 114) #[] cb] w fun e w'=>
  e=.returned (.tuple #[])∧∃m,w'=(putRow (encF n) w g 0 (insertionSort (fun x y:Fin n=>decide (cf x.val y.val<0)) (Array.ofFn id) 0 n)).drewN m:=by
 have h1:=Tryz.insertionSortCmpFunc_one (encF n) (oneF n) (fun x y=>cf x.val y.val) 114 cb g 0 cap 0 n (Array.ofFn id) w (fun args w=>zee args w) (by simpa using hc) hH (by omega) (by simp) (by simp;omega);rw[Array.size_ofFn]at h1;have H1:=lhd h1;clear h1 hc hH;have hd:decide ((20:Int)≤(n:Int))=false:=by rw[decide_eq_false_iff_not];omega
 have hd2:decide ((20:Int)<(n:Int))=false:=by rw[decide_eq_false_iff_not];omega
 go_enter Tryz.func157,Tryz.ntmps157;go_wp2_with fail;refine wp_loop_rounds 1 ?_;rw[rounds_succ];go_wp2_with fail;refine H1.out.mono ?_;rintro e w1 ⟨rfl,m,rfl⟩;go_wp2_with fail;refine wp_loop_rounds 1 ?_;rw[rounds_succ];go_wp2_with fail;go_end0
 exact⟨rfl,m,rfl⟩
theorem zaX (cb:Array Value) (cf:Nat→Nat→Int) (n g cap:Nat) [Inhabited (Fin n)] (w:World) (hl:n<20) (hH:Holds (encF n) w g 0 (Array.ofFn id))
 (hc:CmpReads Tryz.prog 114 cb (encF n) (fun x y=>cf x.val y.val) g 0 n w):
 Calls Tryz.prog 113 #[.slice (some ⟨g,0,none⟩) n cap,.func (.func 114) #[] cb] w fun e w'=>
  e=.returned (.tuple #[])∧∃m,w'=(putRow (encF n) w g 0 (insertionSort (fun x y:Fin n=>decide (cf x.val y.val<0)) (Array.ofFn id) 0 n)).drewN m:=by
 have H1:=lhd (zaZ cb cf n g cap w hl hH hc);clear hc hH;go_enter Tryz.func113,Tryz.ntmps113;go_wp2_with fail;refine H1.out.mono ?_;rintro e w1 ⟨rfl,m,rfl⟩;go_wp2_with fail;go_end0
 exact⟨rfl,m,rfl⟩
theorem zaY (a:Option Addr) (cap bx:Nat) (w:World):
 Calls Tryz.prog 113 #[.slice a 0 cap,.func (.func 114) #[] #[.pointer (some ⟨bx,0,none⟩)]] w fun e w'=>e=.returned (.tuple #[])∧Below w.heap.size w w':=by
 have h1:Calls Tryz.prog 187 #[.slice a 0 cap,.int .i64 0,.int .i64 0,.func (.func 114) #[] #[.pointer (some ⟨bx,0,none⟩)]] w fun e w'=>e=.returned (.tuple #[])∧Below w.heap.size w w':=by
  go_enter Tryz.func187,Tryz.ntmps187;go_wp2_with fail;refine wp_loop_rounds 1 ?_;rw[rounds_succ];go_wp2_with fail;go_end0
  exact⟨rfl,Below.refl _ _⟩
 have h2:Calls Tryz.prog 157 #[.slice a 0 cap,.int .i64 0,.func (.func 114) #[] #[.pointer (some ⟨bx,0,none⟩)]] w fun e w'=>e=.returned (.tuple #[])∧Below w.heap.size w w':=by
  go_enter Tryz.func157,Tryz.ntmps157;go_wp2_with fail;refine wp_loop_rounds 1 ?_;rw[rounds_succ];go_wp2_with fail;refine h1.mono ?_;rintro e w1 ⟨rfl,hb⟩;go_wp2_with fail;refine wp_loop_rounds 1 ?_;rw[rounds_succ];go_wp2_with fail;go_end0
  exact⟨rfl,hb⟩
 go_enter Tryz.func113,Tryz.ntmps113;go_wp2_with fail;refine h2.mono ?_;rintro e w1 ⟨rfl,hb⟩;go_wp2_with fail;go_end0
 exact⟨rfl,hb⟩
theorem zbJ {α:Type} [Inhabited α] (enc:α→Value) {B:Nat} (w:World) (g m:Nat) (dk:Array α) (os:Array Obj) (hg:B≤g) (hB:B≤w.heap.size):Below B w (sortWorld enc w g 0 m dk os):=by
 refine⟨rfl,rfl,rfl,?_,fun j hj=>?_⟩
 ·show _≤(w.heap.modify g _++os).size;rw[Array.size_append,Array.size_modify];omega
 ·show(w.heap.modify g _++os)[j]? =w.heap[j]?;rw[Array.getElem?_append_left (by rw[Array.size_modify];omega),Array.getElem?_modify,if_neg (by omega)]
theorem zeW (w0 w:World) (v:Value) (L:List (Sg×Value)) (g:Nat) [Inhabited (Fin L.length)] (hs:Sigs w0 v L) (hw:Below w0.heap.size w0 w) (hb:w.cell? ⟨w0.heap.size,0,none⟩=some v) (hg:w0.heap.size+1≤g):
 CmpReads Tryz.prog 114 #[.pointer (some ⟨w0.heap.size,0,none⟩)] (encF L.length) (fun x y=>zq8 (L.map Prod.fst) x.val y.val) g 0 L.length w:=by
 intro m os dk _ x y;have h1:Below (w0.heap.size+1) w (sortWorld (encF L.length) w g 0 m dk os):=zbJ _ w g m dk os hg (by have:=zcn hb;omega);exact zaT w0.heap.size v L x.val y.val _ ((h1.cell (p:=⟨w0.heap.size,0,none⟩) (by simp)).trans hb) (hs.below (hw.trans (h1.mono (by omega)))) x.isLt y.isLt
theorem zns {S:List Sg} {n:Nat} [Inhabited (Fin n)] (h:S.length=n):(insertionSort (fun x y:Fin n=>decide (zq8 S x.val y.val<0)) (Array.ofFn id) 0 n).toList.map Fin.val=ordF S:=by
 subst h;exact znr S
theorem zeX (w0 w:World) (v:Value) (L:List (Sg×Value)) (so:Value) (hs:Sigs w0 v L) (hw:Below w0.heap.size w0 w) (hb:w.cell? ⟨w0.heap.size,0,none⟩=some v) (hl:L.length<20) (h0:0<L.length)
 (hown:w.ownsRow (w0.heap.size+1) 3 1 so L.length (nats (List.range L.length))):
 Calls Tryz.prog 113 #[so,.func (.func 114) #[] #[.pointer (some ⟨w0.heap.size,0,none⟩)]] w fun e w'=>
  e=.returned (.tuple #[])∧w'.ownsRow (w0.heap.size+1) 3 1 so L.length (nats (ordF (L.map Prod.fst)))∧Below (w0.heap.size+1) w w':=by
 haveI:Inhabited (Fin L.length):=⟨⟨0,h0⟩⟩
 have hn:nats (List.range L.length)=(List.ofFn (n:=L.length) id).map (encF L.length):=by apply List.ext_getElem<;>simp[nats,encF]
 have hnil:so≠ .slice none 0 0:=by
  rintro rfl;rcases hown.2 with⟨-,h⟩|⟨_,_,_,h,_⟩
  ·omega
  ·cases h
 rw[hn]at hown;obtain⟨g,cap,rfl,hbg,hgl,hncap,hcm,hlen,hH⟩:=Lib.holds_of_ownsRow hown hnil;have hbs:w0.heap.size+1≤w.heap.size:=by have:=zcn hb;omega
 have hH':Holds (encF L.length) w g 0 (Array.ofFn id):=by rw[List.toArray_ofFn]at hH;exact hH
 refine(zaX _ (zq8 (L.map Prod.fst)) L.length g cap w hl hH' (zeW w0 w v L g hs hw hb hbg)).mono ?_;rintro e w' ⟨rfl,m,rfl⟩;generalize hX:insertionSort (fun x y:Fin L.length=>decide (zq8 (L.map Prod.fst) x.val y.val<0)) (Array.ofFn id) 0 L.length=X;have ho:X.toList.map Fin.val=ordF (L.map Prod.fst):=by rw[←hX];exact zns (by simp)
 have hxl:X.toList.length=L.length:=by
  have:=congrArg List.length ho;rw[List.length_map]at this;rw[this,(zjW _).length_eq];simp
 refine⟨rfl,?_,?_⟩
 ·have h:=Lib.ownsRow_putRow (q:=m) (k:=L.length) hown hxl (Nat.le_refl _);rw[List.take_of_length_le (by omega)]at h;have e:X.toList.map (encF L.length)=nats (ordF (L.map Prod.fst)):=by rw[←ho];simp[nats,Function.comp_def]
  rw[e]at h;exact h
 ·have h:=zbJ (encF L.length) (B:=w0.heap.size+1) w g m X #[] hbg hbs;rw[Go.Proofs.sortWorld_none]at h;exact h
end Go.Proofs.YtbiadennhnokhaaGreatDoor
