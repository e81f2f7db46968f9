import Derived.Test.YtbiadennhnokhaaGreatDoorZ00
import Derived.Handy
import Derived.Test.YtbiadennhnokhaaGreatDoorZ24
import Derived.Test.YtbiadennhnokhaaGreatDoorZ27
import Derived.Test.YtbiadennhnokhaaGreatDoorZ29
import Derived.Test.YtbiadennhnokhaaGreatDoorZ33
import Derived.Test.YtbiadennhnokhaaGreatDoorZ40
set_option maxRecDepth 100000
set_option maxHeartbeats 16000000
namespace Go.Proofs.YtbiadennhnokhaaGreatDoor
open Go.RowKit
set_option linter.unusedSimpArgs false
def Bx (W:World) (b:Nat) (C:Array Value):Prop:=zas W b C.toList∧b<W.heap.size
theorem Bx.step {W W':World} {b:Nat} {C:Array Value} (h:Bx W b C) (hb:Below W.heap.size W W'):Bx W' b C:=⟨h.1.below hb h.2,Nat.lt_of_lt_of_le h.2 hb.size⟩
theorem Bx.new (W:World) (C:Array Value) (T:TypeId):Bx (W.alloc (.cells C T)) W.heap.size C:=⟨zas.fresh W C T,by simp⟩
theorem zbD (W:World) (C:Array Value) (T:TypeId):Below W.heap.size W (W.alloc (.cells C T)):=(Below.refl _ _).alloc (Nat.le_refl _) _
theorem Bx.nine {W:World} {b:Nat} {u0 u1 u2 u3 u4 u5 u6 u7 u8:Value} (h:Bx W b #[u0,u1,u2,u3,u4,u5,u6,u7,u8]):W.cell? ⟨b,0,none⟩=some u0∧W.cell? ⟨b,1,none⟩=some u1∧W.cell? ⟨b,2,none⟩=some u2∧W.cell? ⟨b,3,none⟩=some u3∧W.cell? ⟨b,4,none⟩=some u4∧W.cell? ⟨b,5,none⟩=some u5∧W.cell? ⟨b,6,none⟩=some u6∧W.cell? ⟨b,7,none⟩=some u7∧W.cell? ⟨b,8,none⟩=some u8:=
 ⟨h.1.cell (j:=0) rfl,h.1.cell (j:=1) rfl,h.1.cell (j:=2) rfl,h.1.cell (j:=3) rfl,h.1.cell (j:=4) rfl,h.1.cell (j:=5) rfl,h.1.cell (j:=6) rfl,h.1.cell (j:=7) rfl,h.1.cell (j:=8) rfl⟩
theorem TrM.next {W W':World} {t:Tr} {p:TP} (h:TrM W t p) (hb:Below W.heap.size W W'):TrM W' t p:=h.below hb
theorem SrcB.of {t:Tr} (h:zqu t):SrcB t:=by
 have hv:=zqv h;have:=hv.t.lo;have:=hv.t.hi;exact⟨fun s hs=>(zoQ (hv.s s hs)).1,by omega⟩
theorem SrcB.src (t:Tr):SrcB (srcT t):=by
 unfold srcT;split
 ·rename_i h;exact SrcB.of (zqt.1 h)
 ·exact⟨fun s hs=>(by cases hs),by decide⟩
open Go.RowKit Go.WideMaps
theorem zd4 (l:List Dv) (h:l.length=0):dvs l=[]:=by rw[List.length_eq_zero_iff.1 h];rfl
theorem zmM {w:World} {v:Value} {L:List (Sg×Value)} (h:Sigs w v L):∀u∈sgs L,u.oneCell'=true:=by
 intro u hu;obtain⟨x,hx,hc⟩:=List.mem_flatMap.1 hu;obtain⟨a,c,e,-,-⟩:=(h.m x hx).shape;simp[sgC]at hc;rcases hc with rfl|rfl|rfl
 ·rfl
 ·rfl
 ·rw[e];rfl
theorem zd5 (l:List Dv):∀u∈dvs l,u.oneCell'=true:=by
 induction l with
 |nil=>intro u hu;simp[dvs]at hu
 |cons d l ih=>
  intro u hu;rw[zd2]at hu;rcases List.mem_cons.1 hu with rfl|hu
  ·rfl
  rcases List.mem_cons.1 hu with rfl|hu
  ·rfl
  rcases List.mem_cons.1 hu with rfl|hu
  ·rfl
  exact ih u hu
theorem zcS (v:Value) (l:List (Sg×Value)) (w:World) (hg:Sigs w v l) (hn:l.length≤1000000):
 Calls Tryz.prog 110 #[v] w fun e w'=>∃v',e=.returned v'∧w'.ownsRow w.heap.size 45 3 v' l.length (sgs l)∧Below w.heap.size w w':=by
 have HONE:=lhd (zmM hg);obtain⟨a,cap,rfl,hc,hm,hz,hat⟩:=hg.s;have hs:SlR w (.slice a l.length cap) l.length (sgs l):=⟨a,cap,rfl,hc,hm,hz,hat⟩;clear hg;cases a with
 |none=>
  have hcap:=hz rfl;subst hcap;have hq:=Lib.run_eql_slice_nil (P:=Tryz.prog) w 24 45 none l.length 0 0 0 Tryz.underlying24;have h0:l.length=0:=by omega
  have HL:=lhd (zmK l h0);have H0:=lhd h0;clear hs hz hat h0;go_enter Tryz.func110,Tryz.ntmps110;go_wp2_with fail;go_ret;exact⟨_,rfl,by rw[HL.out,H0.out];exact World.ownsRow_nil _ _ _ _,Below.refl _ _⟩
 |some ad=>
  have hq:=Lib.run_eql_slice_nil (P:=Tryz.prog) w 24 45 (some ad) l.length cap 0 0 Tryz.underlying24;obtain⟨i0,hi,iz0,iz1,iz2⟩:=info_parts (P:=Tryz.prog) zmF;have hbw:Below w.heap.size w (w.alloc (.cells #[] 45)):=(Below.refl _ _).alloc (Nat.le_refl _) _;have HN:=lhd ((hs.below hbw).news (zmK l));have hown:(w.alloc (.cells #[] 45)).ownsRow w.heap.size 45 3 (.slice (some ⟨w.heap.size,0,none⟩) 0 0) 0 []:=World.ownsRow_lit w #[] 0 (Nat.le_refl _) (by simp[maxLen]) (by simp);have HOWN:=lhd hown;clear hs hz hat hbw hown;go_enter Tryz.func110,Tryz.ntmps110;go_wp2_with (at_builtin;refine wpList_append_own _ rfl _ _ 24 rfl w.heap.size 45 i0 (.agg #[.int .i64 0,.int .i64 0,.slice none 0 0]) 3 40 Tryz.underlying24 hi iz0 iz1 iz2 rfl (by decide) _ _ _ rfl HOWN.out ad l.length cap (sgs l) rfl (by rw[zmJ];omega) HN.out HONE.out (by unfold maxLen;omega) (by omega) (by simp) ?_)
  intro v' w' ho hg _;have HO:=lhd ho;have HG:=lhd hg;clear ho hg;go_wp2_with fail;go_ret;exact⟨_,rfl,by have:=HO.out;simpa using this,((Below.refl _ _).alloc (Nat.le_refl _) _).grown HG.out (by simp) (by intro k hk;simp[Value.ownBlock]at hk;omega)⟩
theorem zcR (v:Value) (l:List Dv) (w:World) (hs:SlR w v l.length (dvs l)) (hn:l.length≤1000000):
 Calls Tryz.prog 111 #[v] w fun e w'=>∃v',e=.returned v'∧w'.ownsRow w.heap.size 87 3 v' l.length (dvs l)∧Below w.heap.size w w':=by
 obtain⟨a,cap,rfl,hc,hm,hz,hat⟩:=hs;have hs:SlR w (.slice a l.length cap) l.length (dvs l):=⟨a,cap,rfl,hc,hm,hz,hat⟩;cases a with
 |none=>
  have hcap:=hz rfl;subst hcap;have hq:=Lib.run_eql_slice_nil (P:=Tryz.prog) w 76 87 none l.length 0 0 0 Tryz.underlying76;have h0:l.length=0:=by omega
  have HL:=lhd (zd4 l h0);have H0:=lhd h0;clear hs hz hat h0;go_enter Tryz.func111,Tryz.ntmps111;go_wp2_with fail;go_ret;exact⟨_,rfl,by rw[HL.out,H0.out];exact World.ownsRow_nil _ _ _ _,Below.refl _ _⟩
 |some ad=>
  have hq:=Lib.run_eql_slice_nil (P:=Tryz.prog) w 76 87 (some ad) l.length cap 0 0 Tryz.underlying76;obtain⟨i0,hi,iz0,iz1,iz2⟩:=info_parts (P:=Tryz.prog) zd0;have hbw:Below w.heap.size w (w.alloc (.cells #[] 87)):=(Below.refl _ _).alloc (Nat.le_refl _) _;have HN:=lhd ((hs.below hbw).news (zd4 l));have hown:(w.alloc (.cells #[] 87)).ownsRow w.heap.size 87 3 (.slice (some ⟨w.heap.size,0,none⟩) 0 0) 0 []:=World.ownsRow_lit w #[] 0 (Nat.le_refl _) (by simp[maxLen]) (by simp);have HOWN:=lhd hown;clear hs hz hat hbw hown;go_enter Tryz.func111,Tryz.ntmps111;go_wp2_with (at_builtin;refine wpList_append_own _ rfl _ _ 76 rfl w.heap.size 87 i0 (.agg #[.int .i64 0,.int .i64 0,.bool false]) 3 24 Tryz.underlying76 hi iz0 iz1 iz2 rfl (by decide) _ _ _ rfl HOWN.out ad l.length cap (dvs l) rfl (by rw[zd3];omega) HN.out (zd5 l) (by unfold maxLen;omega) (by omega) (by simp) ?_)
  intro v' w' ho hg _;have HO:=lhd ho;have HG:=lhd hg;clear ho hg;go_wp2_with fail;go_ret;exact⟨_,rfl,by have:=HO.out;simpa using this,((Below.refl _ _).alloc (Nat.le_refl _) _).grown HG.out (by simp) (by intro k hk;simp[Value.ownBlock]at hk;omega)⟩
def zbq (s:Sg):Sg×Value:=((s.1,s.2.1,[]),.slice none 0 0)
structure AsM (w:World) (b:Nat) (t:Tr) (q:TP) (L:List (Sg×Value)) (D:List Dv) (vl vd:Value):Prop where
 x:zas w b [.iface 148 (q.v t),vl,vd]
 lt:b<w.heap.size
 t:TrM w t q
 l:Sigs w vl L
 d:SlR w vd D.length (dvs D)
theorem AsM.below {w W:World} {b:Nat} {t:Tr} {q:TP} {L:List (Sg×Value)} {D:List Dv} {vl vd:Value} (h:AsM w b t q L D vl vd) (hb:Below w.heap.size w W):AsM W b t q L D vl vd:=
 ⟨h.x.below hb h.lt,Nat.lt_of_lt_of_le h.lt hb.size,h.t.below hb,h.l.below hb,h.d.below hb⟩
theorem zbd {w:World} {b:Nat} {t:Tr} {q:TP} {L:List (Sg×Value)} {D:List Dv} {vl vd:Value} (h:AsM w b t q L D vl vd):
 Calls Tryz.prog 373 #[.pointer (some ⟨b,0,none⟩)] w fun e w'=>e=.returned (.int .i64 L.length)∧w=w':=by
 obtain⟨al,cl,rfl,-,-⟩:=h.l.s.shape;have x1:=h.x.cell (j:=1) rfl;clear h;go_enter Tryz.func373,Tryz.ntmps373;go_wp2_with fail;go_ret;exact⟨rfl,rfl⟩
def AsP (t:Tr) (q:TP) (L:List (Sg×Value)) (D:List Dv) (w:World) (e:Ending) (w':World):Prop:=
 (if zqw (L.map Prod.fst) (t.G.map fun s=>(s.1,s.2.1,[])) D=true then ∃b vl vd,e=.returned (.tuple #[.iface 159 (.pointer (some ⟨b,0,none⟩)),.int .i64 0])∧AsM w' b t q L D vl vd
   else e=.returned (.tuple #[.nilIface,.int .i64 1]))∧Below w.heap.size w w'
theorem zaN (t:Tr) (q:TP) (v v3:Value) (L:List (Sg×Value)) (D:List Dv) (w:World) (ht:TrM w t q) (hG:t.G.length≤64) (hs:Sigs w v L) (hd:SlR w v3 D.length (dvs D)) (hn:L.length≤1000000∧D.length≤1000000):
 Calls Tryz.prog 44 #[.iface 148 (q.v t),v,v3] w (AsP t q L D w):=by
 obtain⟨a1,k1,a2,k2,a3,k3,a4,k4,e,-⟩:=ht.open;obtain⟨Q,hQ⟩:∃Q,Q=AsP t q L D w:=⟨_,rfl⟩;rw[←hQ];have HQ:=lhd hQ;have HSG:=lhd (fun W (hW:Below w.heap.size w W)=>znL t q W (ht.below hW));have HKN:=lhd (fun n W (hW:Below w.heap.size w W)=>znI t q n W (ht.below hW));have HT:=lhd ht;have HS:=lhd hs;have HD:=lhd hd;have HE:=lhd e;obtain⟨i0,hi,iz0,iz1,iz2⟩:=info_parts (P:=Tryz.prog) zmF;rw[e]at HSG HKN⊢;clear hQ ht hs hd e;go_enter Tryz.func44,Tryz.ntmps44;go_wp2_with fail;refine(HSG.out w (Below.refl _ _)).mono ?_;rintro e w1 ⟨rfl,hb1⟩;have HB1:=lhd hb1;clear hb1;have hmin:min (t.G.length:Int) 65=(t.G.length:Int):=by omega
 go_wp2_with fail;clear hmin;go_loopw [8,16] (fun s_ i wr=>∃(k:Nat) (M:List (Sg×Value)),k≤t.G.length∧i=.int .i64 k∧M.length=k∧M=(t.G.take k).map zbq∧SigOwn w.heap.size wr s_ M∧Below w.heap.size w wr) (fun _ i _=>t.G.length-(intOf i).toNat)
 case atStart=>exact⟨0,[],Nat.zero_le _,rfl,rfl,rfl,⟨World.ownsRow_nil _ _ _ _,fun x hx=>by simp at hx⟩,HB1.out⟩
 case round=>
  obtain⟨k,M,hk,rfl,hml,hmm,hso,hb⟩:=hrel;have HML:=lhd hml;have HM:=lhd hmm;have hm64:M.length≤64:=by omega
  have HSO:=lhd hso;have HB:=lhd hb;obtain⟨ao,co,rfl,-,-⟩:=(SlR.of_own hso.s).shape;clear hso hb HB1 hml hmm;by_cases hlt:k<t.G.length
  ·have hwk:=zix k (by omega)
   have HST:=lhd (show M++ [((t.G[k].1,t.G[k].2.1,[]),.slice none 0 0)]=(t.G.take (k+1)).map zbq by
    rw[List.take_succ_eq_append_getElem hlt,List.map_append,HM.out];rfl)
   have hkn:=HKN.out (k:Int) wr HB.out
   rw[show znB t (k:Int)=(t.G[k].1,t.G[k].2.1,0)by
    unfold znB;rw[if_pos (zfJ.2 ⟨by omega,by omega,by omega,by omega⟩)];simp[sgI,List.getD,hlt]]at hkn
   have HK:=lhd hkn;clear hkn;generalize t.G[k]=x at*;obtain⟨xk,xn,xl⟩:=x;dsimp only at HK HST;go_wp2_with fail;refine HK.out.mono ?_;rintro e w2 ⟨rfl,hb2⟩;have HSO2:=lhd (HSO.out.later (hb2.alloc hb2.size (.cells #[.int .i64 xk,.int .i64 xn,.slice none 0 0] 45)));have HB2:=lhd ((zeG HB.out hb2).alloc (zeG HB.out hb2).size (.cells #[.int .i64 xk,.int .i64 xn,.slice none 0 0] 45));have HC:=lhd (World.news_of_block (w:=w2.alloc (.cells #[.int .i64 xk,.int .i64 xn,.slice none 0 0] 45)) (cs:=#[.int .i64 xk,.int .i64 xn,.slice none 0 0]) (t:=45) (fr:=(0,0)) (by exact heap_alloc_new _ _));have hsz2:=(zeG HB.out hb2).size;clear hb2;go_wp2_with (at_builtin;refine wpList_append_own_at _ rfl _ _ 24 rfl w.heap.size 45 i0 (.agg #[.int .i64 0,.int .i64 0,.slice none 0 0]) 3 40 Tryz.underlying24 hi iz0 iz1 iz2 rfl (by decide) _ _ _ rfl HSO2.out.s ⟨w2.heap.size,0,none⟩ 1 1 [.int .i64 xk,.int .i64 xn,.slice none 0 0] rfl rfl HC.out (by simp[Value.oneCell']) (by unfold maxLen;omega) (by omega) (by simp;omega) ?_)
   intro v8 w8 ho8 hg8 _ _;have HS8:=lhd (HSO2.out.snoc (s:=(xk,xn,[])) hg8 (World.ownsRow_nil _ _ _ _) ho8);have HB8:=lhd (HB2.out.grown hg8 (by simp;omega) (fun q hq=>(HSO2.out.s.lt q hq).1));clear ho8 hg8;go_wp2_with fail;go_roundw;case rel=>exact⟨k+1,_,hlt,by go_num,by simp[HML.out],HST.out,HS8.out,HB8.out⟩
   case measure=>simp[intOf];omega
  ·obtain rfl:k=t.G.length:=by omega
   have HVD:=lhd (zaO v _ v3 L M D wr (HS.out.below HB.out) HSO.out.sigs (HD.out.below HB.out));have hvm:M.map Prod.fst=t.G.map fun s=>(s.1,s.2.1,[]):=by rw[HM.out,List.take_of_length_le (Nat.le_refl _),List.map_map];rfl
   rw[hvm]at HVD;have HQ2:=HQ.out;unfold AsP at HQ2;clear hlt hk hvm HML HM HSG HKN;cases hv:zqw (L.map Prod.fst) (t.G.map fun s=>(s.1,s.2.1,[])) D with
   |false=>
    rw[hv]at HVD HQ2;have HQ3:=lhd HQ2;clear HQ2 hv;go_wp2_with fail;refine HVD.out.mono ?_;rintro e w3 ⟨rfl,hb3⟩;have HB3:=lhd (zeG HB.out hb3);clear hb3;go_wp2_with fail;rw[HQ3.out];exact⟨rfl,HB3.out⟩
   |true=>
    rw[hv]at HVD HQ2;have HQ3:=lhd HQ2;clear HQ2 hv;go_wp2_with fail;refine HVD.out.mono ?_;rintro e w3 ⟨rfl,hb3⟩;have HB3:=lhd (zeG HB.out hb3);clear hb3;have HCS:=lhd (zcS v L w3 (HS.out.below HB3.out) hn.1);go_wp2_with fail;refine HCS.out.mono ?_;rintro e w4 ⟨v4,rfl,ho4,hb4⟩;have HB4:=lhd (zeG HB3.out hb4);have HO4:=lhd (show Sigs w4 v4 L from⟨SlR.of_own ho4,(HS.out.below (zeG HB3.out hb4)).m⟩);obtain⟨a5,k5,rfl,-,-⟩:=(SlR.of_own ho4).shape;have HCD:=lhd (zcR v3 D w4 (HD.out.below HB4.out) hn.2);clear ho4 hb4;go_wp2_with fail;refine HCD.out.mono ?_;rintro e w5 ⟨v5,rfl,ho5,hb5⟩;have HB5:=lhd (zeG HB4.out hb5);have HO5:=lhd (SlR.of_own ho5);have HL5:=lhd (HO4.out.below hb5);obtain⟨a6,k6,rfl,-,-⟩:=(SlR.of_own ho5).shape;clear ho5 hb5;go_wp2_with fail;rw[HQ3.out];refine⟨?_,zeG HB5.out (zbD w5 _ _)⟩;rw[if_pos trivial];have hal:=zbD w5 #[.iface 148 (.agg (boxT t a1 a2 a3 a4 k1 k2 k3 k4)),.slice a5 L.length k5,.slice a6 D.length k6] 162;have hx:=Bx.new w5 #[.iface 148 (.agg (boxT t a1 a2 a3 a4 k1 k2 k3 k4)),.slice a5 L.length k5,.slice a6 D.length k6] 162;rw[←HE.out]at hx;exact⟨w5.heap.size,_,_,rfl,⟨by rw[←HE.out];exact hx.1,by rw[←HE.out];exact hx.2,(HT.out.below HB5.out).below hal,HL5.out.below hal,HO5.out.below hal⟩⟩
end Go.Proofs.YtbiadennhnokhaaGreatDoor
