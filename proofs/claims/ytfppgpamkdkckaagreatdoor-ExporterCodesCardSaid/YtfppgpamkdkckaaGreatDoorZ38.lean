import Derived.Test.YtfppgpamkdkckaaGreatDoorZ00
import Derived.Test.YtfppgpamkdkckaaGreatDoorZ25
import Derived.Test.YtfppgpamkdkckaaGreatDoorZ26
set_option maxRecDepth 100000
set_option maxHeartbeats 16000000
namespace Go.Proofs.YtfppgpamkdkckaaGreatDoor
open Go.RowKit
theorem zqN {t:Tr} (h:ValidT t):∀x∈zqz t,0≤x∧x≤t.en:=by
 intro x hx;have ht:=h.t;rcases zqM.1 hx with hx|hx|hx|hx
 ·obtain⟨s,hs,c,hc,rfl⟩:=zqG.1 hx;exact⟨(zp7 (h.s s hs) c hc).1,ht.ch s hs c hc⟩
 ·subst hx;exact⟨Int.le_refl _,ht.lo⟩
 ·subst hx;exact⟨ht.lo,Int.le_refl _⟩
 ·obtain⟨g,hg,hx⟩:=zfY.1 hx;have h1:=ht.ok.mem g hg;have h2:=ht.most g hg;omega
theorem zqK {t:Tr} (h:ValidT t):∃m,zqz t=0::m∧(0::m).getLast (by simp)=t.en:=
 zqO (zpg _).1 (zqM.2 (.inr (.inl rfl))) (zqN h) (zqM.2 (.inr (.inr (.inl rfl))))
theorem zm7 {t:Tr} (h:ValidT t):∃r,zm1 t=(0,0,[],[])::(4,0,[],[])::r∧ordX (-1) 0 (zm1 t)=some t.en:=by
 obtain⟨m,h1,h2⟩:=zqK h;obtain⟨r,h3,h4⟩:=zlj h1;exact⟨r,h3,by rw[h4,h2]⟩
set_option linter.unusedSimpArgs false
theorem zc8 (n:Int) (w:World) (hg:Glob w) (h: -32768≤n∧n≤999999999):Calls Tryz.prog 56 #[.int .i64 n] w fun e w'=>e=.returned (.string (bsB (Lib.itoa n)))∧Below w.heap.size w w':=by
 refine(Tryz.strconv_Itoa n (by omega) (by omega) w hg).mono ?_;rintro e w' ⟨rfl,kk,os,rfl⟩;exact⟨rfl,Lib.below_grow _ _ (Nat.le_refl _) kk os⟩
theorem zhz (n:Int) (h: -32768≤n∧n≤999999999):(bsB (Lib.itoa n)).size≤100:=by
 rw[zbt];have:=Lib.itoa_length_le n (by omega) (by omega);omega
theorem zjx (m l:Int) (w:World) (hg:Glob w):Calls Tryz.prog 165 #[.int .i64 m,.int .i64 l] w fun e w'=>e=.returned (.string (bsB (if(zbj m&&zbj l)=true then rngT m l else [])))∧Below w.heap.size w w':=by
 have HM:=lhd (zjC m w);have HL:=lhd (zjC l w);cases h1:zbj m
 ·rw[h1]at HM;rw[Bool.false_and,if_neg (by simp)];go_enter Tryz.func165,Tryz.ntmps165;go_wp2_with fail;refine HM.out.mono ?_;rintro e w' ⟨rfl,rfl⟩;go_wp2_with fail;go_ret;exact⟨rfl,Below.refl _ _⟩
 cases h2:zbj l
 ·rw[h1]at HM;rw[h2]at HL;rw[Bool.and_false,if_neg (by simp)];go_enter Tryz.func165,Tryz.ntmps165;go_wp2_with fail;refine HM.out.mono ?_;rintro e w' ⟨rfl,rfl⟩;go_wp2_with fail;refine HL.out.mono ?_;rintro e w' ⟨rfl,rfl⟩;go_wp2_with fail;go_ret;exact⟨rfl,Below.refl _ _⟩
 have b1:=zbl h1;have b2:=zbl h2;rw[h1]at HM;rw[h2]at HL;have HI:=lhd (zc8 m w hg (by omega));have z1:=zhz m (by omega);have z2:=zhz l (by omega);have HI2:=lhd (fun(W:World) (hb:Below w.heap.size w W)=>zc8 l W (hg.below hb) (by omega));rw[Bool.true_and,if_pos rfl];by_cases h3:m=l
 ·subst h3
  have HR:=lhd (show(⟨#[91]⟩++bsB (Lib.itoa m)++⟨#[93]⟩:ByteArray)=bsB (rngT m m)by
   unfold rngT;rw[if_pos rfl];apply ba_eq;simp[bsB,ByteArray.data_append])
  generalize bsB (Lib.itoa m)=z at*;clear h1 h2;go_enter Tryz.func165,Tryz.ntmps165;go_wp2_with fail;refine HM.out.mono ?_;rintro e w' ⟨rfl,rfl⟩;go_wp2_with fail;refine HL.out.mono ?_;rintro e w' ⟨rfl,rfl⟩;go_wp2_with fail;refine HI.out.mono ?_;rintro e w' ⟨rfl,hb⟩;have HB:=lhd hb;clear hb;go_wp2_with fail;go_ret;exact⟨by rw[←HR.out];rfl,HB.out⟩
 ·have hb3:(m==l)=false:=by rw[beq_eq_false_iff_ne];exact h3
  have HR:=lhd (show(⟨#[91]⟩++bsB (Lib.itoa m)++⟨#[58]⟩++bsB (Lib.itoa l)++⟨#[93]⟩:ByteArray)=bsB (rngT m l)by
   unfold rngT;rw[if_neg h3];apply ba_eq;simp[bsB,ByteArray.data_append])
  generalize bsB (Lib.itoa m)=z at*;generalize bsB (Lib.itoa l)=y at*;clear h1 h2 h3;go_enter Tryz.func165,Tryz.ntmps165;go_wp2_with fail;refine HM.out.mono ?_;rintro e w' ⟨rfl,rfl⟩;go_wp2_with fail;refine HL.out.mono ?_;rintro e w' ⟨rfl,rfl⟩;go_wp2_with fail;refine HI.out.mono ?_;rintro e w' ⟨rfl,hb⟩;have HB:=lhd hb;clear hb;go_wp2_with fail;refine(HI2.out _ HB.out).mono ?_;rintro e w' ⟨rfl,hb⟩;have HB2:=lhd (zfj HB.out hb);clear hb;go_wp2_with fail;go_ret;exact⟨by rw[←HR.out];rfl,HB2.out⟩
def zru:List (Bs×Int):=[([115],0),([109,115],-3),([117,115],-6),([110,115],-9),([112,115],-12),([102,115],-15)]
def unC:List Value:=zru.flatMap fun u=> [.string (bsB u.1),.int .i64 u.2]
theorem zrg (w:World):Calls Tryz.prog 213 #[] w fun e w'=>e=.returned (.slice (some ⟨w.heap.size,0,none⟩) 6 6)∧w'=w.alloc (.cells unC.toArray 192):=by
 go_enter Tryz.func213,Tryz.ntmps213;go_wp2_with fail;go_ret;exact⟨rfl,rfl⟩
def unI (n:Int):Nat:=5-((n+15)/3).toNat
theorem zrq (n:Int):unI n≤5:=by unfold unI;omega
theorem zrt {j:Nat} (hj:j≤5):∃u,zru[j]? =some u∧u.2= -3*(j:Int):=by
 rcases(by omega:j=0∨j=1∨j=2∨j=3∨j=4∨j=5)with rfl|rfl|rfl|rfl|rfl|rfl<;>exact⟨_,rfl,rfl⟩
theorem zrp {j:Nat} (hj:j≤5):unC[j*2]? =some (.string (bsB (zru.getD j ([],0)).1))∧unC[j*2+1]? =some (.int .i64 (-3*(j:Int))):=by
 rcases(by omega:j=0∨j=1∨j=2∨j=3∨j=4∨j=5)with rfl|rfl|rfl|rfl|rfl|rfl<;>exact⟨rfl,rfl⟩
theorem zrf (n:Int) (w:World) (hn: -15≤n∧n≤2):Calls Tryz.prog 159 #[.int .i64 n] w fun e w'=>e=.returned (.agg #[.string (bsB (zru.getD (unI n) ([],0)).1),.int .i64 (-3*((unI n:Nat):Int))])∧Below w.heap.size w w':=by
 have hal:Below w.heap.size w (w.alloc (.cells #[.string ⟨#[]⟩,.int .i64 0] 192)):=(Below.refl _ _).alloc (Nat.le_refl _) _;have HR0:=lhd (zan.fresh w #[.string ⟨#[]⟩,.int .i64 0] 192);have hz1:(w.alloc (.cells #[.string ⟨#[]⟩,.int .i64 0] 192)).heap.size=w.heap.size+1:=by simp
 have HRU:=lhd (zan.fresh (w.alloc (.cells #[.string ⟨#[]⟩,.int .i64 0] 192)) unC.toArray 192);have HN:=lhd hn;have HLE:=lhd (zrq n);go_enter Tryz.func159,Tryz.ntmps159;go_wp2_with fail;refine(zrg _).mono ?_;rintro e w2 ⟨rfl,rfl⟩;have HB2:=lhd (hal.trans ((Below.refl _ _).alloc (by rw[hz1];omega) (.cells unC.toArray 192)));have HR2:=lhd (HR0.out.below ((Below.refl _ _).alloc (Nat.le_refl _) (.cells unC.toArray 192)) (by rw[hz1];omega));rw[hz1]at HRU;have hz2:w.heap.size+1<((w.alloc (.cells #[.string ⟨#[]⟩,.int .i64 0] 192)).alloc (.cells unC.toArray 192)).heap.size:=by simp
 rw[hz1];generalize (w.alloc (.cells #[.string ⟨#[]⟩,.int .i64 0] 192)).alloc (.cells unC.toArray 192)=w2 at*;clear HR0 hal hz1;go_wp2_with fail;go_loopw [7] (fun u wr=>∃k:Nat,k≤unI n∧u=.int .i64 k∧zan wr w.heap.size [.string ⟨#[]⟩,.int .i64 0]∧zan wr (w.heap.size+1) unC∧w.heap.size+1<wr.heap.size∧Below w.heap.size w wr) (fun u _=>6-(intOf u).toNat)
 case atStart=>exact⟨0,Nat.zero_le _,rfl,HR2.out,by simpa using HRU.out,hz2,HB2.out⟩
 case round=>
  obtain⟨k,hk,rfl,hr0,hru,hz,hb⟩:=hrel;have HB:=lhd hb;have HR:=lhd hr0;have HU:=lhd hru;have hk5:k≤5:=Nat.le_trans hk HLE.out;obtain⟨e0,e1⟩:=zrp hk5;have d0:=hru.cell e0;have d1:=hru.cell e1;clear e0 e1 hb hr0 hru;have hlo:w.heap.size<wr.heap.size:=by omega
  generalize hnm:(zru.getD k ([],0)).1=nm at d0;have HNM:=lhd hnm;clear hnm;by_cases hlt:k<unI n
  ·have hp:¬(-3*(k:Int))≤n:=by have:=HN.out;unfold unI at hlt;omega
   have HNX:=lhd (show Below w.heap.size w (wr.alloc (.cells #[.string (bsB nm),.int .i64 (-3*(k:Int))] 192))∧zan (wr.alloc (.cells #[.string (bsB nm),.int .i64 (-3*(k:Int))] 192)) w.heap.size [.string ⟨#[]⟩,.int .i64 0]∧zan (wr.alloc (.cells #[.string (bsB nm),.int .i64 (-3*(k:Int))] 192)) (w.heap.size+1) unC from
    ⟨HB.out.alloc (by omega) _,HR.out.below ((Below.refl _ _).alloc (Nat.le_refl _) _) hlo,HU.out.below ((Below.refl _ _).alloc (Nat.le_refl _) _) hz⟩)
   generalize hpw: -3*(k:Int)=pw at*;clear hpw;go_wp2_with fail;go_roundw;case rel=>exact⟨k+1,hlt,by go_num,HNX.out.2.1,HNX.out.2.2,by simp;omega,HNX.out.1⟩
   case measure=>simp[intOf];omega
  ·obtain rfl:k=unI n:=by omega
   have hp:(-3*((unI n:Nat):Int))≤n:=by have:=HN.out;unfold unI;omega
   have HP:=lhd hp;generalize hpw: -3*((unI n:Nat):Int)=pw at*;have q0:=HR.out.cell (j:=0) rfl;have q1:=HR.out.cell (j:=1) rfl;have f0:=HR.out.free (j:=0) (by simp);have f1:=HR.out.free (j:=1) (by simp);clear hlt;have HQ:=lhd hpw;have HF:=lhd (((HR.out.set (j:=0) (by simp) (.string (bsB nm))).set (j:=1) (by simp) (.int .i64 pw)).alloc (by simpa using hlo) (.cells #[.string (bsB nm),.int .i64 pw] 192));clear hpw;go_wp2_with fail;have t0:=HF.out.cell (j:=0) rfl;have t1:=HF.out.cell (j:=1) rfl;refine bodyPost_ret (v:=.agg #[.string (bsB nm),.int .i64 pw]) (by simp[results,Tryz.results159,go_sem,t0,t1]) rfl ⟨?_,((HB.out.setCell (Nat.le_refl _) _).setCell (Nat.le_refl _) _).alloc (by simp;omega) _⟩;rw[HQ.out,HNM.out]
theorem zoR:∀k:Fin 18,bsB (Lib.itoa ((10^((k.val:Int)-15+3*((unI ((k.val:Int)-15):Nat):Int)).toNat:Nat):Int))++⟨#[32]⟩++bsB (zru.getD (unI ((k.val:Int)-15)) ([],0)).1=bsB (znQ ((k.val:Int)-15)):=by decide+kernel
theorem zoS {n:Int} (hn: -15≤n∧n≤2) {d:Nat} (hd:n+3*((unI n:Nat):Int)=(d:Int)):bsB (Lib.itoa ((10^d:Nat):Int))++⟨#[32]⟩++bsB (zru.getD (unI n) ([],0)).1=bsB (znQ n):=by
 have h:=zoR ⟨(n+15).toNat,by omega⟩;dsimp only at h;have e:(((n+15).toNat:Nat):Int)-15=n:=by omega
 rw[e]at h;rwa [show(n+3*((unI n:Nat):Int)).toNat=d by omega]at h
theorem zrb (n:Int) (w:World) (hn: -15≤n∧n≤2) (hg:Glob w):Calls Tryz.prog 113 #[.int .i64 1,.int .i64 n] w fun e w'=>e=.returned (.string (bsB (znQ n)))∧Below w.heap.size w w':=by
 obtain⟨d,hd⟩:∃d:Nat,n+3*((unI n:Nat):Int)=(d:Int):=⟨(n+3*((unI n:Nat):Int)).toNat,by unfold unI;omega⟩;have hd2:d≤2:=by unfold unI at hd;omega
 have HT:=lhd (zoS hn hd);have b1:decide (-15≤n)=true:=by simpa using hn.1
 have b2:decide (n≤2)=true:=by simpa using hn.2
 have HV:=lhd (zrc n w);rw[b1,b2,Bool.and_self]at HV;have HU:=lhd (zrf n w hn);obtain⟨pw,hpw⟩:∃pw:Int,pw= -3*((unI n:Nat):Int):=⟨_,rfl⟩;rw[←hpw]at HU;have hw1:IntKind.i64.wrap (n-pw)=(d:Int):=by rw[show n-pw=(d:Int)by omega];exact IntWalk.i64_in _ (by omega)
 have hp:=zl5 (k:=d) (by omega);have HTEN:=lhd (fun(W:World)=>zrd d W (by omega));obtain⟨y,hy⟩:∃y:Int,y=((10^d:Nat):Int):=⟨_,rfl⟩;rw[←hy]at HT hp;have HTEN:=lhd (show ∀W:World,Calls Tryz.prog 160 #[.int .i64 (d:Int)] W fun e w'=>e=.returned (.int .i64 y)∧Below W.heap.size W w' by rw[hy];exact HTEN.out)
 have hy2:y≤1000:=by
  rcases(by omega:d=0∨d=1∨d=2)with rfl|rfl|rfl<;>(rw[hy];decide)
 have hw2:IntKind.i64.wrap y=y:=IntWalk.i64_in _ (by omega);have HI:=lhd (fun(W:World) (h:Below w.heap.size w W)=>zc8 y W (hg.below h) (by omega));have z1:=zhz y (by omega);generalize bsB (Lib.itoa y)=z at*
 have hnl:(bsB (zru.getD (unI n) ([],0)).1).size≤10:=by
  rw[zbt];obtain⟨u,hu,-⟩:=zrt (zrq n);rw[List.getD_eq_getElem?_getD,hu];have:=List.mem_of_getElem? hu;simp[zru]at this;rcases this with rfl|rfl|rfl|rfl|rfl|rfl<;>decide
 generalize bsB (zru.getD (unI n) ([],0)).1=nm at*;generalize bsB (znQ n)=R at*;have hq1:¬9223372036854775807<z.size+1:=by omega
 have hq2:¬9223372036854775807<z.size+1+nm.size:=by omega
 clear hpw hd b1 b2 hg hy hn;go_enter Tryz.func113,Tryz.ntmps113;go_wp2_with fail;refine HV.out.mono ?_;rintro e w1 ⟨rfl,rfl⟩;go_wp2_with fail;refine HU.out.mono ?_;rintro e w2 ⟨rfl,hb2⟩;have hal:Below w.heap.size w (w2.alloc (.cells #[.string nm,.int .i64 pw] 192)):=hb2.alloc hb2.size _;have HX:=lhd (zan.fresh w2 #[.string nm,.int .i64 pw] 192);have HZ:=lhd (show w2.heap.size<(w2.alloc (.cells #[.string nm,.int .i64 pw] 192)).heap.size by simp);have HB:=lhd hal;clear hb2 hal;go_upto_region 4 with fail;generalize hw3:w2.alloc (.cells #[.string nm,.int .i64 pw] 192)=w3 at*;have x0:=HX.out.cell (j:=0) rfl;have x1:=HX.out.cell (j:=1) rfl;refine wp_region_held_drew (S:=(fun w'=>w'.cell? ⟨w2.heap.size,0,none⟩=some (.string nm)∧w'.cell? ⟨w2.heap.size,1,none⟩=some (.int .i64 pw))) (by kernel_rfl) ⟨x0,x1⟩ (fun hHeld=>?_);refine tkH 0 hHeld (v:=?_) ?_;simp only[tkS];refine tkH 1 hHeld (v:=?_) ?_;simp only[tkS];refine tkH 2 hHeld (v:=?_) ?_;simp only[tkS];refine tkH 3 hHeld (v:=?_) ?_;simp only[tkS];refine tkH 4 hHeld (v:=?_) ?_;simp only[tkS];refine tkH 9 hHeld (v:=?_) ?_;simp only[tkS];refine tkH 10 hHeld (v:=?_) ?_;simp only[tkS];have hbq:Below w3.heap.size w3 w3.drew:=(Below.refl _ _).drew;have SF:=lhd (fun W (hW:Below w3.heap.size w3 W)=>And.intro ((HX.out.below hW HZ.out).cell (j:=0) (v:=.string nm) rfl) ((HX.out.below hW HZ.out).cell (j:=1) (v:=.int .i64 pw) rfl));generalize w3.drew=w4 at*;refine oneH 5 (fun K hK=>?_);go_simp;refine(HTEN.out w4).mono ?_;rintro e w5 ⟨rfl,hb⟩;have hbq:=zfj hbq hb;clear hHeld hb;go_wp2_with fail;refine hK.out _ _ (SF.out _ hbq) (fun hHeld=>?_);clear hK;try simp only[tkS]
 refine tkH 6 hHeld (v:=?_) ?_;simp only[tkS];refine oneH 7 (fun K hK=>?_);go_simp;refine(HI.out w5 (zfj HB.out hbq)).mono ?_;rintro e w6 ⟨rfl,hb⟩;have hbq:=zfj hbq hb;clear hHeld hb;go_wp2_with fail;refine hK.out _ _ (SF.out _ hbq) (fun hHeld=>?_);clear hK;try simp only[tkS]
 refine tkH 8 hHeld (v:=?_) ?_;simp only[tkS];refine tkH 11 hHeld (v:=?_) ?_;simp only[tkS];refine oneH 12 (fun K hK=>?_);go_simp;refine hK.out _ _ (SF.out _ hbq) (fun hHeld=>?_);clear hK;try simp only[tkS]
 refine wpAnyH_done (by kernel_rfl) ?_ _;have HBQ:=lhd (zfj HB.out hbq);clear hHeld hbq;go_wp2_with fail;go_ret;exact⟨by rw[HT.out];rfl,HBQ.out⟩
theorem zra (n:Int) (w:World) (hg:Glob w):Calls Tryz.prog 48 #[.int .i64 n] w fun e w'=>e=.returned (.string (bsB (znQ n)))∧Below w.heap.size w w':=by
 have HV:=lhd (zrc n w);by_cases hn: -15≤n∧n≤2
 ·have HS:=lhd (zrb n w hn hg);have b1:decide (-15≤n)=true:=by simpa using hn.1
  have b2:decide (n≤2)=true:=by simpa using hn.2
  rw[b1,b2,Bool.and_self]at HV;generalize bsB (znQ n)=R at*;clear b1 b2 hn;go_enter Tryz.func48,Tryz.ntmps48;go_wp2_with fail;refine HV.out.mono ?_;rintro e w1 ⟨rfl,rfl⟩;go_wp2_with fail;refine HS.out.mono ?_;rintro e w2 ⟨rfl,hb⟩;have HB:=lhd hb;clear hb;go_wp2_with fail;go_ret;exact⟨rfl,HB.out⟩
 ·have hz:znQ n=[]:=by
   unfold znQ;rw[if_pos (by omega)]
  have b1:(decide (-15≤n)&&decide (n≤2))=false:=by
   rw[←Bool.decide_and,decide_eq_false_iff_not];exact hn
  rw[b1]at HV;rw[hz];clear b1 hn hz;go_enter Tryz.func48,Tryz.ntmps48;go_wp2_with fail;refine HV.out.mono ?_;rintro e w1 ⟨rfl,rfl⟩;go_wp2_with fail;go_ret;exact⟨rfl,Below.refl _ _⟩
theorem ziL (w:World) (l:List Bs) (T:TypeId) (hl:l.length≤1000000):SlR (w.alloc (.cells (strs l).toArray T)) (.slice (some ⟨w.heap.size,0,none⟩) l.length l.length) l.length (strs l):=by
 refine⟨_,_,rfl,Nat.le_refl _,by unfold maxLen;omega,fun h=>(by cases h),fun _=>⟨_,_,rfl,fun j u hj=>?_⟩⟩;have:=(zan.fresh w (strs l).toArray T).cell (j:=j) (v:=u) (by simpa using hj);rwa [Nat.zero_add]
theorem zej (v:Value) (l:List Bs) (t:Int) (w:World) (hs:SlR w v l.length (strs l)) (h0:0<l.length):
 Calls Tryz.prog 162 #[v,.int .i64 t] w fun e w'=>e=.returned (.string (bsB (zjf l t)))∧w'=w:=by
 obtain⟨b,o,cap,rfl,-,-,hcell⟩:=hs.at h0;clear hs;by_cases h1:t<0
 ·have e1:zjf l t=[]:=if_pos h1;rw[e1];go_enter Tryz.func162,Tryz.ntmps162;go_wp2_with fail;go_ret;exact⟨rfl,rfl⟩
 ·obtain⟨k,rfl⟩:∃k:Nat,t=(k:Int):=⟨t.toNat,by omega⟩;by_cases h2:k<l.length
  ·have e1:zjf l (k:Int)=l[k]:=by unfold zjf;rw[if_neg h1,Int.toNat_natCast];simp[List.getD,h2]
   have hc:=hcell k (.string (bsB l[k])) (by simp[strs,strV,h2]);rw[e1];clear hcell e1;go_enter Tryz.func162,Tryz.ntmps162;go_wp2_with fail;go_ret;exact⟨rfl,rfl⟩
  ·have e1:zjf l (k:Int)=[]:=by unfold zjf;rw[if_neg h1,Int.toNat_natCast];simp[List.getD,List.getElem?_eq_none (Nat.le_of_not_lt h2)]
   rw[e1];clear hcell e1;go_enter Tryz.func162,Tryz.ntmps162;go_wp2_with fail;go_ret;exact⟨rfl,rfl⟩
theorem zem (w:World):Calls Tryz.prog 163 #[] w fun e w'=>e=.returned (.slice (some ⟨w.heap.size,0,none⟩) 19 19)∧w'=w.alloc (.cells (strs varW).toArray 9):=by
 go_enter Tryz.func163,Tryz.ntmps163;go_wp2_with fail;go_ret;exact⟨rfl,rfl⟩
theorem zef (t:Int) (w:World):Calls Tryz.prog 115 #[.int .i64 t] w fun e w'=>e=.returned (.string (bsB (zjf varW t)))∧Below w.heap.size w w':=by
 have hb:Below w.heap.size w (w.alloc (.cells (strs varW).toArray 9)):=(Below.refl _ _).alloc (Nat.le_refl _) _;have hs:=ziL w varW 9 (by decide);have HT:=lhd (zej _ varW t _ hs (by decide));clear hs;go_enter Tryz.func115,Tryz.ntmps115;go_wp2_with fail;refine(zem w).mono ?_;rintro e w1 ⟨rfl,rfl⟩;go_wp2_with fail;refine HT.out.mono ?_;rintro e w2 ⟨rfl,rfl⟩;go_wp2_with fail;go_ret;exact⟨rfl,hb⟩
theorem zek (w:World):Calls Tryz.prog 166 #[] w fun e w'=>e=.returned (.slice (some ⟨w.heap.size,0,none⟩) 5 5)∧w'=w.alloc (.cells (strs zn8).toArray 9):=by
 go_enter Tryz.func166,Tryz.ntmps166;go_wp2_with fail;go_ret;exact⟨rfl,rfl⟩
theorem zee (t:Int) (w:World):Calls Tryz.prog 117 #[.int .i64 t] w fun e w'=>e=.returned (.string (bsB (zjf zn8 t)))∧Below w.heap.size w w':=by
 have hb:Below w.heap.size w (w.alloc (.cells (strs zn8).toArray 9)):=(Below.refl _ _).alloc (Nat.le_refl _) _;have hs:=ziL w zn8 9 (by decide);have HT:=lhd (zej _ zn8 t _ hs (by decide));clear hs;go_enter Tryz.func117,Tryz.ntmps117;go_wp2_with fail;refine(zek w).mono ?_;rintro e w1 ⟨rfl,rfl⟩;go_wp2_with fail;refine HT.out.mono ?_;rintro e w2 ⟨rfl,rfl⟩;go_wp2_with fail;go_ret;exact⟨rfl,hb⟩
theorem zjD {s:Bs} (h:zjh s=true):s.length≤32:=by
 unfold zjh at h;simp only[Bool.and_eq_true,decide_eq_true_iff]at h;exact h.1.1.2
theorem zhy (n:Int) (h: -32768≤n∧n≤999999999):(Lib.itoa n).length≤100:=by
 have:=zhz n h;rwa [zbt]at this
theorem zjy (x:Dcl) (w:World) (hg:Glob w) (hn:zjh x.nm=true) (hb:x.rg=true→zbj x.mb=true∧zbj x.lb=true):
 Calls Tryz.prog 116 #[.string (bsB x.nm),.bool x.rg,.int .i64 x.mb,.int .i64 x.lb] w fun e w'=>e=.returned (.string (bsB (refT x)))∧Below w.heap.size w w':=by
 obtain⟨nm,ty,sc,sg,rg,mb,lb,cd,kd,wd⟩:=x;dsimp only at hn hb⊢;have hl:=zjD hn;have hz:(bsB nm).size≤32:=by rw[zbt];exact hl
 have HV:=lhd (zjz (bsB nm) w (by omega));rw[zbq,hn]at HV;cases rg
 ·have HR:=lhd (show bsB nm=bsB (refT ⟨nm,ty,sc,sg,false,mb,lb,cd,kd,wd⟩)by unfold refT refW;rfl);generalize bsB nm=z at*;go_enter Tryz.func116,Tryz.ntmps116;go_wp2_with fail;refine HV.out.mono ?_;rintro e w1 ⟨rfl,hb1⟩;have HB1:=lhd hb1;clear hb1;go_wp2_with fail;go_ret;exact⟨by rw[←HR.out];rfl,HB1.out⟩
 ·obtain⟨b1,b2⟩:=hb rfl;have r1:=zbl b1;have r2:=zbl b2;have t1:=zhy mb (by omega);have t2:=zhy lb (by omega)
  have hne:(bsB (rngT mb lb)).toList.isEmpty=false:=zqR (by
   rw[zbt];unfold rngT;split<;>simp)
  have hz2:(bsB (rngT mb lb)).size≤300:=by
   rw[zbt];unfold rngT;split<;>simp<;>omega
  have HF:=lhd (fun(W:World) (h:Below w.heap.size w W)=>zjx mb lb W (hg.below h));rw[b1,b2,Bool.true_and,if_pos rfl]at HF
  have HR:=lhd (show(bsB nm++⟨#[32]⟩++bsB (rngT mb lb):ByteArray)=bsB (refT ⟨nm,ty,sc,sg,true,mb,lb,cd,kd,wd⟩)by
   unfold refT refW;apply ba_eq;simp[bsB,ByteArray.data_append,joinL])
  generalize bsB nm=z at*;generalize bsB (rngT mb lb)=y at*;clear b1 b2 hb hn;go_enter Tryz.func116,Tryz.ntmps116;go_wp2_with fail;refine HV.out.mono ?_;rintro e w1 ⟨rfl,hb1⟩;have HB1:=lhd hb1;clear hb1;go_wp2_with fail;refine(HF.out _ HB1.out).mono ?_;rintro e w2 ⟨rfl,hb2⟩;have HB2:=lhd (zfj HB1.out hb2);clear hb2;go_wp2_with fail;go_ret;exact⟨by rw[←HR.out];rfl,HB2.out⟩
abbrev ddV (d:DD) (vS vD:Value):Value:=.agg #[.int .i64 d.sc,.string (bsB d.dt),.string (bsB d.vn),.string (bsB d.cm),vS,vD]
end Go.Proofs.YtfppgpamkdkckaaGreatDoor
