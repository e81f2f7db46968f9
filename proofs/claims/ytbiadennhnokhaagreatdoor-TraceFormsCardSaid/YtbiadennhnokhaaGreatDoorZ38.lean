import Derived.Test.YtbiadennhnokhaaGreatDoorZ00
import Derived.Test.YtbiadennhnokhaaGreatDoorZ33
import Derived.Test.YtbiadennhnokhaaGreatDoorZ37
set_option maxRecDepth 100000
set_option maxHeartbeats 16000000
namespace Go.Proofs.YtbiadennhnokhaaGreatDoor
open Go.RowKit
set_option linter.unusedSimpArgs false
theorem zbD {t:Tr} (h:(zbx t).2≠0):(zbx t).1=tr0:=by
 unfold zbx at h⊢;split
 ·rfl
 split
 ·rfl
 split
 ·rfl
 split
 ·rfl
 rename_i h1 h2 h3 h4
 rw[if_neg h1,if_neg h2,if_neg h3,if_neg h4]at h;cases e:zoL t (zic (sig1 t))with
 |none=>rfl
 |some r=>
  rw[e]at h;obtain⟨P,en⟩:=r;dsimp only at h⊢;split
  ·rfl
  ·rename_i h5
   rw[if_neg h5]at h;exact absurd rfl h
def tp0:TP:=⟨.slice none 0 0,.slice none 0 0,.slice none 0 0,.slice none 0 0,[]⟩
theorem zo0 (w:World):TrM w tr0 tp0:=⟨SlR.nil w,SlR.nil w,⟨SlR.nil w,fun x hx=>by cases hx⟩,SlR.nil w,rfl⟩
theorem zo1 (t:Tr) (p:TP) (w:World) (ht:TrM w t p) (hF:FB t) (hg:Glob w) (hm:Glm w) (hw:∀x∈t.V,(Lit.int .i64 x.sg).wf=true):
 Calls Tryz.prog 14 #[p.v t] w fun e W'=>∃q,e=.returned (.tuple #[q.v (zbx t).1,.int .i64 (zbx t).2])∧TrM W' (zbx t).1 q∧Below w.heap.size w W':=by
 have HT:=lhd ht;obtain⟨a1,k1,e1,-,-⟩:=ht.s.shape;obtain⟨a2,k2,e2,-,-⟩:=ht.v.shape;obtain⟨a3,k3,e3,-,-⟩:=ht.g.s.shape;obtain⟨a4,k4,e4,-,-⟩:=ht.q.shape;have HBE:=lhd (fun h=>zbD (t:=t) h);obtain⟨wa,hwa⟩:∃wa,wa=w.alloc (.cells #[.int .i64 t.sc,.string (bsB t.dt),.string (bsB t.vn),.string (bsB t.cm),p.vs,p.vv,p.vg,p.vp,.int .i64 t.en] 27):=⟨_,rfl⟩;obtain⟨wb,hwb⟩:∃wb,wb=wa.alloc (.cells #[.int .i64 0,.string ⟨#[]⟩,.string ⟨#[]⟩,.string ⟨#[]⟩,.slice none 0 0,.slice none 0 0,.slice none 0 0,.slice none 0 0,.int .i64 0] 27):=⟨_,rfl⟩;have hza:wa.heap.size=w.heap.size+1:=by rw[hwa];simp
 have hzb:wb.heap.size=w.heap.size+1+1:=by rw[hwb,World.size_alloc,hza]
 have hba:Below w.heap.size w wa:=by rw[hwa];exact(Below.refl _ _).alloc (Nat.le_refl _) _
 have hbb:Below w.heap.size w wb:=by rw[hwb];exact hba.alloc (by omega) _
 have HBB:=lhd hbb
 have HR:=lhd (show zal wb (w.heap.size+1) [.int .i64 0,.string ⟨#[]⟩,.string ⟨#[]⟩,.string ⟨#[]⟩,.slice none 0 0,.slice none 0 0,.slice none 0 0,.slice none 0 0,.int .i64 0]by
  have:=zal.fresh wa #[.int .i64 0,.string ⟨#[]⟩,.string ⟨#[]⟩,.string ⟨#[]⟩,.slice none 0 0,.slice none 0 0,.slice none 0 0,.slice none 0 0,.int .i64 0] 27;rw[hza,←hwb]at this;exact this)
 obtain⟨w0,hw0⟩:∃w0,w0=(wb.alloc (.cells #[.int .i64 t.sc,.string (bsB t.dt),.string (bsB t.vn),.string (bsB t.cm),p.vs,p.vv,p.vg,p.vp,.int .i64 t.en,.int .i64 0,.string ⟨#[]⟩,.string ⟨#[]⟩,.string ⟨#[]⟩,.slice none 0 0,.slice none 0 0,.slice none 0 0,.slice none 0 0,.int .i64 0] 100)).alloc (.cells (fnsL wb.heap.size).toArray 102):=⟨_,rfl⟩;have hbw:Below wb.heap.size wb w0:=by rw[hw0];exact((Below.refl _ _).alloc (Nat.le_refl _) _).alloc (by simp) _
 have HST:=lhd (show StI wb t p 0 w0 from⟨fun j hj=>by omega,tp0,
  {x:=by
    have:=(zal.fresh wb #[.int .i64 t.sc,.string (bsB t.dt),.string (bsB t.vn),.string (bsB t.cm),p.vs,p.vv,p.vg,p.vp,.int .i64 t.en,.int .i64 0,.string ⟨#[]⟩,.string ⟨#[]⟩,.string ⟨#[]⟩,.slice none 0 0,.slice none 0 0,.slice none 0 0,.slice none 0 0,.int .i64 0] 100).below ((Below.refl _ _).alloc (Nat.le_refl _) (.cells (fnsL wb.heap.size).toArray 102)) (by simp);rw[←hw0]at this;exact this
   s:=World.ownsRow_nil _ _ _ _
   v:=World.ownsRow_nil _ _ _ _
   g:=World.ownsRow_nil _ _ _ _
   c:=fun x hx=>by cases hx
   r:=World.ownsRow_nil _ _ _ _
   m:=rfl
   b:=hbw
   k:=by
    have:=zal.fresh (wb.alloc (.cells #[.int .i64 t.sc,.string (bsB t.dt),.string (bsB t.vn),.string (bsB t.cm),p.vs,p.vv,p.vg,p.vp,.int .i64 t.en,.int .i64 0,.string ⟨#[]⟩,.string ⟨#[]⟩,.string ⟨#[]⟩,.slice none 0 0,.slice none 0 0,.slice none 0 0,.slice none 0 0,.int .i64 0] 100)) (fnsL wb.heap.size).toArray 102;rw[←hw0,World.size_alloc]at this;exact this
   l:=fun x hx=>(ht.g.m x hx).below hbb},fun _=>rfl⟩)
 have HSS:=lhd (zoE wb w0 t p HST.out (ht.below hbb) hF (hg.below hbb) (hm.below hbb) hw);obtain⟨⟨u,c⟩,hB⟩:∃r,r=zbx t:=⟨_,rfl⟩;rw[←hB]at HSS HBE⊢;dsimp only at HSS HBE⊢;clear hB;obtain⟨Q,hQ⟩:∃Q,Q=zar wb t p c u:=⟨_,rfl⟩;have hss:=HSS.out;rw[←hQ,hw0,hzb,hwb,hwa]at hss;unfold fnsL at hss;have HS2:=lhd hss;have HQ:=lhd hQ;have HZB:=lhd hzb;unfold TP.v;rw[e1,e2,e3,e4]at hss⊢;have HS2:=lhd hss;clear ht hF hg hm hw HST hba hbb hbw hss HSS hw0 hwb hwa hza hQ;go_enter Tryz.func14,Tryz.ntmps14;go_wp2_with fail;refine HS2.out.mono ?_;intro e W' hq;rw[HQ.out]at hq;obtain⟨rfl,hb1,hok⟩:=hq;have HB1:=lhd hb1;have HRW:=lhd (HR.out.below hb1 (by rw[HZB.out];omega));have HOK:=lhd hok;clear hb1 hok HS2 HQ;have r0:=HRW.out.cell (j:=0) rfl;have f0:=HRW.out.free (j:=0) (by simp);have r1:=HRW.out.cell (j:=1) rfl;have f1:=HRW.out.free (j:=1) (by simp);have r2:=HRW.out.cell (j:=2) rfl;have f2:=HRW.out.free (j:=2) (by simp);have r3:=HRW.out.cell (j:=3) rfl;have f3:=HRW.out.free (j:=3) (by simp);have r4:=HRW.out.cell (j:=4) rfl;have f4:=HRW.out.free (j:=4) (by simp);have r5:=HRW.out.cell (j:=5) rfl;have f5:=HRW.out.free (j:=5) (by simp);have r6:=HRW.out.cell (j:=6) rfl;have f6:=HRW.out.free (j:=6) (by simp);have r7:=HRW.out.cell (j:=7) rfl;have f7:=HRW.out.free (j:=7) (by simp);have r8:=HRW.out.cell (j:=8) rfl;have f8:=HRW.out.free (j:=8) (by simp);by_cases hc0:c=0
 ·subst hc0;obtain⟨q,hq⟩:=HOK.out rfl;obtain⟨qa,qk,eqs,-,-⟩:=(SlR.of_own hq.s).shape;obtain⟨qa2,qk2,eqv,-,-⟩:=(SlR.of_own hq.v).shape;obtain⟨qa3,qk3,eqg⟩:=hq.vgk;obtain⟨qa4,qk4,eqp,-,-⟩:=(SlR.of_own hq.r).shape;have HQB:=lhd hq;have b9:=hq.x.cell (j:=9) rfl;have b10:=hq.x.cell (j:=10) rfl;have b11:=hq.x.cell (j:=11) rfl;have b12:=hq.x.cell (j:=12) rfl;have b13:=hq.x.cell (j:=13) rfl;have b14:=hq.x.cell (j:=14) rfl;have b15:=hq.x.cell (j:=15) rfl;have b16:=hq.x.cell (j:=16) rfl;have b17:=hq.x.cell (j:=17) rfl;rw[HZB.out]at b9 b10 b11 b12 b13 b14 b15 b16 b17;rw[eqs]at b13;rw[eqv]at b14;rw[eqg]at b15;rw[eqp]at b16;have HEQS:=lhd eqs;have HEQV:=lhd eqv;have HEQG:=lhd eqg;have HEQP:=lhd eqp;clear hq HBE HOK e1 e2 e3 e4 eqs eqv eqg eqp;go_wp2_with fail;clear b9 b10 b11 b12 b13 b14 b15 b16 b17 r0 f0 r1 f1 r2 f2 r3 f3 r4 f4 r5 f5 r6 f6 r7 f7 r8 f8;have HRF:=lhd (zmS HRW.out (.int .i64 u.sc) (.string (bsB u.dt)) (.string (bsB u.vn)) (.string (bsB u.cm)) (.slice qa u.S.length qk) (.slice qa2 u.V.length qk2) (.slice qa3 q.M.length qk3) (.slice qa4 u.P.length qk4) (.int .i64 u.en));have HPF:=lhd (fun(e size n:Nat) (v:Value) (xs:List Value) (h:W'.ownsRow (wb.heap.size+2) e size v n xs)=>zmR (b:=w.heap.size+1) h (by rw[HZB.out];omega) (.int .i64 u.sc) (.string (bsB u.dt)) (.string (bsB u.vn)) (.string (bsB u.cm)) (.slice qa u.S.length qk) (.slice qa2 u.V.length qk2) (.slice qa3 q.M.length qk3) (.slice qa4 u.P.length qk4) (.int .i64 u.en));have HBF:=lhd (zmQ (b:=w.heap.size+1) (HBB.out.trans (HB1.out.mono (by rw[HZB.out];omega))) (Nat.le_succ _) (.int .i64 u.sc) (.string (bsB u.dt)) (.string (bsB u.vn)) (.string (bsB u.cm)) (.slice qa u.S.length qk) (.slice qa2 u.V.length qk2) (.slice qa3 q.M.length qk3) (.slice qa4 u.P.length qk4) (.int .i64 u.en));unfold set9 at HRF HPF HBF;generalize ((((((((W'.setCell _ _).setCell _ _).setCell _ _).setCell _ _).setCell _ _).setCell _ _).setCell _ _).setCell _ _).setCell _ _=Wf at*;have cx0:=HRF.out.cell (j:=0) rfl;have cx1:=HRF.out.cell (j:=1) rfl;have cx2:=HRF.out.cell (j:=2) rfl;have cx3:=HRF.out.cell (j:=3) rfl;have cx4:=HRF.out.cell (j:=4) rfl;have cx5:=HRF.out.cell (j:=5) rfl;have cx6:=HRF.out.cell (j:=6) rfl;have cx7:=HRF.out.cell (j:=7) rfl;have cx8:=HRF.out.cell (j:=8) rfl;refine bodyPost_ret (v:=.tuple #[.agg #[.int .i64 u.sc,.string (bsB u.dt),.string (bsB u.vn),.string (bsB u.cm),.slice qa u.S.length qk,.slice qa2 u.V.length qk2,.slice qa3 q.M.length qk3,.slice qa4 u.P.length qk4,.int .i64 u.en],.int .i64 0]) (by simp[results,Tryz.results14,go_sem, *]) rfl ?_;refine⟨q,by rw[HEQS.out,HEQV.out,HEQG.out,HEQP.out],⟨SlR.of_own (HPF.out _ _ _ _ _ HQB.out.s),SlR.of_own (HPF.out _ _ _ _ _ HQB.out.v),⟨SlR.of_own (HPF.out _ _ _ _ _ HQB.out.g),fun x hx=>?_⟩,SlR.of_own (HPF.out _ _ _ _ _ HQB.out.r),HQB.out.m⟩,HBF.out⟩;rcases HQB.out.c x hx with h|h
  ·exact(HT.out.g.m x h).below HBF.out
  ·exact SlR.of_own (HPF.out _ _ _ _ _ h)
 ·have bc:(c==0)=false:=by simpa using hc0
  have HU:=lhd (HBE.out hc0);clear HBE HOK e1 e2 e3 e4;go_wp2_with fail;clear r0 f0 r1 f1 r2 f2 r3 f3 r4 f4 r5 f5 r6 f6 r7 f7 r8 f8;have HRF:=lhd (zmS HRW.out (.int .i64 0) (.string ⟨#[]⟩) (.string ⟨#[]⟩) (.string ⟨#[]⟩) (.slice none 0 0) (.slice none 0 0) (.slice none 0 0) (.slice none 0 0) (.int .i64 0));have HBF:=lhd (zmQ (b:=w.heap.size+1) (HBB.out.trans (HB1.out.mono (by rw[HZB.out];omega))) (Nat.le_succ _) (.int .i64 0) (.string ⟨#[]⟩) (.string ⟨#[]⟩) (.string ⟨#[]⟩) (.slice none 0 0) (.slice none 0 0) (.slice none 0 0) (.slice none 0 0) (.int .i64 0));unfold set9 at HRF HBF;generalize ((((((((W'.setCell _ _).setCell _ _).setCell _ _).setCell _ _).setCell _ _).setCell _ _).setCell _ _).setCell _ _).setCell _ _=Wf at*;have cx0:=HRF.out.cell (j:=0) rfl;have cx1:=HRF.out.cell (j:=1) rfl;have cx2:=HRF.out.cell (j:=2) rfl;have cx3:=HRF.out.cell (j:=3) rfl;have cx4:=HRF.out.cell (j:=4) rfl;have cx5:=HRF.out.cell (j:=5) rfl;have cx6:=HRF.out.cell (j:=6) rfl;have cx7:=HRF.out.cell (j:=7) rfl;have cx8:=HRF.out.cell (j:=8) rfl;refine bodyPost_ret (v:=.tuple #[.agg #[.int .i64 0,.string ⟨#[]⟩,.string ⟨#[]⟩,.string ⟨#[]⟩,.slice none 0 0,.slice none 0 0,.slice none 0 0,.slice none 0 0,.int .i64 0],.int .i64 c]) (by simp[results,Tryz.results14,go_sem, *]) rfl ?_;rw[HU.out];exact⟨tp0,rfl,zo0 _,HBF.out⟩
theorem zls (v u:Value) (S:List Sc) (V:List Vr) (w:World) (hs:SlR w v S.length (scs S)) (hv:SlR w u V.length (vrs V)) (hS:∀s∈S,s.1.length≤100000) (hV:∀x∈V,x.nm.length≤100000):
 Calls Tryz.prog 68 #[v,u] w fun e w'=>(∃b,e=.returned (.bool b)∧(b=true↔ ∃m,HierR S V m))∧Below w.heap.size w w':=by
 have HCK:=lhd (zlF v u S V w hs hv hS hV);obtain⟨a,cap,rfl,hc,hm⟩:=hs.shape;obtain⟨a2,cap2,rfl,hc2,hm2⟩:=hv.shape;have HS:=lhd hs;have HV:=lhd hv;obtain⟨H,hH⟩:∃H:Prop,H=∃m,HierR S V m:=⟨_,rfl⟩;rw[←hH];have HH:=lhd hH;clear hs hv hS hV hc hm hc2 hm2 hH;by_cases h0:zbY S V=0
 rotate_left
 ·have HNO:=lhd (show ¬H by rw[HH.out];rintro⟨m,h⟩;exact h0 h.c);have hb:(zbY S V==0)=false:=by rw[beq_eq_false_iff_ne];exact h0
  generalize zbY S V=ck at HCK hb;clear h0;go_enter Tryz.func68,Tryz.ntmps68;go_wp2_with fail;refine HCK.out.mono ?_;rintro e w1 ⟨rfl,hb1⟩;have HB:=lhd hb1;clear hb1;go_wp2_with fail;go_ret;exact⟨⟨_,rfl,by simp only[Bool.false_eq_true,false_iff];exact HNO.out⟩,HB.out⟩
 have HC0:=lhd h0;rw[h0]at HCK;have hck:=zce.1 h0;have HF:=lhd (zdx hck.d);obtain⟨l1,l2⟩:S.length≤32∧V.length≤128:=⟨hck.n,hck.m⟩;clear h0 hck;go_enter Tryz.func68,Tryz.ntmps68;go_wp2_with fail;refine HCK.out.mono ?_;rintro e w1 ⟨rfl,hb1⟩;have HB:=lhd hb1;clear hb1 HCK;go_wp2_with fail;go_loopw [5] (fun i wr=>∃k:Nat,1≤k∧(k≤S.length∨k=1)∧i=.int .i64 k∧(∀i,i+1<k→i+1<S.length→0≤parS S (i+1)→insF (parS S) S.length (parS S (i+1)) (i:Nat)=true)∧w1=wr) (fun i _=>S.length-(intOf i).toNat)
 case atStart=>exact⟨1,Nat.le_refl _,.inr rfl,rfl,fun i h=>by omega,rfl⟩
 case round=>
  obtain⟨k,hk1,hk2,rfl,hrl,rfl⟩:=hrel;have HL:=lhd hrl;clear hrl;by_cases hlt:k<S.length
  ·obtain⟨b,o,rfl,hcell⟩:=(HS.out.below HB.out).scs hlt;have d2:w1.cell? ⟨b,o+k*3+2,none⟩=some (.int .i64 S[k].2.2):=hcell 2 _ rfl;have hw1:=zhO k (by omega);have hw2:IntKind.i64.wrap ((k:Int)-1)=(k:Int)-1:=IntWalk.i64_in _ (by omega);have hp:=zjL hlt;have hfs:=HF.out k hlt;rw[hp]at hfs;obtain⟨j,hj⟩:∃j,j+1=k:=⟨k-1,by omega⟩;have hjk:(k:Int)-1=(j:Int):=by omega
   have HIN:=lhd (fun(h0:0≤S[k].2.2)=>zlK _ S S[k].2.2 ((k:Int)-1) S.length w1 (HS.out.below HB.out) HF.out h0 (by omega) (by omega) (by omega));rw[hjk]at HIN
   have HOKK:=lhd (fun(h:0≤S[k].2.2→insF (parS S) S.length S[k].2.2 (j:Int)=true)=>show ∀i,i+1<k+1→i+1<S.length→0≤parS S (i+1)→insF (parS S) S.length (parS S (i+1)) (i:Nat)=true from fun i h1 h2 h3=>by
    rcases Nat.lt_or_ge (i+1) k with h9|h9
    ·exact HL.out i h9 h2 h3
    ·obtain rfl:i=j:=by omega
     rw[hj,hp]at h3⊢;exact h h3)
   have HBAD:=lhd (fun(h1:0≤S[k].2.2) (h:insF (parS S) S.length S[k].2.2 (j:Int)=false)=>show ¬H by
    rw[HH.out];rintro⟨m,hh⟩;have:=hh.n j (by omega) (by rw[hj,hp];exact h1);rw[hj,hp,h]at this;cases this)
   rw[←hjk]at HIN;clear hcell hp;by_cases hx:0≤S[k].2.2
   ·have HI:=lhd (HIN.out hx);rw[←hjk]at HBAD HOKK;generalize S[k].2.2=x at*;cases hin:insF (parS S) S.length x ((k:Int)-1)
    ·have HNO:=lhd (HBAD.out hx hin);rw[hin]at HI;clear HIN HBAD HOKK hin hjk;go_wp2_with fail;refine HI.out.mono ?_;rintro e w2 ⟨rfl,rfl⟩;go_wp2_with fail;go_ret;exact⟨⟨_,rfl,by simp only[Bool.false_eq_true,false_iff];exact HNO.out⟩,HB.out⟩
    ·have HN:=lhd (HOKK.out (fun _=>hin));rw[hin]at HI;clear HIN HBAD HOKK hin hjk;go_wp2_with fail;refine HI.out.mono ?_;rintro e w2 ⟨rfl,rfl⟩;go_wp2_with fail;go_roundw;case rel=>exact⟨k+1,by omega,.inl hlt,by go_num,HN.out,by first|trivial|rfl⟩
     case measure=>simp[intOf];omega
   ·have HN:=lhd (HOKK.out (fun h=>absurd h hx));generalize S[k].2.2=x at*;clear HIN HBAD HOKK hjk;go_wp2_with fail;go_roundw;case rel=>exact⟨k+1,by omega,.inl hlt,by go_num,HN.out,by first|trivial|rfl⟩
    case measure=>simp[intOf];omega
  ·have HNN:=lhd (show ∀i,i+1<S.length→0≤parS S (i+1)→insF (parS S) S.length (parS S (i+1)) (i:Nat)=true from fun i h1 h2=>HL.out i (by omega) h1 h2);have hge:¬(k:Int)<(S.length:Int):=by omega
   clear HL;go_wp2_with fail;go_loopw [6,7] (fun c i wr=>∃(k n:Nat),k≤V.length∧n≤k∧i=.int .i64 k∧c=.int .i64 n∧seqN 0 (V.take k)=some n∧(∀i,∀hi:i+1<V.length,i+1<k→(V[i]'(by omega)).sc≤V[i+1].sc)∧Below w.heap.size w wr) (fun _ i _=>V.length-(intOf i).toNat)
   case atStart=>exact⟨0,0,Nat.zero_le _,Nat.le_refl _,rfl,rfl,rfl,fun i hi h=>by omega,HB.out⟩
   case round=>
    clear HB;obtain⟨k,n,hk,hn,rfl,rfl,hsq,hst,hb⟩:=hrel;have HB:=lhd hb;have HSQ:=lhd hsq;have HST:=lhd hst;clear hb hsq hst;by_cases hlt:k<V.length
    ·obtain⟨b,o,rfl,hcell⟩:=(HV.out.below HB.out).vrs hlt;have d2:wr.cell? ⟨b,o+k*7+2,none⟩=some (.int .i64 V[k].sc):=hcell 2 _ rfl;have d3:wr.cell? ⟨b,o+k*7+3,none⟩=some (.int .i64 V[k].sg):=hcell 3 _ rfl;have hw1:=zhO k (by omega);have hw3:=zhO n (by omega);have HSB:=lhd (fun h=>show ¬H by rw[HH.out];rintro⟨m,hh⟩;exact zmK HSQ.out hlt h m hh.q);have HSS:=lhd (fun h=>zmO HSQ.out hlt h);clear hcell;by_cases hk0:k=0
     ·have hk9:decide ((0:Int)<(k:Int))=false:=by rw[decide_eq_false_iff_not];omega
      have hk8:decide (0<k)=false:=by rw[decide_eq_false_iff_not];omega
      have HST2:=lhd (show ∀i,∀hi:i+1<V.length,i+1<k+1→(V[i]'(by omega)).sc≤V[i+1].sc from fun i hi h=>by omega);clear hk0;generalize V[k].sg=y at*;by_cases e2:(n:Int)<y
      ·have HNO:=lhd (HSB.out e2);have e2b:=decide_eq_true e2;clear HSB HSS e2;go_wp2_with fail;go_quiet (fail);have HB:=lhd (za5 HB.out nq);go_wp2_with fail;go_ret;exact⟨⟨_,rfl,by simp only[Bool.false_eq_true,false_iff];exact HNO.out⟩,HB.out⟩
      ·have HSQ2:=lhd (HSS.out e2);have e2b:=decide_eq_false e2;clear HSB HSS;by_cases e3:y=(n:Int)
       ·have hs3:=HSQ2.out;rw[if_pos e3]at hs3;have HSQ3:=lhd hs3;subst e3;clear hs3 HSQ2 e2;go_wp2_with fail;go_quiet (fail);have HB:=lhd (za5 HB.out nq);have d3:=(World.cell?_drewN wr nq _).trans d3;go_wp2_with fail;go_roundw;case rel=>exact⟨k+1,n+1,hlt,by omega,by go_num,by go_num,HSQ3.out,HST2.out,HB.out⟩
        case measure=>simp[intOf];omega
       ·have hs3:=HSQ2.out;rw[if_neg e3]at hs3;have HSQ3:=lhd hs3;have hyb:(y==(n:Int))=false:=by rw[beq_eq_false_iff_ne];exact e3
        clear hs3 HSQ2 e2 e3;go_wp2_with fail;go_quiet (fail);have HB:=lhd (za5 HB.out nq);have d3:=(World.cell?_drewN wr nq _).trans d3;go_wp2_with fail;go_roundw;case rel=>exact⟨k+1,n,hlt,by omega,by go_num,rfl,HSQ3.out,HST2.out,HB.out⟩
        case measure=>simp[intOf];omega
     ·obtain⟨j,hj⟩:∃j,j+1=k:=⟨k-1,by omega⟩;have hjl:j<V.length:=by omega
      clear hk0;have hw2:IntKind.i64.wrap ((k:Int)-1)=(j:Int):=by rw[show(k:Int)-1=(j:Int)by omega];exact IntWalk.i64_in _ (by omega)
      have g2:wr.cell? ⟨b,o+j*7+2,none⟩=some (.int .i64 (V[j]'(by omega)).sc):=zqq (HV.out.below HB.out) hjl 2 _ rfl;have hk9:decide ((0:Int)<(k:Int))=true:=by rw[decide_eq_true_iff];omega
      have hk8:0<k:=by omega
      have HSTB:=lhd (fun(h:V[k].sc<(V[j]'(by omega)).sc)=>show ¬H by
       rw[HH.out];rintro⟨m,hh⟩;exact znC hlt (show j<k by omega) h hh.s)
      have HSTO:=lhd (fun(h:¬V[k].sc<(V[j]'(by omega)).sc)=>show ∀i,∀hi:i+1<V.length,i+1<k+1→(V[i]'(by omega)).sc≤V[i+1].sc from fun i hi h9=>by
       rcases Nat.lt_or_ge (i+1) k with h8|h8
       ·exact HST.out i hi h8
       ·obtain rfl:i=j:=by omega
        subst hj;omega)
      generalize (V[j]'(by omega)).sc=x2 at g2 HSTB HSTO;generalize V[k].sc=x at d2 HSTB HSTO;by_cases e1:x<x2
      ·have HNO:=lhd (HSTB.out e1);have e1b:=decide_eq_true e1;clear HSTB HSTO HSB HSS e1;go_wp2_with fail;go_quiet (fail);have HB:=lhd (za5 HB.out nq);go_wp2_with fail;go_ret;exact⟨⟨_,rfl,by simp only[Bool.false_eq_true,false_iff];exact HNO.out⟩,HB.out⟩
      ·have HST2:=lhd (HSTO.out e1);have e1b:=decide_eq_false e1;clear HSTB HSTO e1;generalize V[k].sg=y at*;by_cases e2:(n:Int)<y
       ·have HNO:=lhd (HSB.out e2);have e2b:=decide_eq_true e2;clear HSB HSS e2;go_wp2_with fail;go_quiet (fail);have HB:=lhd (za5 HB.out nq);go_wp2_with fail;go_ret;exact⟨⟨_,rfl,by simp only[Bool.false_eq_true,false_iff];exact HNO.out⟩,HB.out⟩
       ·have HSQ2:=lhd (HSS.out e2);have e2b:=decide_eq_false e2;clear HSB HSS;by_cases e3:y=(n:Int)
        ·have hs3:=HSQ2.out;rw[if_pos e3]at hs3;have HSQ3:=lhd hs3;subst e3;clear hs3 HSQ2 e2;go_wp2_with fail;go_quiet (fail);have HB:=lhd (za5 HB.out nq);have d3:=(World.cell?_drewN wr nq _).trans d3;go_wp2_with fail;go_roundw;case rel=>exact⟨k+1,n+1,hlt,by omega,by go_num,by go_num,HSQ3.out,HST2.out,HB.out⟩
         case measure=>simp[intOf];omega
        ·have hs3:=HSQ2.out;rw[if_neg e3]at hs3;have HSQ3:=lhd hs3;have hyb:(y==(n:Int))=false:=by rw[beq_eq_false_iff_ne];exact e3
         clear hs3 HSQ2 e2 e3;go_wp2_with fail;go_quiet (fail);have HB:=lhd (za5 HB.out nq);have d3:=(World.cell?_drewN wr nq _).trans d3;go_wp2_with fail;go_roundw;case rel=>exact⟨k+1,n,hlt,by omega,by go_num,rfl,HSQ3.out,HST2.out,HB.out⟩
         case measure=>simp[intOf];omega
    ·obtain rfl:k=V.length:=by omega
     have HYES:=lhd (show H by
      rw[HH.out];refine⟨n,HC0.out,HNN.out,znE (fun i hi=>HST.out i hi hi),?_⟩;have:=HSQ.out;rwa [List.take_length]at this)
     go_wp2_with fail;go_ret;exact⟨⟨_,rfl,by simp only[true_iff];exact HYES.out⟩,HB.out⟩
end Go.Proofs.YtbiadennhnokhaaGreatDoor
