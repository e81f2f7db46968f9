import Derived.Test.YtbiadennhnokhaaGreatDoorZ00
import Derived.Test.YtbiadennhnokhaaGreatDoorZ38
set_option maxRecDepth 100000
set_option maxHeartbeats 16000000
namespace Go.Proofs.YtbiadennhnokhaaGreatDoor
open Go.RowKit
set_option linter.unusedSimpArgs false
theorem zb7 {t:Tr} (h:(zb4 t).2≠0):(zb4 t).1=tr0:=by
 unfold zb4 at h⊢;split
 ·rfl
 split
 ·rfl
 split
 ·rfl
 split
 ·rfl
 rename_i h1 h2 h3 h4
 rw[if_neg h1,if_neg h2,if_neg h3,if_neg h4]at h;cases e:zpc t (ziY (sig1 t))with
 |none=>rfl
 |some r=>
  rw[e]at h;obtain⟨P,en⟩:=r;dsimp only at h⊢;split
  ·rfl
  ·rename_i h5
   rw[if_neg h5]at h;exact absurd rfl h
def tp0:TP:=⟨.slice none 0 0,.slice none 0 0,.slice none 0 0,.slice none 0 0,[]⟩
theorem zph (w:World):TrM w tr0 tp0:=⟨SlR.nil w,SlR.nil w,⟨SlR.nil w,fun x hx=>by cases hx⟩,SlR.nil w,rfl⟩
theorem zpi (t:Tr) (p:TP) (w:World) (ht:TrM w t p) (hF:FB t) (hg:Glob w) (hm:Glm w) (hw:∀x∈t.V,(Lit.int .i64 x.sg).wf=true):
 Calls Tryz.prog 14 #[p.v t] w fun e W'=>∃q,e=.returned (.tuple #[q.v (zb4 t).1,.int .i64 (zb4 t).2])∧TrM W' (zb4 t).1 q∧Below w.heap.size w W':=by
 have HT:=lhd ht;obtain⟨a1,k1,e1,-,-⟩:=ht.s.shape;obtain⟨a2,k2,e2,-,-⟩:=ht.v.shape;obtain⟨a3,k3,e3,-,-⟩:=ht.g.s.shape;obtain⟨a4,k4,e4,-,-⟩:=ht.q.shape;have HBE:=lhd (fun h=>zb7 (t:=t) h);obtain⟨wa,hwa⟩:∃wa,wa=w.alloc (.cells #[.int .i64 t.sc,.string (bsB t.dt),.string (bsB t.vn),.string (bsB t.cm),p.vs,p.vv,p.vg,p.vp,.int .i64 t.en] 27):=⟨_,rfl⟩;obtain⟨wb,hwb⟩:∃wb,wb=wa.alloc (.cells #[.int .i64 0,.string ⟨#[]⟩,.string ⟨#[]⟩,.string ⟨#[]⟩,.slice none 0 0,.slice none 0 0,.slice none 0 0,.slice none 0 0,.int .i64 0] 27):=⟨_,rfl⟩;have hza:wa.heap.size=w.heap.size+1:=by rw[hwa];simp
 have hzb:wb.heap.size=w.heap.size+1+1:=by rw[hwb,World.size_alloc,hza]
 have hba:Below w.heap.size w wa:=by rw[hwa];exact(Below.refl _ _).alloc (Nat.le_refl _) _
 have hbb:Below w.heap.size w wb:=by rw[hwb];exact hba.alloc (by omega) _
 have HBB:=lhd hbb
 have HR:=lhd (show zas wb (w.heap.size+1) [.int .i64 0,.string ⟨#[]⟩,.string ⟨#[]⟩,.string ⟨#[]⟩,.slice none 0 0,.slice none 0 0,.slice none 0 0,.slice none 0 0,.int .i64 0]by
  have:=zas.fresh wa #[.int .i64 0,.string ⟨#[]⟩,.string ⟨#[]⟩,.string ⟨#[]⟩,.slice none 0 0,.slice none 0 0,.slice none 0 0,.slice none 0 0,.int .i64 0] 27;rw[hza,←hwb]at this;exact this)
 obtain⟨w0,hw0⟩:∃w0,w0=(wb.alloc (.cells #[.int .i64 t.sc,.string (bsB t.dt),.string (bsB t.vn),.string (bsB t.cm),p.vs,p.vv,p.vg,p.vp,.int .i64 t.en,.int .i64 0,.string ⟨#[]⟩,.string ⟨#[]⟩,.string ⟨#[]⟩,.slice none 0 0,.slice none 0 0,.slice none 0 0,.slice none 0 0,.int .i64 0] 100)).alloc (.cells (fnsL wb.heap.size).toArray 102):=⟨_,rfl⟩;have hbw:Below wb.heap.size wb w0:=by rw[hw0];exact((Below.refl _ _).alloc (Nat.le_refl _) _).alloc (by simp) _
 have HST:=lhd (show StI wb t p 0 w0 from⟨fun j hj=>by omega,tp0,
  {x:=by
    have:=(zas.fresh wb #[.int .i64 t.sc,.string (bsB t.dt),.string (bsB t.vn),.string (bsB t.cm),p.vs,p.vv,p.vg,p.vp,.int .i64 t.en,.int .i64 0,.string ⟨#[]⟩,.string ⟨#[]⟩,.string ⟨#[]⟩,.slice none 0 0,.slice none 0 0,.slice none 0 0,.slice none 0 0,.int .i64 0] 100).below ((Below.refl _ _).alloc (Nat.le_refl _) (.cells (fnsL wb.heap.size).toArray 102)) (by simp);rw[←hw0]at this;exact this
   s:=World.ownsRow_nil _ _ _ _
   v:=World.ownsRow_nil _ _ _ _
   g:=World.ownsRow_nil _ _ _ _
   c:=fun x hx=>by cases hx
   r:=World.ownsRow_nil _ _ _ _
   m:=rfl
   b:=hbw
   k:=by
    have:=zas.fresh (wb.alloc (.cells #[.int .i64 t.sc,.string (bsB t.dt),.string (bsB t.vn),.string (bsB t.cm),p.vs,p.vv,p.vg,p.vp,.int .i64 t.en,.int .i64 0,.string ⟨#[]⟩,.string ⟨#[]⟩,.string ⟨#[]⟩,.slice none 0 0,.slice none 0 0,.slice none 0 0,.slice none 0 0,.int .i64 0] 100)) (fnsL wb.heap.size).toArray 102;rw[←hw0,World.size_alloc]at this;exact this
   l:=fun x hx=>(ht.g.m x hx).below hbb},fun _=>rfl⟩)
 have HSS:=lhd (zo7 wb w0 t p HST.out (ht.below hbb) hF (hg.below hbb) (hm.below hbb) hw);obtain⟨⟨u,c⟩,hB⟩:∃r,r=zb4 t:=⟨_,rfl⟩;rw[←hB]at HSS HBE⊢;dsimp only at HSS HBE⊢;clear hB;obtain⟨Q,hQ⟩:∃Q,Q=zay wb t p c u:=⟨_,rfl⟩;have hss:=HSS.out;rw[←hQ,hw0,hzb,hwb,hwa]at hss;unfold fnsL at hss;have HS2:=lhd hss;have HQ:=lhd hQ;have HZB:=lhd hzb;unfold TP.v;rw[e1,e2,e3,e4]at hss⊢;have HS2:=lhd hss;clear ht hF hg hm hw HST hba hbb hbw hss HSS hw0 hwb hwa hza hQ;go_enter Tryz.func14,Tryz.ntmps14;go_wp2_with fail;refine HS2.out.mono ?_;intro e W' hq;rw[HQ.out]at hq;obtain⟨rfl,hb1,hok⟩:=hq;have HB1:=lhd hb1;have HRW:=lhd (HR.out.below hb1 (by rw[HZB.out];omega));have HOK:=lhd hok;clear hb1 hok HS2 HQ;have r0:=HRW.out.cell (j:=0) rfl;have f0:=HRW.out.free (j:=0) (by simp);have r1:=HRW.out.cell (j:=1) rfl;have f1:=HRW.out.free (j:=1) (by simp);have r2:=HRW.out.cell (j:=2) rfl;have f2:=HRW.out.free (j:=2) (by simp);have r3:=HRW.out.cell (j:=3) rfl;have f3:=HRW.out.free (j:=3) (by simp);have r4:=HRW.out.cell (j:=4) rfl;have f4:=HRW.out.free (j:=4) (by simp);have r5:=HRW.out.cell (j:=5) rfl;have f5:=HRW.out.free (j:=5) (by simp);have r6:=HRW.out.cell (j:=6) rfl;have f6:=HRW.out.free (j:=6) (by simp);have r7:=HRW.out.cell (j:=7) rfl;have f7:=HRW.out.free (j:=7) (by simp);have r8:=HRW.out.cell (j:=8) rfl;have f8:=HRW.out.free (j:=8) (by simp);by_cases hc0:c=0
 ·subst hc0;obtain⟨q,hq⟩:=HOK.out rfl;obtain⟨qa,qk,eqs,-,-⟩:=(SlR.of_own hq.s).shape;obtain⟨qa2,qk2,eqv,-,-⟩:=(SlR.of_own hq.v).shape;obtain⟨qa3,qk3,eqg⟩:=hq.vgk;obtain⟨qa4,qk4,eqp,-,-⟩:=(SlR.of_own hq.r).shape;have HQB:=lhd hq;have b9:=hq.x.cell (j:=9) rfl;have b10:=hq.x.cell (j:=10) rfl;have b11:=hq.x.cell (j:=11) rfl;have b12:=hq.x.cell (j:=12) rfl;have b13:=hq.x.cell (j:=13) rfl;have b14:=hq.x.cell (j:=14) rfl;have b15:=hq.x.cell (j:=15) rfl;have b16:=hq.x.cell (j:=16) rfl;have b17:=hq.x.cell (j:=17) rfl;rw[HZB.out]at b9 b10 b11 b12 b13 b14 b15 b16 b17;rw[eqs]at b13;rw[eqv]at b14;rw[eqg]at b15;rw[eqp]at b16;have HEQS:=lhd eqs;have HEQV:=lhd eqv;have HEQG:=lhd eqg;have HEQP:=lhd eqp;clear hq HBE HOK e1 e2 e3 e4 eqs eqv eqg eqp;go_wp2_with fail;clear b9 b10 b11 b12 b13 b14 b15 b16 b17 r0 f0 r1 f1 r2 f2 r3 f3 r4 f4 r5 f5 r6 f6 r7 f7 r8 f8;have HRF:=lhd (zmy HRW.out (.int .i64 u.sc) (.string (bsB u.dt)) (.string (bsB u.vn)) (.string (bsB u.cm)) (.slice qa u.S.length qk) (.slice qa2 u.V.length qk2) (.slice qa3 q.M.length qk3) (.slice qa4 u.P.length qk4) (.int .i64 u.en));have HPF:=lhd (fun(e size n:Nat) (v:Value) (xs:List Value) (h:W'.ownsRow (wb.heap.size+2) e size v n xs)=>zmx (b:=w.heap.size+1) h (by rw[HZB.out];omega) (.int .i64 u.sc) (.string (bsB u.dt)) (.string (bsB u.vn)) (.string (bsB u.cm)) (.slice qa u.S.length qk) (.slice qa2 u.V.length qk2) (.slice qa3 q.M.length qk3) (.slice qa4 u.P.length qk4) (.int .i64 u.en));have HBF:=lhd (zmw (b:=w.heap.size+1) (HBB.out.trans (HB1.out.mono (by rw[HZB.out];omega))) (Nat.le_succ _) (.int .i64 u.sc) (.string (bsB u.dt)) (.string (bsB u.vn)) (.string (bsB u.cm)) (.slice qa u.S.length qk) (.slice qa2 u.V.length qk2) (.slice qa3 q.M.length qk3) (.slice qa4 u.P.length qk4) (.int .i64 u.en));unfold set9 at HRF HPF HBF;generalize ((((((((W'.setCell _ _).setCell _ _).setCell _ _).setCell _ _).setCell _ _).setCell _ _).setCell _ _).setCell _ _).setCell _ _=Wf at*;have cx0:=HRF.out.cell (j:=0) rfl;have cx1:=HRF.out.cell (j:=1) rfl;have cx2:=HRF.out.cell (j:=2) rfl;have cx3:=HRF.out.cell (j:=3) rfl;have cx4:=HRF.out.cell (j:=4) rfl;have cx5:=HRF.out.cell (j:=5) rfl;have cx6:=HRF.out.cell (j:=6) rfl;have cx7:=HRF.out.cell (j:=7) rfl;have cx8:=HRF.out.cell (j:=8) rfl;refine bodyPost_ret (v:=.tuple #[.agg #[.int .i64 u.sc,.string (bsB u.dt),.string (bsB u.vn),.string (bsB u.cm),.slice qa u.S.length qk,.slice qa2 u.V.length qk2,.slice qa3 q.M.length qk3,.slice qa4 u.P.length qk4,.int .i64 u.en],.int .i64 0]) (by simp[results,Tryz.results14,go_sem, *]) rfl ?_;refine⟨q,by rw[HEQS.out,HEQV.out,HEQG.out,HEQP.out],⟨SlR.of_own (HPF.out _ _ _ _ _ HQB.out.s),SlR.of_own (HPF.out _ _ _ _ _ HQB.out.v),⟨SlR.of_own (HPF.out _ _ _ _ _ HQB.out.g),fun x hx=>?_⟩,SlR.of_own (HPF.out _ _ _ _ _ HQB.out.r),HQB.out.m⟩,HBF.out⟩;rcases HQB.out.c x hx with h|h
  ·exact(HT.out.g.m x h).below HBF.out
  ·exact SlR.of_own (HPF.out _ _ _ _ _ h)
 ·have bc:(c==0)=false:=by simpa using hc0
  have HU:=lhd (HBE.out hc0);clear HBE HOK e1 e2 e3 e4;go_wp2_with fail;clear r0 f0 r1 f1 r2 f2 r3 f3 r4 f4 r5 f5 r6 f6 r7 f7 r8 f8;have HRF:=lhd (zmy HRW.out (.int .i64 0) (.string ⟨#[]⟩) (.string ⟨#[]⟩) (.string ⟨#[]⟩) (.slice none 0 0) (.slice none 0 0) (.slice none 0 0) (.slice none 0 0) (.int .i64 0));have HBF:=lhd (zmw (b:=w.heap.size+1) (HBB.out.trans (HB1.out.mono (by rw[HZB.out];omega))) (Nat.le_succ _) (.int .i64 0) (.string ⟨#[]⟩) (.string ⟨#[]⟩) (.string ⟨#[]⟩) (.slice none 0 0) (.slice none 0 0) (.slice none 0 0) (.slice none 0 0) (.int .i64 0));unfold set9 at HRF HBF;generalize ((((((((W'.setCell _ _).setCell _ _).setCell _ _).setCell _ _).setCell _ _).setCell _ _).setCell _ _).setCell _ _).setCell _ _=Wf at*;have cx0:=HRF.out.cell (j:=0) rfl;have cx1:=HRF.out.cell (j:=1) rfl;have cx2:=HRF.out.cell (j:=2) rfl;have cx3:=HRF.out.cell (j:=3) rfl;have cx4:=HRF.out.cell (j:=4) rfl;have cx5:=HRF.out.cell (j:=5) rfl;have cx6:=HRF.out.cell (j:=6) rfl;have cx7:=HRF.out.cell (j:=7) rfl;have cx8:=HRF.out.cell (j:=8) rfl;refine bodyPost_ret (v:=.tuple #[.agg #[.int .i64 0,.string ⟨#[]⟩,.string ⟨#[]⟩,.string ⟨#[]⟩,.slice none 0 0,.slice none 0 0,.slice none 0 0,.slice none 0 0,.int .i64 0],.int .i64 c]) (by simp[results,Tryz.results14,go_sem, *]) rfl ?_;rw[HU.out];exact⟨tp0,rfl,zph _,HBF.out⟩
end Go.Proofs.YtbiadennhnokhaaGreatDoor
