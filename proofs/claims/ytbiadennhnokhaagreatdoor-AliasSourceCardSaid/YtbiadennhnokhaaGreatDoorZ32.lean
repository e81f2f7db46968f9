import Derived.Test.YtbiadennhnokhaaGreatDoorZ00
import Derived.Test.YtbiadennhnokhaaGreatDoorZ28
set_option maxRecDepth 100000
set_option maxHeartbeats 16000000
namespace Go.Proofs.YtbiadennhnokhaaGreatDoor
open Go.RowKit
set_option linter.unusedSimpArgs false
theorem zby {B:Nat} {a w:World} (h:Below B a w) (n:Nat):Below B a (w.drewN n):=h.trans ⟨rfl,rfl,rfl,Nat.le_refl _,fun _ _=>rfl⟩
theorem zj8 {w:World} {B e size n:Nat} {v:Value} {xs:List Value} (h:w.ownsRow B e size v n xs) (hn:0<n):
 ∃g c,v=.slice (some ⟨g,0,none⟩) n c∧n≤c∧B≤g∧g<w.heap.size∧∀j u,xs[j]? =some u→w.cell? ⟨g,j,none⟩=some u:=by
 rcases h.2 with⟨-,h0⟩|⟨g,cap,cur,e0,hb,hh,hc,-⟩
 ·omega
 refine⟨g,cap,e0,hc,hb,(Array.getElem?_eq_some_iff.1 hh).1,fun j u hj=>?_⟩;obtain⟨a',c',ev,-,-,-,h4⟩:=SlR.of_own h;obtain⟨b',o',rfl,hat⟩:=h4 hn;rw[e0]at ev;injection ev with ev _ _;injection ev with ev;injection ev with ev1 ev2 _;subst ev1 ev2;have:=hat j u hj;rwa [Nat.zero_add]at this
theorem BI.vr {w W:World} {t u:Tr} {p q:TP} (h:BI w t p u q W) {k:Nat} (hk:k<u.V.length):
 ∃g c,q.vv=.slice (some ⟨g,0,none⟩) u.V.length c∧w.heap.size+2≤g∧g<W.heap.size∧W.cell? ⟨g,k*7,none⟩=some (.string (bsB u.V[k].nm))∧W.cell? ⟨g,k*7+1,none⟩=some (.int .i64 u.V[k].ty)∧
  W.cell? ⟨g,k*7+2,none⟩=some (.int .i64 u.V[k].sc)∧W.cell? ⟨g,k*7+3,none⟩=some (.int .i64 u.V[k].sg)∧W.cell? ⟨g,k*7+4,none⟩=some (.bool u.V[k].rg)∧
  W.cell? ⟨g,k*7+5,none⟩=some (.int .i64 u.V[k].mb)∧W.cell? ⟨g,k*7+6,none⟩=some (.int .i64 u.V[k].lb):=by
 obtain⟨g,c,e,-,h1,h2,-⟩:=zj8 h.v (by omega);have hs:=h.v;rw[e,show u.V=u.V.take k++u.V[k]::u.V.drop (k+1)by rw[←List.drop_eq_getElem_cons hk,List.take_append_drop]]at hs;have hl:(u.V.take k++u.V[k]::u.V.drop (k+1)).length=u.V.length:=by rw[←List.drop_eq_getElem_cons hk,List.take_append_drop]
 have hh:=SO.at (X:=u.V.take k) (Z:=u.V.drop (k+1)) (x:=u.V[k]) (by rw[hl]at hs;exact hs);rw[List.length_take,Nat.min_eq_left (Nat.le_of_lt hk)]at hh;exact⟨g,c,e,h1,h2,hh⟩
theorem BI.sg {w W:World} {t u:Tr} {p q:TP} (h:BI w t p u q W) {k:Nat} (hk:k<q.M.length):
 ∃g c,q.vg=.slice (some ⟨g,0,none⟩) q.M.length c∧w.heap.size+2≤g∧g<W.heap.size∧W.cell? ⟨g,k*3,none⟩=some (.int .i64 q.M[k].1.1)∧W.cell? ⟨g,k*3+1,none⟩=some (.int .i64 q.M[k].1.2.1)∧W.cell? ⟨g,k*3+2,none⟩=some q.M[k].2∧
  SlR W q.M[k].2 q.M[k].1.2.2.length (chs q.M[k].1.2.2):=by
 obtain⟨g,c,e,-,h1,h2,hc⟩:=zj8 h.g (by omega);obtain⟨h3,h4,h5⟩:=zmH q.M k hk;refine⟨g,c,e,h1,h2,?_,?_,?_,?_⟩
 ·rw[Nat.mul_comm];exact hc _ _ h3
 ·rw[Nat.mul_comm];exact hc _ _ h4
 ·rw[Nat.mul_comm];exact hc _ _ h5
 ·rcases h.c _ (List.getElem_mem hk)with h6|h6
  ·exact(h.l _ h6).below h.b
  ·exact SlR.of_own h6
theorem BI.ml {w W:World} {t u:Tr} {p q:TP} (h:BI w t p u q W):q.M.length=u.G.length:=by rw[←h.m,List.length_map]
theorem ze1 {α:Type} {f:α→Int} {l:List α} {k:Nat} (hk:k<l.length):ze0 f (l.drop k)=if f l[k]≠0 then f l[k]else ze0 f (l.drop (k+1)):=by
 rw[List.drop_eq_getElem_cons hk];rfl
theorem zo9 (w W:World) (t u:Tr) (p q:TP) (h:BI w t p u q W) (hf:∀v∈u.V,0≤v.sg∧v.sg<u.G.length) (hl:u.V.length≤1000) (hl2:u.G.length≤1000):
 Calls Tryz.prog 55 #[.pointer (some ⟨w.heap.size,0,none⟩)] W fun e W'=>zaz w t p q.vp (ze0 (fitE u.G) u.V) u e W':=by
 have HI:=lhd h;have HF:=lhd hf;have c14:=h.x.cell (j:=14) rfl;obtain⟨va,vc,ev,-,-⟩:=(SlR.of_own h.v).shape;rw[ev]at c14;have HB0:=lhd (Below.refl W.heap.size W);clear h hf;go_enter Tryz.func55,Tryz.ntmps55;go_wp2_with fail;go_loopw [12] (fun i wr=>∃k:Nat,k≤u.V.length∧i=.int .i64 k∧ze0 (fitE u.G) (u.V.drop k)=ze0 (fitE u.G) u.V∧Below W.heap.size W wr) (fun i _=>u.V.length-(intOf i).toNat)
 case atStart=>exact⟨0,Nat.zero_le _,rfl,rfl,HB0.out⟩
 case round=>
  obtain⟨k,hk,rfl,hgo,hb⟩:=hrel;have HB:=lhd hb;have HGO:=lhd hgo;clear hgo hb c14;by_cases hlt:k<u.V.length
  ·have HI2:=lhd (HI.out.next HB.out);obtain⟨g,c,ev2,hg1,hg2,d0,d1,d2,d3,d4,d5,d6⟩:=HI2.out.vr hlt;rw[ev]at ev2;injection ev2 with ev2 _ ev3;subst ev2 ev3;obtain⟨hs1,hs2⟩:=HF.out _ (List.getElem_mem hlt);have HG1:=lhd (ze1 (f:=fitE u.G) hlt);rw[HGO.out]at HG1;generalize u.V[k]=x at*;obtain⟨nm,ty,sc,sg,rg,mb,lb⟩:=x;dsimp only at d0 d1 d2 d3 d4 d5 d6 hs1 hs2;obtain⟨m,rfl⟩:∃m:Nat,sg=m:=⟨sg.toNat,by omega⟩;have hm:m<q.M.length:=by rw[HI2.out.ml];omega
   obtain⟨gg,gc,eg,hh1,hh2,s0,s1,s2,s3⟩:=HI2.out.sg hm;obtain⟨xa,xc,ex,-,-⟩:=s3.shape;rw[ex]at s2;clear s3;have c15:=HI2.out.x.cell (j:=15) rfl;rw[eg]at c15;have hML:q.M.length≤1000:=by rw[HI2.out.ml];exact hl2
   have HSG:=lhd (show sgI u.G (m:Int)=q.M[m].1 by
    unfold sgI;rw[←HI2.out.m,Int.toNat_natCast];simp[List.getD,hm])
   have HFT:=lhd (show fitE u.G ⟨nm,ty,sc,(m:Int),rg,mb,lb⟩=if q.M[m].1.1≠zhd ty∨(rg=true∧q.M[m].1.1≠0)then 7 else if rg=true∧q.M[m].1.2.1≠zq9 mb lb then 8 else 0 by
    unfold fitE;rw[HSG.out])
   clear ex;generalize q.M[m].1.2.2.length=xn at*;generalize q.M[m].1=y at*;obtain⟨kd,wd,cl⟩:=y;dsimp only at s0 s1 s2 HFT;clear HSG;have hgz:=HI2.out.lt;have X4:=lhd (zas.fresh wr #[.string (bsB nm),.int .i64 ty,.int .i64 sc,.int .i64 (m:Int),.bool rg,.int .i64 mb,.int .i64 lb] 42);have hb4:Below wr.heap.size wr (wr.alloc (.cells #[.string (bsB nm),.int .i64 ty,.int .i64 sc,.int .i64 (m:Int),.bool rg,.int .i64 mb,.int .i64 lb] 42)):=(Below.refl _ _).alloc (Nat.le_refl _) _;have hz4:wr.heap.size<(wr.alloc (.cells #[.string (bsB nm),.int .i64 ty,.int .i64 sc,.int .i64 (m:Int),.bool rg,.int .i64 mb,.int .i64 lb] 42)).heap.size:=by simp
   go_wp2_with fail;generalize wr.alloc (.cells #[.string (bsB nm),.int .i64 ty,.int .i64 sc,.int .i64 (m:Int),.bool rg,.int .i64 mb,.int .i64 lb] 42)=w4 at*;have e3:=X4.out.cell (j:=3) rfl;rw[←hb4.cell (p:=⟨gg,m*3,none⟩) hh2]at s0;rw[←hb4.cell (p:=⟨gg,m*3+1,none⟩) hh2]at s1;rw[←hb4.cell (p:=⟨gg,m*3+2,none⟩) hh2]at s2;rw[←hb4.cell (p:=⟨w.heap.size,15,none⟩) hgz]at c15;have HB4:=lhd hb4;have hz6:w.heap.size<w4.heap.size:=Nat.lt_trans hgz hz4;have hz7:gg<w4.heap.size:=Nat.lt_trans hh2 hz4;clear d0 d1 d2 d3 d4 d5 d6 hb4;go_region
   have X5:=lhd (zas.fresh w4 #[.int .i64 kd,.int .i64 wd,.slice xa xn xc] 45).drew;have hb5:Below w4.heap.size w4 (w4.alloc (.cells #[.int .i64 kd,.int .i64 wd,.slice xa xn xc] 45)).drew:=((Below.refl _ _).alloc (Nat.le_refl _) _).drew;have hz5:w4.heap.size<(w4.alloc (.cells #[.int .i64 kd,.int .i64 wd,.slice xa xn xc] 45)).drew.heap.size:=by show _<(w4.alloc _).heap.size;simp
   generalize (w4.alloc (.cells #[.int .i64 kd,.int .i64 wd,.slice xa xn xc] 45)).drew=w5 at*;have X4:=lhd (X4.out.below hb5 hz4);have HB5:=lhd (HB.out.trans ((HB4.out.trans (hb5.mono HB4.out.size)).mono HB.out.size));clear s0 s1 s2 c15 e3 hb5 HB4;have r1:=X4.out.cell (j:=1) rfl;have r4:=X4.out.cell (j:=4) rfl;have r5:=X4.out.cell (j:=5) rfl;have r6:=X4.out.cell (j:=6) rfl;have v0:=X5.out.cell (j:=0) rfl;have v1:=X5.out.cell (j:=1) rfl;have HKD:=lhd (fun W=>zpl ty W);have HWI:=lhd (fun W=>ziJ mb lb W);generalize zhd ty=kf at*;generalize zq9 mb lb=wf at*;by_cases hA:kd=kf
   ·subst hA;cases rg with
    |false=>
     have hR:=HG1.out;simp[HFT.out]at hR;have HR:=lhd hR.symm;clear hR;go_wp2_with fail;go_quiet ((go_at_call 16;exact Calls.quiet_of_same ((HKD.out _).mono (by rintro e w ⟨rfl,rfl⟩;exact⟨rfl,rfl⟩))))
     have HB6:=lhd (zby HB5.out nq);have q4:=(World.cell?_drewN w5 nq _).trans r4;have q5:=(World.cell?_drewN w5 nq _).trans r5;have q6:=(World.cell?_drewN w5 nq _).trans r6;have y1:=(World.cell?_drewN w5 nq _).trans v1;generalize w5.drewN nq=w6 at*;clear r1 r4 r5 r6 v0 v1;go_wp2_with fail;go_quiet (fail);clear q4 q5 q6 y1;have HB7:=lhd (zby HB6.out nq);go_wp2_with fail;go_roundw;case rel=>exact⟨k+1,hlt,by go_num,HR.out,HB7.out⟩
     case measure=>simp[intOf];omega
    |true=>
     by_cases hk0:kd=0
     ·subst hk0;by_cases hw:wd=wf
      ·subst hw;have hR:=HG1.out;simp[HFT.out]at hR;have HR:=lhd hR.symm;clear hR;go_wp2_with fail;go_quiet ((go_at_call 16;exact Calls.quiet_of_same ((HKD.out _).mono (by rintro e w ⟨rfl,rfl⟩;exact⟨rfl,rfl⟩))))
       have HB6:=lhd (zby HB5.out nq);have q4:=(World.cell?_drewN w5 nq _).trans r4;have q5:=(World.cell?_drewN w5 nq _).trans r5;have q6:=(World.cell?_drewN w5 nq _).trans r6;have y1:=(World.cell?_drewN w5 nq _).trans v1;generalize w5.drewN nq=w6 at*;clear r1 r4 r5 r6 v0 v1;go_wp2_with fail;go_quiet ((go_at_call 122;exact Calls.quiet_of_same ((HWI.out _).mono (by rintro e w ⟨rfl,rfl⟩;exact⟨rfl,rfl⟩))))
       clear q4 q5 q6 y1;have HB7:=lhd (zby HB6.out nq);go_wp2_with fail;go_roundw;case rel=>exact⟨k+1,hlt,by go_num,HR.out,HB7.out⟩
       case measure=>simp[intOf];omega
      ·have bw:(wd==wf)=false:=by simpa using hw
       have hR:=HG1.out;simp[HFT.out,hw]at hR;have HR:=lhd hR.symm;clear hR;go_wp2_with fail;go_quiet ((go_at_call 16;exact Calls.quiet_of_same ((HKD.out _).mono (by rintro e w ⟨rfl,rfl⟩;exact⟨rfl,rfl⟩))))
       have HB6:=lhd (zby HB5.out nq);have q4:=(World.cell?_drewN w5 nq _).trans r4;have q5:=(World.cell?_drewN w5 nq _).trans r5;have q6:=(World.cell?_drewN w5 nq _).trans r6;have y1:=(World.cell?_drewN w5 nq _).trans v1;generalize w5.drewN nq=w6 at*;clear r1 r4 r5 r6 v0 v1;go_wp2_with fail;go_quiet ((go_at_call 122;exact Calls.quiet_of_same ((HWI.out _).mono (by rintro e w ⟨rfl,rfl⟩;exact⟨rfl,rfl⟩))))
       clear q4 q5 q6 y1;have HB7:=lhd (zby HB6.out nq);have HI7:=lhd (HI.out.next HB7.out);go_wp2_with fail;go_ret;exact⟨zlF HR.out,HI7.out.b,fun h=>by rw[←HR.out]at h;cases h⟩
     ·have bk0:(kd==0)=false:=by simpa using hk0
      have hR:=HG1.out;rw[HFT.out,if_pos (Or.inr ⟨rfl,hk0⟩),if_pos (by decide)]at hR;have HR:=lhd hR.symm;clear hR;go_wp2_with fail;go_quiet ((go_at_call 16;exact Calls.quiet_of_same ((HKD.out _).mono (by rintro e w ⟨rfl,rfl⟩;exact⟨rfl,rfl⟩))))
      have HB6:=lhd (zby HB5.out nq);have HI6:=lhd (HI.out.next HB6.out);clear r1 r4 r5 r6 v0 v1;go_wp2_with fail;go_ret;exact⟨zlF HR.out,HI6.out.b,fun h=>by rw[←HR.out]at h;cases h⟩
   ·have bA:(kd==kf)=false:=by simpa using hA
    have hR:=HG1.out;rw[HFT.out,if_pos (Or.inl hA),if_pos (by decide)]at hR;have HR:=lhd hR.symm;clear hR;go_wp2_with fail;go_quiet ((go_at_call 16;exact Calls.quiet_of_same ((HKD.out _).mono (by rintro e w ⟨rfl,rfl⟩;exact⟨rfl,rfl⟩))))
    have HB6:=lhd (zby HB5.out nq);have HI6:=lhd (HI.out.next HB6.out);clear r1 r4 r5 r6 v0 v1;go_wp2_with fail;go_ret;exact⟨zlF HR.out,HI6.out.b,fun h=>by rw[←HR.out]at h;cases h⟩
  ·obtain rfl:k=u.V.length:=by omega
   have HR:=lhd (show(0:Int)=ze0 (fitE u.G) u.V by rw[←HGO.out,List.drop_length];rfl);have HI2:=lhd (HI.out.next HB.out);go_wp2_with fail;go_ret;exact⟨zlF HR.out,HI2.out.b,fun _=>⟨q,HI2.out,rfl⟩⟩
end Go.Proofs.YtbiadennhnokhaaGreatDoor
