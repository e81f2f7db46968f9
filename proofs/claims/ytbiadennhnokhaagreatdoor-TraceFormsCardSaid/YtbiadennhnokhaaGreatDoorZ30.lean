import Derived.Test.YtbiadennhnokhaaGreatDoorZ00
import Derived.ChangeSame
import Derived.Deep.Fields
import Derived.Deep.Slices
import Derived.Lib.SmallJoins
import Derived.SizedLaws
import Derived.Test.YtbiadennhnokhaaGreatDoorZ28
set_option maxRecDepth 100000
set_option maxHeartbeats 16000000
namespace Go.Proofs.YtbiadennhnokhaaGreatDoor
open Go.RowKit
set_option linter.unusedSimpArgs false
theorem zhl (x:Int) (h1: -1099511627779≤x) (h2:x≤1099511627779):IntKind.i64.wrap x=x:=IntWalk.i64_in _ (by omega)
theorem zlT (s:Sg) (u:Value) (g:Gp) (w:World) (hs:SlR w u s.2.2.length (chs s.2.2)) (hl:s.2.2.length≤1000000) (h0:0≤g.1) (h1:g.1<g.2) (h2:g.2≤1099511627777):
 Calls Tryz.prog 70 #[.agg #[.int .i64 s.1,.int .i64 s.2.1,u],.agg #[.int .i64 g.1,.int .i64 g.2]] w fun e w'=>e=.returned (.bool (zkB s g))∧Below w.heap.size w w':=by
 obtain⟨R,hR⟩:∃R,R=zkB s g:=⟨_,rfl⟩;rw[←hR];unfold zkB at hR;obtain⟨k,n,l⟩:=s;obtain⟨ga,gb⟩:=g;dsimp only at*;obtain⟨a,cap,rfl,-,-⟩:=hs.shape;have HS:=lhd hs;have HRR:=lhd hR;have hb4:Below w.heap.size w (w.alloc (.cells #[.int .i64 k,.int .i64 n,.slice a l.length cap] 45)):=(Below.refl _ _).alloc (Nat.le_refl _) _;have HX4:=lhd (zal.fresh w #[.int .i64 k,.int .i64 n,.slice a l.length cap] 45);have HSZ:=lhd (show(w.alloc (.cells #[.int .i64 k,.int .i64 n,.slice a l.length cap] 45)).heap.size=w.heap.size+1 by simp);have HB4:=lhd hb4;clear hs hR hb4;go_enter Tryz.func70,Tryz.ntmps70;go_upto_region 1 with fail;generalize w.alloc (.cells #[.int .i64 k,.int .i64 n,.slice a l.length cap] 45)=w4 at*;have X5:=zal.fresh w4 #[.int .i64 ga,.int .i64 gb] 57;have hb5:Below w4.heap.size w4 (w4.alloc (.cells #[.int .i64 ga,.int .i64 gb] 57)):=(Below.refl _ _).alloc (Nat.le_refl _) _;generalize w4.alloc (.cells #[.int .i64 ga,.int .i64 gb] 57)=w5 at*;rw[HSZ.out]at X5;have X4:=HX4.out.below hb5 (by rw[HSZ.out];omega);have HB5:=lhd (zem HB4.out hb5);have s0:=X4.cell (j:=0) rfl;have s1:=X4.cell (j:=1) rfl;have s2:=X4.cell (j:=2) rfl;have g0:=X5.cell (j:=0) rfl;have g1:=X5.cell (j:=1) rfl;clear X4 X5 hb5 HX4 HB4 HSZ;by_cases hk:k=0
 rotate_left
 ·have hkb:(k==0)=false:=by rw[beq_eq_false_iff_ne];exact hk
  have HR:=lhd (show R=true by rw[HRR.out,if_neg hk]);clear hk;go_wp2_with fail;go_ret;exact⟨zli HR.out.symm,HB5.out⟩
 subst hk;have SF:=lhd (fun W (hW:Below w5.heap.size w5 W)=>And.intro ((hW.cell (zbT s0)).trans s0) (And.intro ((hW.cell (zbT s1)).trans s1) (And.intro ((hW.cell (zbT s2)).trans s2) (And.intro ((hW.cell (zbT g0)).trans g0) ((hW.cell (zbT g1)).trans g1)))));have HVL:=lhd (fun W (hW:Below w5.heap.size w5 W)=>zk2 0 n _ l ga W (HS.out.below (zem HB5.out hW)));have HIN:=lhd (fun W (_:Below w5.heap.size w5 W)=>zle 0 n W);have HPT:=lhd (fun W (hW:Below w5.heap.size w5 W)=>zkX _ l (ga+1) (gb-1) W (HS.out.below (zem HB5.out hW)) hl);have hwa:=zhl (ga+1) (by omega) (by omega);have hwb:=zhl (gb-1) (by omega) (by omega);have hbq:Below w5.heap.size w5 w5.drew:=(Below.refl _ _).drew;have HRQ:=lhd (show R=(decide (val (vi 0 n) l ga=vi 0 n)&&decide ((zjP l (ga+1) (gb-1)).length=0))by rw[HRR.out,if_pos rfl]);clear HRR;go_upto_region 3 with fail;refine wp_region_held_drew (S:=(fun w'=>w'.cell? ⟨w.heap.size,0,none⟩=some (.int .i64 0)∧w'.cell? ⟨w.heap.size,1,none⟩=some (.int .i64 n)∧w'.cell? ⟨w.heap.size,2,none⟩=some (.slice a l.length cap)∧w'.cell? ⟨w.heap.size+1,0,none⟩=some (.int .i64 ga)∧w'.cell? ⟨w.heap.size+1,1,none⟩=some (.int .i64 gb))) (by kernel_rfl) (SF.out _ hbq) (fun hHeld=>?_);clear s0 s1 s2 g0 g1;generalize w5.drew=w6 at*;refine tkH 0 hHeld (v:=?_) ?_ ?_;rotate_left
 ·intro w h;(try dsimp only at h);go_simp;all_goals with_reducible rfl
 simp only[tkS];refine tkH 1 hHeld (v:=?_) ?_ ?_;rotate_left
 ·intro w h;(try dsimp only at h);go_simp;all_goals with_reducible rfl
 simp only[tkS];refine tkH 2 hHeld (v:=?_) ?_ ?_;rotate_left
 ·intro w h;(try dsimp only at h);go_simp;all_goals with_reducible rfl
 simp only[tkS];refine tkH 4 hHeld (v:=?_) ?_ ?_;rotate_left
 ·intro w h;(try dsimp only at h);go_simp;all_goals with_reducible rfl
 simp only[tkS];refine tkH 5 hHeld (v:=?_) ?_ ?_;rotate_left
 ·intro w h;(try dsimp only at h);go_simp;all_goals with_reducible rfl
 simp only[tkS];refine tkH 6 hHeld (v:=?_) ?_ ?_;rotate_left
 ·intro w h;(try dsimp only at h);go_simp;all_goals with_reducible rfl
 simp only[tkS];refine tkH 7 hHeld (v:=?_) ?_ ?_;rotate_left
 ·intro w h;(try dsimp only at h);go_simp;all_goals with_reducible rfl
 simp only[tkS];refine oneH 3 (fun K hK=>?_);go_simp;refine((HVL).out _ hbq).mono ?_;rintro e w7 ⟨rfl,hb9⟩;have hbq:=zem hbq hb9;clear hHeld hb9;go_wp2_with fail;refine hK.out _ _ (SF.out _ hbq) (fun hHeld=>?_);clear hK;try simp only[tkS]
 refine oneH 8 (fun K hK=>?_);go_simp;refine((HIN).out _ hbq).mono ?_;rintro e w8 ⟨rfl,hb9⟩;have hbq:=zem hbq hb9;clear hHeld hb9;go_wp2_with fail;refine hK.out _ _ (SF.out _ hbq) (fun hHeld=>?_);clear hK;try simp only[tkS]
 by_cases he:val (vi 0 n) l ga=vi 0 n
 rotate_left
 ·have HR:=lhd (show R=false by rw[HRQ.out,decide_eq_false he,Bool.false_and]);have hss:=za1 he;have htl:¬(val (vi 0 n) l ga).toList=(vi 0 n).toList:=fun h=>by rw[h]at hss;simp at hss
  generalize val (vi 0 n) l ga=va at*;generalize vi 0 n=vb at*;refine wpAnyH_take (i:=9) (v:=.bool false) rfl (by kernel_rfl) (by kernel_rfl) (by kernel_rfl) (fun _ _ _ h=>h) (Or.inl ⟨by rfl,?_⟩) hHeld ?_
  ·intro w hSw;(try dsimp only at hSw)
   go_simp;all_goals with_reducible rfl
  simp only[tkS];refine wpAnyH_take (i:=10) (v:=.bool false) rfl (by kernel_rfl) (by kernel_rfl) (by kernel_rfl) (fun _ _ _ h=>h) (Or.inl ⟨by rfl,?_⟩) hHeld ?_
  ·intro w hSw;(try dsimp only at hSw)
   go_simp;all_goals with_reducible rfl
  simp only[tkS];refine wpAnyH_take (i:=11) (v:=undef) rfl (by kernel_rfl) (by kernel_rfl) (by kernel_rfl) (fun _ _ _ h=>h) (Or.inr ⟨by rfl,rfl⟩) hHeld ?_;simp only[tkS];refine wpAnyH_take (i:=12) (v:=undef) rfl (by kernel_rfl) (by kernel_rfl) (by kernel_rfl) (fun _ _ _ h=>h) (Or.inr ⟨by rfl,rfl⟩) hHeld ?_;simp only[tkS];refine wpAnyH_take (i:=13) (v:=undef) rfl (by kernel_rfl) (by kernel_rfl) (by kernel_rfl) (fun _ _ _ h=>h) (Or.inr ⟨by rfl,rfl⟩) hHeld ?_;simp only[tkS];refine wpAnyH_take (i:=14) (v:=undef) rfl (by kernel_rfl) (by kernel_rfl) (by kernel_rfl) (fun _ _ _ h=>h) (Or.inr ⟨by rfl,rfl⟩) hHeld ?_;simp only[tkS];refine wpAnyH_take (i:=15) (v:=undef) rfl (by kernel_rfl) (by kernel_rfl) (by kernel_rfl) (fun _ _ _ h=>h) (Or.inr ⟨by rfl,rfl⟩) hHeld ?_;simp only[tkS];refine wpAnyH_take (i:=16) (v:=undef) rfl (by kernel_rfl) (by kernel_rfl) (by kernel_rfl) (fun _ _ _ h=>h) (Or.inr ⟨by rfl,rfl⟩) hHeld ?_;simp only[tkS];refine wpAnyH_take (i:=17) (v:=undef) rfl (by kernel_rfl) (by kernel_rfl) (by kernel_rfl) (fun _ _ _ h=>h) (Or.inr ⟨by rfl,rfl⟩) hHeld ?_;simp only[tkS];refine wpAnyH_take (i:=18) (v:=undef) rfl (by kernel_rfl) (by kernel_rfl) (by kernel_rfl) (fun _ _ _ h=>h) (Or.inr ⟨by rfl,rfl⟩) hHeld ?_;simp only[tkS];refine wpAnyH_take (i:=19) (v:=undef) rfl (by kernel_rfl) (by kernel_rfl) (by kernel_rfl) (fun _ _ _ h=>h) (Or.inr ⟨by rfl,rfl⟩) hHeld ?_;simp only[tkS];refine wpAnyH_take (i:=20) (v:=undef) rfl (by kernel_rfl) (by kernel_rfl) (by kernel_rfl) (fun _ _ _ h=>h) (Or.inr ⟨by rfl,rfl⟩) hHeld ?_;simp only[tkS];refine wpAnyH_take (i:=21) (v:=undef) rfl (by kernel_rfl) (by kernel_rfl) (by kernel_rfl) (fun _ _ _ h=>h) (Or.inr ⟨by rfl,rfl⟩) hHeld ?_;simp only[tkS];refine wpAnyH_take (i:=22) (v:=.bool false) rfl (by kernel_rfl) (by kernel_rfl) (by kernel_rfl) (fun _ _ _ h=>h) (Or.inl ⟨by rfl,?_⟩) hHeld ?_
  ·intro w hSw;(try dsimp only at hSw)
   go_simp;all_goals with_reducible rfl
  simp only[tkS];refine wpAnyH_take (i:=23) (v:=.bool false) rfl (by kernel_rfl) (by kernel_rfl) (by kernel_rfl) (fun _ _ _ h=>h) (Or.inl ⟨by rfl,?_⟩) hHeld ?_
  ·intro w hSw;(try dsimp only at hSw)
   go_simp;all_goals with_reducible rfl
  simp only[tkS];refine wpAnyH_done (by kernel_rfl) ?_ _;clear hHeld;go_wp2_with fail;go_ret;exact⟨zli HR.out.symm,zem HB5.out hbq⟩
 ·have HR:=lhd (show R=decide ((zjP l (ga+1) (gb-1)).length=0)by rw[HRQ.out,decide_eq_true he,Bool.true_and]);rw[he];clear HRQ he;generalize vi 0 n=vb at*;generalize (zjP l (ga+1) (gb-1)).length=m at*;refine wpAnyH_take (i:=9) (v:=.bool true) rfl (by kernel_rfl) (by kernel_rfl) (by kernel_rfl) (fun _ _ _ h=>h) (Or.inl ⟨by rfl,?_⟩) hHeld ?_
  ·intro w hSw;(try dsimp only at hSw)
   go_simp;all_goals with_reducible rfl
  simp only[tkS];refine wpAnyH_take (i:=10) (v:=.bool true) rfl (by kernel_rfl) (by kernel_rfl) (by kernel_rfl) (fun _ _ _ h=>h) (Or.inl ⟨by rfl,?_⟩) hHeld ?_
  ·intro w hSw;(try dsimp only at hSw)
   go_simp;all_goals with_reducible rfl
  simp only[tkS];refine tkH 11 hHeld (v:=?_) ?_ ?_;rotate_left
  ·intro w h;(try dsimp only at h);go_simp;all_goals with_reducible rfl
  simp only[tkS];refine tkH 12 hHeld (v:=?_) ?_ ?_;rotate_left
  ·intro w h;(try dsimp only at h);go_simp;all_goals with_reducible rfl
  simp only[tkS];refine tkH 13 hHeld (v:=?_) ?_ ?_;rotate_left
  ·intro w h;(try dsimp only at h);go_simp;all_goals with_reducible rfl
  simp only[tkS];refine tkH 14 hHeld (v:=?_) ?_ ?_;rotate_left
  ·intro w h;(try dsimp only at h);go_simp;all_goals with_reducible rfl
  simp only[tkS];refine tkH 15 hHeld (v:=?_) ?_ ?_;rotate_left
  ·intro w h;(try dsimp only at h);go_simp;all_goals with_reducible rfl
  simp only[tkS];refine tkH 16 hHeld (v:=?_) ?_ ?_;rotate_left
  ·intro w h;(try dsimp only at h);go_simp;all_goals with_reducible rfl
  simp only[tkS];refine tkH 17 hHeld (v:=?_) ?_ ?_;rotate_left
  ·intro w h;(try dsimp only at h);go_simp;all_goals with_reducible rfl
  simp only[tkS];refine tkH 18 hHeld (v:=?_) ?_ ?_;rotate_left
  ·intro w h;(try dsimp only at h);go_simp;all_goals with_reducible rfl
  simp only[tkS];refine oneH 19 (fun K hK=>?_);go_simp;refine(HPT.out _ hbq).mono ?_;rintro e w9 ⟨v9,rfl,ho9,hb9⟩;obtain⟨a9,c9,rfl,-,-⟩:=(SlR.of_own ho9).shape;have hbq:=zem hbq hb9;clear hHeld hb9 ho9;go_wp2_with fail;refine hK.out _ _ (SF.out _ hbq) (fun hHeld=>?_);clear hK;try simp only[tkS]
  refine tkH 20 hHeld (v:=?_) ?_ ?_;rotate_left
  ·intro w h;(try dsimp only at h);go_simp;all_goals with_reducible rfl
  simp only[tkS];refine tkH 21 hHeld (v:=?_) ?_ ?_;rotate_left
  ·intro w h;(try dsimp only at h);go_simp;all_goals with_reducible rfl
  simp only[tkS];refine tkH 22 hHeld (v:=?_) ?_ ?_;rotate_left
  ·intro w h;(try dsimp only at h);go_simp;all_goals with_reducible rfl
  simp only[tkS];refine tkH 23 hHeld (v:=?_) ?_ ?_;rotate_left
  ·intro w h;(try dsimp only at h);go_simp;all_goals with_reducible rfl
  simp only[tkS];refine wpAnyH_done (by kernel_rfl) ?_ _;clear hHeld;go_wp2_with fail;go_ret;exact⟨zli (by rw[HR.out,Bool.eq_iff_iff,beq_iff_eq,decide_eq_true_iff];omega),zem HB5.out hbq⟩
end Go.Proofs.YtbiadennhnokhaaGreatDoor
