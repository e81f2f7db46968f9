import Derived.Test.YtbiadennhnokhaaGreatDoorZ00
import Derived.Test.YtbiadennhnokhaaGreatDoorZ21
set_option maxRecDepth 100000
set_option maxHeartbeats 16000000
namespace Go.Proofs.YtbiadennhnokhaaGreatDoor
open Go.RowKit
set_option linter.unusedSimpArgs false
section
variable {P : Program} {ops : Array Oper} {Q : Exit → Act → World → Prop} {md : Region.Mode} {S : World → Prop} {X : Nat → Bool}
theorem zqQ {i:Nat} {oi:Oper} {v:Value} (hi:ops[i]? =some oi) (hsel:∀(j:Nat) (o:Oper) cs b,ops[j]? =some o→o.op≠ .select cs b)
 (hQ:∀c a w,Q (.panic c) (a.put oi.dst v) w→Q (.panic c) a w) (hX:X i=true):
 ∀(fuel:Nat) (listed:Array Bool) (a:Act) (w:World),
  (∀j oj,ops[j]? =some oj→j≠i→listed.getD j true=false→(∀e∈oj.after,Region.binds md e=true→e.on≠i)→oi.apart ops oj=true)→
  i∈Region.ready md ops listed→YieldsIf P ops (fun _=>True) oi v a→
  zqO P md ops Q S X fuel (listed.setIfInBounds i true) (a.put oi.dst v) w→zqO P md ops Q S X (fuel+1) listed a w:=by
 intro fuel;induction fuel with
 |zero=>
  intro listed a w _ hr hy H;refine⟨fun h=>(by rw[h]at hr;cases hr),fun j hj=>?_⟩;by_cases hji:j=i
  ·subst hji;exact hy.wpOp hi trivial ⟨fun h=>(by rw[hX]at h;cases h),H⟩
  ·have:=ready_mono hj hji;rw[H.1]at this;cases this
 |succ fuel ih=>
  intro listed a w hfree hr hy H;refine⟨fun h=>(by rw[h]at hr;cases hr),fun j hj=>?_⟩;by_cases hji:j=i
  ·subst hji;exact hy.wpOp hi trivial ⟨fun h=>(by rw[hX]at h;cases h),H⟩
  ·have h1:=H.2 j (ready_mono hj hji);obtain⟨hjun,oj,hoj,hall⟩:=mem_ready.1 hj
   have hnot:∀e∈oj.after,Region.binds md e=true→e.on≠i:=fun e he hb heq=>by
    have h1:=hall e he hb;have h0:=(mem_ready.1 hr).1;rw[heq]at h1;rcases Nat.lt_or_ge i listed.size with h'|h'
    ·simp[h']at h0 h1;rw[h0]at h1;cases h1
    ·simp[Array.getElem?_eq_none h']at h1
   have h2:=wpOp_putIf hoj (hfree j oj hoj hji hjun hnot) (fun cs b=>hsel i oi cs b hi) (fun cs b=>hsel j oj cs b hoj) hQ hy h1
   have hfree':∀k ok,ops[k]? =some ok→k≠i→(listed.setIfInBounds j true).getD k true=false→
    (∀e∈ok.after,Region.binds md e=true→e.on≠i)→oi.apart ops ok=true:=fun k ok hk hki hun hno=>by
    refine hfree k ok hk hki ?_ hno;by_cases hjk:j=k
    ·subst hjk;exact hjun
    ·rw[getD_set_ne true hjk]at hun;exact hun
   refine wpOp_mono (fun a' w' h3=>⟨h3.2.1,ih (listed.setIfInBounds j true) a' w' hfree' (ready_mono hr (Ne.symm hji)) h3.1 ?_⟩) h2;rw[Array.setIfInBounds_comm _ _ hji];exact h3.2.2
theorem zqR {i:Nat} {oi:Oper} {v:Value} {fuel:Nat} {listed:Array Bool} {a:Act} {w:World} (hi:ops[i]? =some oi)
 (hs:Region.noSelect ops=true) (hf:Region.free md ops listed i=true) (hr:(Region.ready md ops listed).contains i=true) (hX:X i=true)
 (hQ:∀c a w,Q (.panic c) (a.put oi.dst v) w→Q (.panic c) a w) (hy:YieldsIf P ops (fun _=>True) oi v a)
 (h:zqO P md ops Q S X fuel (listed.setIfInBounds i true) (a.put oi.dst v) w):zqO P md ops Q S X (fuel+1) listed a w:=
 zqQ hi (Region.noSelect_spec hs) hQ hX fuel listed a w (Region.free_spec hi hf) (by simpa using hr) hy h
end
theorem zba {w w':World} {B e size n:Nat} {v:Value} {xs:List Value} (h:w.ownsRow B e size v n xs) (hb:Below w.heap.size w w'):w'.ownsRow B e size v n xs:=zjF h (Same0.of_below hb)
theorem zal.other {w:World} {b:Nat} {xs:List Value} (h:zal w b xs) {a:Addr} (hne:a.block≠b) (u:Value):zal (w.setCell a u) b xs:=by
 intro i v hi;refine⟨?_,by rw[World.frozen?_setCell];exact(h i v hi).2⟩;rw[World.cell?_setCell_other (h:=by rintro rfl;exact hne rfl)];exact(h i v hi).1
theorem zjA {w:World} {B e size n:Nat} {v:Value} {xs:List Value} (h:w.ownsRow B e size v n xs) {g:Nat} (hg:v.ownBlock=some g):B≤g∧g<w.heap.size:=by
 rcases h.2 with⟨rfl,-⟩|⟨g',cap,cur,rfl,hb,hh,-⟩
 ·cases hg
 ·obtain rfl:g'=g:=by simpa[Value.ownBlock] using hg
  exact⟨hb,(Array.getElem?_eq_some_iff.1 hh).1⟩
theorem zjB {w:World} {B B' e e' size size' n n' g:Nat} {v v':Value} {xs xs':List Value} (h:w.ownsRow B e size v n xs) (h':w.ownsRow B' e' size' v' n' xs') (hne:e≠e') (hg:v'.ownBlock=some g):v.ownBlock≠some g:=by
 intro h0;rcases zjw h h' hne with h1|h1
 ·rw[h1]at h0;cases h0
 ·exact h1 (h0.trans hg.symm)
theorem zm5 (A D:List (Sg×Value)) (x:Sg) (v u:Value):(sgs (A++(x,v)::D)).set (A.length*3+2) u=sgs (A++(x,u)::D):=by
 rw[zmX,zmX,zmZ,zmZ,List.set_append,if_neg (by rw[zm0];omega),zm0,show A.length*3+2-3*A.length=2 by omega];rfl
structure TrO (B:Nat) (w:World) (t:Tr) (p:TP):Prop where
 s:w.ownsRow B 55 3 p.vs t.S.length (scs t.S)
 v:w.ownsRow B 42 7 p.vv t.V.length (vrs t.V)
 g:w.ownsRow B 45 3 p.vg p.M.length (sgs p.M)
 c:∀x∈p.M,w.ownsRow B 53 2 x.2 x.1.2.2.length (chs x.1.2.2)
 q:w.ownsRow B 57 2 p.vp t.P.length (gps t.P)
 m:p.M.map Prod.fst=t.G
theorem TrO.m0 {B:Nat} {w:World} {t:Tr} {p:TP} (h:TrO B w t p):TrM w t p:=⟨SlR.of_own h.s,SlR.of_own h.v,⟨SlR.of_own h.g,fun x hx=>SlR.of_own (h.c x hx)⟩,SlR.of_own h.q,h.m⟩
def FitT (t:Tr):Prop:=t.S.length≤1000∧t.V.length≤1000∧t.G.length≤1000∧t.P.length≤1000∧∀s∈t.G,s.2.2.length≤100000
def set9 (W:World) (b:Nat) (u0 u1 u2 u3 u4 u5 u6 u7 u8:Value):World:=((((((((W.setCell ⟨b,0,none⟩ u0).setCell ⟨b,1,none⟩ u1).setCell ⟨b,2,none⟩ u2).setCell ⟨b,3,none⟩ u3).setCell ⟨b,4,none⟩ u4).setCell ⟨b,5,none⟩ u5).setCell ⟨b,6,none⟩ u6).setCell ⟨b,7,none⟩ u7).setCell ⟨b,8,none⟩ u8
theorem zmS {W:World} {b:Nat} {z0 z1 z2 z3 z4 z5 z6 z7 z8:Value} (h:zal W b [z0,z1,z2,z3,z4,z5,z6,z7,z8]) (u0 u1 u2 u3 u4 u5 u6 u7 u8:Value):zal (set9 W b u0 u1 u2 u3 u4 u5 u6 u7 u8) b [u0,u1,u2,u3,u4,u5,u6,u7,u8]:=
 ((((((((h.set (j:=0) (by simp) u0).set (j:=1) (by simp) u1).set (j:=2) (by simp) u2).set (j:=3) (by simp) u3).set (j:=4) (by simp) u4).set (j:=5) (by simp) u5).set (j:=6) (by simp) u6).set (j:=7) (by simp) u7).set (j:=8) (by simp) u8
theorem zmR {W:World} {b B e size n:Nat} {v:Value} {xs:List Value} (h:W.ownsRow B e size v n xs) (hb:b<B) (u0 u1 u2 u3 u4 u5 u6 u7 u8:Value):(set9 W b u0 u1 u2 u3 u4 u5 u6 u7 u8).ownsRow B e size v n xs:=
 ownsRow_setCell_below (ownsRow_setCell_below (ownsRow_setCell_below (ownsRow_setCell_below (ownsRow_setCell_below (ownsRow_setCell_below (ownsRow_setCell_below (ownsRow_setCell_below (ownsRow_setCell_below h hb u0) hb u1) hb u2) hb u3) hb u4) hb u5) hb u6) hb u7) hb u8
theorem zmQ {B:Nat} {w W:World} {b:Nat} (h:Below B w W) (hb:B≤b) (u0 u1 u2 u3 u4 u5 u6 u7 u8:Value):Below B w (set9 W b u0 u1 u2 u3 u4 u5 u6 u7 u8):=
 ((((((((h.setCell hb u0).setCell hb u1).setCell hb u2).setCell hb u3).setCell hb u4).setCell hb u5).setCell hb u6).setCell hb u7).setCell hb u8
structure ClI (w:World) (B:Nat) (t:Tr) (v1 v2 v3 v4:Value) (M:List (Sg×Value)) (k:Nat) (W:World):Prop where
 x:zal W w.heap.size [.int .i64 t.sc,.string (bsB t.dt),.string (bsB t.vn),.string (bsB t.cm),v1,v2,v3,v4,.int .i64 t.en]
 y:zal W (w.heap.size+1) [.int .i64 0,.string ⟨#[]⟩,.string ⟨#[]⟩,.string ⟨#[]⟩,.slice none 0 0,.slice none 0 0,.slice none 0 0,.slice none 0 0,.int .i64 0]
 s:W.ownsRow B 55 3 v1 t.S.length (scs t.S)
 v:W.ownsRow B 42 7 v2 t.V.length (vrs t.V)
 q:W.ownsRow B 57 2 v4 t.P.length (gps t.P)
 g:∃A:List (Sg×Value),A.length=k∧(A++M.drop k).map Prod.fst=t.G∧W.ownsRow B 45 3 v3 M.length (sgs (A++M.drop k))∧∀x∈A,W.ownsRow B 53 2 x.2 x.1.2.2.length (chs x.1.2.2)
 b:Below w.heap.size w W
theorem zo2 (t:Tr) (p:TP) (w:World) (ht:TrM w t p) (hf:FitT t):Calls Tryz.prog 30 #[p.v t] w fun e w'=>∃p',e=.returned (p'.v t)∧TrO w.heap.size w' t p'∧Below w.heap.size w w':=by
 obtain⟨hs,hv,hg,hq,hm⟩:=ht;obtain⟨f1,f2,f3,f4,f5⟩:=hf;obtain⟨sc,dt,vn,cm,S,V,G,P,en⟩:=t;obtain⟨ps,pv,pg,pp,M⟩:=p;unfold TP.v;dsimp only at*;obtain⟨a1,c1,rfl,-,-⟩:=hs.shape;obtain⟨a2,c2,rfl,-,-⟩:=hv.shape;obtain⟨a3,c3,rfl,-,-⟩:=hg.s.shape;obtain⟨a4,c4,rfl,-,-⟩:=hq.shape;have HML:=lhd (show M.length=G.length by rw[←hm,List.length_map]);have HM:=lhd hm;have hML:M.length≤1000:=by rw[HML.out];exact f3
 clear hm;have hal:Below w.heap.size w ((w.alloc (.cells #[.int .i64 sc,.string (bsB dt),.string (bsB vn),.string (bsB cm),.slice a1 S.length c1,.slice a2 V.length c2,.slice a3 M.length c3,.slice a4 P.length c4,.int .i64 en] 27)).alloc (.cells #[.int .i64 0,.string ⟨#[]⟩,.string ⟨#[]⟩,.string ⟨#[]⟩,.slice none 0 0,.slice none 0 0,.slice none 0 0,.slice none 0 0,.int .i64 0] 27)):=((Below.refl _ _).alloc (Nat.le_refl _) _).alloc (by simp) _;have X1:=lhd ((zal.fresh w #[.int .i64 sc,.string (bsB dt),.string (bsB vn),.string (bsB cm),.slice a1 S.length c1,.slice a2 V.length c2,.slice a3 M.length c3,.slice a4 P.length c4,.int .i64 en] 27).below ((Below.refl _ _).alloc (Nat.le_refl _) (.cells #[.int .i64 0,.string ⟨#[]⟩,.string ⟨#[]⟩,.string ⟨#[]⟩,.slice none 0 0,.slice none 0 0,.slice none 0 0,.slice none 0 0,.int .i64 0] 27)) (by simp));have Y1:=zal.fresh (w.alloc (.cells #[.int .i64 sc,.string (bsB dt),.string (bsB vn),.string (bsB cm),.slice a1 S.length c1,.slice a2 V.length c2,.slice a3 M.length c3,.slice a4 P.length c4,.int .i64 en] 27)) #[.int .i64 0,.string ⟨#[]⟩,.string ⟨#[]⟩,.string ⟨#[]⟩,.slice none 0 0,.slice none 0 0,.slice none 0 0,.slice none 0 0,.int .i64 0] 27;rw[World.size_alloc]at Y1;have Y1:=lhd Y1;go_enter Tryz.func30,Tryz.ntmps30;go_wp2_with fail;have hzb:w.heap.size+1<((w.alloc (.cells #[.int .i64 sc,.string (bsB dt),.string (bsB vn),.string (bsB cm),.slice a1 S.length c1,.slice a2 V.length c2,.slice a3 M.length c3,.slice a4 P.length c4,.int .i64 en] 27)).alloc (.cells #[.int .i64 0,.string ⟨#[]⟩,.string ⟨#[]⟩,.string ⟨#[]⟩,.slice none 0 0,.slice none 0 0,.slice none 0 0,.slice none 0 0,.int .i64 0] 27)).heap.size:=by simp
 generalize (w.alloc (.cells #[.int .i64 sc,.string (bsB dt),.string (bsB vn),.string (bsB cm),.slice a1 S.length c1,.slice a2 V.length c2,.slice a3 M.length c3,.slice a4 P.length c4,.int .i64 en] 27)).alloc (.cells #[.int .i64 0,.string ⟨#[]⟩,.string ⟨#[]⟩,.string ⟨#[]⟩,.slice none 0 0,.slice none 0 0,.slice none 0 0,.slice none 0 0,.int .i64 0] 27)=Wb at*;have d4:=X1.out.cell (j:=4) rfl;have d5:=X1.out.cell (j:=5) rfl;have d6:=X1.out.cell (j:=6) rfl;have d7:=X1.out.cell (j:=7) rfl;refine zq0 (S:=fun w'=>w'.cell? ⟨w.heap.size,4,none⟩=some (.slice a1 S.length c1)∧w'.cell? ⟨w.heap.size,5,none⟩=some (.slice a2 V.length c2)∧w'.cell? ⟨w.heap.size,6,none⟩=some (.slice a3 M.length c3)∧w'.cell? ⟨w.heap.size,7,none⟩=some (.slice a4 P.length c4)) (X:=fun j=>decide (12≤j)) (by kernel_rfl) ?_;have HS:=lhd (show Wb.drew.cell? ⟨w.heap.size,4,none⟩=some (.slice a1 S.length c1)∧Wb.drew.cell? ⟨w.heap.size,5,none⟩=some (.slice a2 V.length c2)∧Wb.drew.cell? ⟨w.heap.size,6,none⟩=some (.slice a3 M.length c3)∧Wb.drew.cell? ⟨w.heap.size,7,none⟩=some (.slice a4 P.length c4)from⟨d4,d5,d6,d7⟩);refine zqT (i:=0) (v:=?_) rfl (by kernel_rfl) (by kernel_rfl) (by kernel_rfl) (by kernel_rfl) (fun _ _ _ h=>h) (Or.inl ⟨by rfl,?_⟩) HS.out ?_;rotate_left
 ·intro w hSw;(try dsimp only at hSw)
  go_simp;all_goals with_reducible rfl
 simp only[tkS];refine zqT (i:=1) (v:=?_) rfl (by kernel_rfl) (by kernel_rfl) (by kernel_rfl) (by kernel_rfl) (fun _ _ _ h=>h) (Or.inl ⟨by rfl,?_⟩) HS.out ?_;rotate_left
 ·intro w hSw;(try dsimp only at hSw)
  go_simp;all_goals with_reducible rfl
 simp only[tkS];refine zqT (i:=3) (v:=?_) rfl (by kernel_rfl) (by kernel_rfl) (by kernel_rfl) (by kernel_rfl) (fun _ _ _ h=>h) (Or.inl ⟨by rfl,?_⟩) HS.out ?_;rotate_left
 ·intro w hSw;(try dsimp only at hSw)
  go_simp;all_goals with_reducible rfl
 simp only[tkS];refine zqT (i:=4) (v:=?_) rfl (by kernel_rfl) (by kernel_rfl) (by kernel_rfl) (by kernel_rfl) (fun _ _ _ h=>h) (Or.inl ⟨by rfl,?_⟩) HS.out ?_;rotate_left
 ·intro w hSw;(try dsimp only at hSw)
  go_simp;all_goals with_reducible rfl
 simp only[tkS];refine zqT (i:=6) (v:=?_) rfl (by kernel_rfl) (by kernel_rfl) (by kernel_rfl) (by kernel_rfl) (fun _ _ _ h=>h) (Or.inl ⟨by rfl,?_⟩) HS.out ?_;rotate_left
 ·intro w hSw;(try dsimp only at hSw)
  go_simp;all_goals with_reducible rfl
 simp only[tkS];refine zqT (i:=7) (v:=?_) rfl (by kernel_rfl) (by kernel_rfl) (by kernel_rfl) (by kernel_rfl) (fun _ _ _ h=>h) (Or.inl ⟨by rfl,?_⟩) HS.out ?_;rotate_left
 ·intro w hSw;(try dsimp only at hSw)
  go_simp;all_goals with_reducible rfl
 simp only[tkS];refine zqT (i:=9) (v:=?_) rfl (by kernel_rfl) (by kernel_rfl) (by kernel_rfl) (by kernel_rfl) (fun _ _ _ h=>h) (Or.inl ⟨by rfl,?_⟩) HS.out ?_;rotate_left
 ·intro w hSw;(try dsimp only at hSw)
  go_simp;all_goals with_reducible rfl
 simp only[tkS];refine zqT (i:=10) (v:=?_) rfl (by kernel_rfl) (by kernel_rfl) (by kernel_rfl) (by kernel_rfl) (fun _ _ _ h=>h) (Or.inl ⟨by rfl,?_⟩) HS.out ?_;rotate_left
 ·intro w hSw;(try dsimp only at hSw)
  go_simp;all_goals with_reducible rfl
 simp only[tkS];refine zqS (i:=2) (by kernel_rfl) rfl (fun K hK=>?_);go_simp;refine(zc6 _ S Wb.drew (hs.below hal.drew) (by omega) (zmB S)).mono ?_;rintro e w1 ⟨v1,rfl,o1,b1⟩;have X2:=lhd (X1.out.drew.below b1 (Nat.lt_of_succ_lt hzb));have Y2:=lhd (Y1.out.drew.below b1 hzb);have hal1:=hal.drew.trans (b1.mono hal.size);have z1:=b1.size;have HS1:=lhd (show w1.cell? ⟨w.heap.size,4,none⟩=some (.slice a1 S.length c1)∧w1.cell? ⟨w.heap.size,5,none⟩=some (.slice a2 V.length c2)∧w1.cell? ⟨w.heap.size,6,none⟩=some (.slice a3 M.length c3)∧w1.cell? ⟨w.heap.size,7,none⟩=some (.slice a4 P.length c4)from⟨X2.out.cell (j:=4) rfl,X2.out.cell (j:=5) rfl,X2.out.cell (j:=6) rfl,X2.out.cell (j:=7) rfl⟩);dsimp only;refine hK.out _ _ (fun _=>HS1.out) ?_;clear hK;try simp only[tkS]
 refine zqR (i:=12) (v:=?_) rfl (by kernel_rfl) (by kernel_rfl) (by kernel_rfl) rfl (fun _ _ _ h=>h) (Or.inl ⟨by rfl,?_⟩) ?_;rotate_left
 ·intro w hSw;go_simp;all_goals with_reducible rfl
 simp only[tkS];refine zqS (i:=5) (by kernel_rfl) rfl (fun K hK=>?_);go_simp;refine(zc8 _ V w1 (hv.below hal1) (by omega) (zqv V)).mono ?_;rintro e w2 ⟨v2,rfl,o2,b2⟩;have X3:=lhd (X2.out.below b2 (by have:=b1.size;have:Wb.drew.heap.size=Wb.heap.size:=rfl;omega));have Y3:=lhd (Y2.out.below b2 (by have:=b1.size;have:Wb.drew.heap.size=Wb.heap.size:=rfl;omega));have hal2:=hal1.trans (b2.mono hal1.size);have z2:=b2.size;have HS2:=lhd (show w2.cell? ⟨w.heap.size,4,none⟩=some (.slice a1 S.length c1)∧w2.cell? ⟨w.heap.size,5,none⟩=some (.slice a2 V.length c2)∧w2.cell? ⟨w.heap.size,6,none⟩=some (.slice a3 M.length c3)∧w2.cell? ⟨w.heap.size,7,none⟩=some (.slice a4 P.length c4)from⟨X3.out.cell (j:=4) rfl,X3.out.cell (j:=5) rfl,X3.out.cell (j:=6) rfl,X3.out.cell (j:=7) rfl⟩);dsimp only;refine hK.out _ _ (fun _=>HS2.out) ?_;clear hK;try simp only[tkS]
 refine zqS (i:=8) (by kernel_rfl) rfl (fun K hK=>?_);go_simp;refine(zc7 _ M w2 (hg.below hal2).s (by rw[HML.out];omega) (zm3 M (fun x hx=>znm (hg.m x hx)))).mono ?_;rintro e w3 ⟨v3,rfl,o3,b3⟩;have X4:=lhd (X3.out.below b3 (by have:=b1.size;have:=b2.size;have:Wb.drew.heap.size=Wb.heap.size:=rfl;omega));have Y4:=lhd (Y3.out.below b3 (by have:=b1.size;have:=b2.size;have:Wb.drew.heap.size=Wb.heap.size:=rfl;omega));have hal3:=hal2.trans (b3.mono hal2.size);have z3:=b3.size;have HS3:=lhd (show w3.cell? ⟨w.heap.size,4,none⟩=some (.slice a1 S.length c1)∧w3.cell? ⟨w.heap.size,5,none⟩=some (.slice a2 V.length c2)∧w3.cell? ⟨w.heap.size,6,none⟩=some (.slice a3 M.length c3)∧w3.cell? ⟨w.heap.size,7,none⟩=some (.slice a4 P.length c4)from⟨X4.out.cell (j:=4) rfl,X4.out.cell (j:=5) rfl,X4.out.cell (j:=6) rfl,X4.out.cell (j:=7) rfl⟩);dsimp only;refine hK.out _ _ (fun _=>HS3.out) ?_;clear hK;try simp only[tkS]
 refine zqS (i:=11) (by kernel_rfl) rfl (fun K hK=>?_);go_simp;refine(zc5 _ P w3 (hq.below hal3) (by omega) (zfg P)).mono ?_;rintro e w4 ⟨v4,rfl,o4,b4⟩;have hdz:Wb.drew.heap.size=Wb.heap.size:=rfl;have z4:=b4.size;have X5:=lhd (X4.out.below b4 (by omega));have Y5:=lhd (Y4.out.below b4 (by omega));have hal4:=hal3.trans (b4.mono hal3.size);have HS4:=lhd (show w4.cell? ⟨w.heap.size,4,none⟩=some (.slice a1 S.length c1)∧w4.cell? ⟨w.heap.size,5,none⟩=some (.slice a2 V.length c2)∧w4.cell? ⟨w.heap.size,6,none⟩=some (.slice a3 M.length c3)∧w4.cell? ⟨w.heap.size,7,none⟩=some (.slice a4 P.length c4)from⟨X5.out.cell (j:=4) rfl,X5.out.cell (j:=5) rfl,X5.out.cell (j:=6) rfl,X5.out.cell (j:=7) rfl⟩);dsimp only;have P1:=lhd (zjJ (zba (zba (zba o1 b2) b3) b4) (Nat.le_refl Wb.heap.size));have P2:=lhd (zjJ (zba (zba o2 b3) b4) (show Wb.heap.size≤_ by omega));have P3:=lhd (zjJ (zba o3 b4) (show Wb.heap.size≤_ by omega));have P4:=lhd (zjJ o4 (show Wb.heap.size≤_ by omega));have HB4:=lhd hal4;obtain⟨e1,j1,rfl,-,-⟩:=(SlR.of_own P1.out).shape;obtain⟨e2,j2,rfl,-,-⟩:=(SlR.of_own P2.out).shape;obtain⟨e3,j3,rfl,-,-⟩:=(SlR.of_own P3.out).shape;obtain⟨e4,j4,rfl,-,-⟩:=(SlR.of_own P4.out).shape;clear o1 o2 o3 o4 b1 b2 b3 b4 X1 X2 X3 X4 Y1 Y2 Y3 Y4 HS HS1 HS2 HS3 d4 d5 d6 d7 hal1 hal2 hal3 hal4 z1 z2 z3 z4 hdz;refine hK.out _ _ (fun _=>HS4.out) ?_;clear hK;try simp only[tkS]
 refine zqS (i:=13) (by kernel_rfl) rfl (fun K hK=>?_);have fr:=X5.out.free (j:=4) (by simp);have ce:=X5.out.cell (j:=4) rfl;go_simp;clear fr ce;refine hK.out _ _ (fun h=>absurd h (by decide)) ?_;clear hK;try simp only[tkS]
 have X6:=lhd (X5.out.set (j:=4) (by simp) (.slice e1 S.length j1));refine zqR (i:=14) (v:=?_) rfl (by kernel_rfl) (by kernel_rfl) (by kernel_rfl) rfl (fun _ _ _ h=>h) (Or.inl ⟨by rfl,?_⟩) ?_;rotate_left
 ·intro w hSw;go_simp;all_goals with_reducible rfl
 simp only[tkS];refine zqS (i:=15) (by kernel_rfl) rfl (fun K hK=>?_);have fr:=X6.out.free (j:=5) (by simp);have ce:=X6.out.cell (j:=5) rfl;go_simp;clear fr ce;refine hK.out _ _ (fun h=>absurd h (by decide)) ?_;clear hK;try simp only[tkS]
 have X7:=lhd (X6.out.set (j:=5) (by simp) (.slice e2 V.length j2));refine zqR (i:=16) (v:=?_) rfl (by kernel_rfl) (by kernel_rfl) (by kernel_rfl) rfl (fun _ _ _ h=>h) (Or.inl ⟨by rfl,?_⟩) ?_;rotate_left
 ·intro w hSw;go_simp;all_goals with_reducible rfl
 simp only[tkS];refine zqS (i:=17) (by kernel_rfl) rfl (fun K hK=>?_);have fr:=X7.out.free (j:=6) (by simp);have ce:=X7.out.cell (j:=6) rfl;go_simp;clear fr ce;refine hK.out _ _ (fun h=>absurd h (by decide)) ?_;clear hK;try simp only[tkS]
 have X8:=lhd (X7.out.set (j:=6) (by simp) (.slice e3 M.length j3));refine zqR (i:=18) (v:=?_) rfl (by kernel_rfl) (by kernel_rfl) (by kernel_rfl) rfl (fun _ _ _ h=>h) (Or.inl ⟨by rfl,?_⟩) ?_;rotate_left
 ·intro w hSw;go_simp;all_goals with_reducible rfl
 simp only[tkS];refine zqS (i:=19) (by kernel_rfl) rfl (fun K hK=>?_);have fr:=X8.out.free (j:=7) (by simp);have ce:=X8.out.cell (j:=7) rfl;go_simp;clear fr ce;refine hK.out _ _ (fun h=>absurd h (by decide)) ?_;clear hK;try simp only[tkS]
 have X9:=lhd (X8.out.set (j:=7) (by simp) (.slice e4 P.length j4));refine⟨by kernel_rfl,?_⟩;have hbz:w.heap.size<Wb.heap.size:=by omega
 have HLI:=lhd (show ClI w Wb.heap.size ⟨sc,dt,vn,cm,S,V,G,P,en⟩ (.slice e1 S.length j1) (.slice e2 V.length j2) (.slice e3 M.length j3) (.slice e4 P.length j4) M 0 _ from
  {x:=X9.out
   y:=by
    have hne:∀j u (Wx:World),zal Wx (w.heap.size+1) [.int .i64 0,.string ⟨#[]⟩,.string ⟨#[]⟩,.string ⟨#[]⟩,.slice none 0 0,.slice none 0 0,.slice none 0 0,.slice none 0 0,.int .i64 0]→zal (Wx.setCell ⟨w.heap.size,j,none⟩ u) (w.heap.size+1) [.int .i64 0,.string ⟨#[]⟩,.string ⟨#[]⟩,.string ⟨#[]⟩,.slice none 0 0,.slice none 0 0,.slice none 0 0,.slice none 0 0,.int .i64 0]:=fun j u Wx h=>zal.other h (by simp) u;exact hne _ _ _ (hne _ _ _ (hne _ _ _ (hne _ _ _ Y5.out)))
   s:=ownsRow_setCell_below (ownsRow_setCell_below (ownsRow_setCell_below (ownsRow_setCell_below P1.out hbz _) hbz _) hbz _) hbz _
   v:=ownsRow_setCell_below (ownsRow_setCell_below (ownsRow_setCell_below (ownsRow_setCell_below P2.out hbz _) hbz _) hbz _) hbz _
   q:=ownsRow_setCell_below (ownsRow_setCell_below (ownsRow_setCell_below (ownsRow_setCell_below P4.out hbz _) hbz _) hbz _) hbz _
   g:=⟨[],rfl,HM.out,ownsRow_setCell_below (ownsRow_setCell_below (ownsRow_setCell_below (ownsRow_setCell_below P3.out hbz _) hbz _) hbz _) hbz _,by simp⟩
   b:=(((HB4.out.setCell (by simp) _).setCell (by simp) _).setCell (by simp) _).setCell (by simp) _})
 clear X5 X6 X7 X8 X9 Y5 P1 P2 P3 P4 HB4 HS4;generalize ((((w4.setCell _ _).setCell _ _).setCell _ _).setCell _ _)=W at*;have ce:=HLI.out.x.cell (j:=6) rfl;go_wp2_with fail;go_loopw [23] (fun i wr=>∃k:Nat,k≤M.length∧i=.int .i64 k∧ClI w Wb.heap.size ⟨sc,dt,vn,cm,S,V,G,P,en⟩ (.slice e1 S.length j1) (.slice e2 V.length j2) (.slice e3 M.length j3) (.slice e4 P.length j4) M k wr) (fun i _=>M.length-(intOf i).toNat)
 case atStart=>exact⟨0,Nat.zero_le _,rfl,HLI.out⟩
 case round=>
  obtain⟨k,hk,rfl,hC⟩:=hrel;have HC:=lhd hC;clear hC ce;by_cases hlt:k<M.length
  ·obtain⟨A,hA,hN,hO,hR⟩:=HC.out.g;have hMG:M[k].1∈G:=by rw[←HM.out];exact List.mem_map_of_mem (List.getElem_mem hlt)
   have hfx:=f5 _ hMG;have hmx:=hg.m M[k] (List.getElem_mem hlt);rw[List.drop_eq_getElem_cons hlt]at hO hN;generalize M[k]=x at*;obtain⟨x,vx⟩:=x;dsimp only at hfx hmx;rcases hO.2 with⟨-,h0⟩|⟨g,cap',cur,e0,-⟩
   ·omega
   injection e0 with e0 _ e1;subst e0 e1;have hlo:=zjA hO (g:=g) rfl
   have d2:wr.cell? ⟨g,k*3+2,none⟩=some vx:=by
    obtain⟨a',c',ev,-,-,-,h4⟩:=SlR.of_own hO;obtain⟨b',o',rfl,hat⟩:=h4 (by omega);injection ev with ev _ _;injection ev with ev;injection ev with ev1 ev2 _;subst ev1 ev2;have:=hat (A.length*3+2) vx (by rw[zmX,zmZ,List.getElem?_append_right (by rw[zm0];omega),zm0,show A.length*3+2-3*A.length=2 by omega];rfl);rw[hA,Nat.zero_add]at this;exact this
   have f2:=zjz hO (k*3+2);have HO:=lhd hO;have HR:=lhd hR;have HN:=lhd hN;have HA:=lhd hA;have HMX:=lhd (hmx.below HC.out.b);have c6:=HC.out.x.cell (j:=6) rfl;have HS:=lhd (show wr.drew.cell? ⟨w.heap.size,6,none⟩=some (.slice (some ⟨g,0,none⟩) M.length j3)from c6);clear hO hR hN hA hmx;go_wp2_with fail;refine zq0 (S:=fun w'=>w'.cell? ⟨w.heap.size,6,none⟩=some (.slice (some ⟨g,0,none⟩) M.length j3)) (X:=fun j=>decide (12≤j)) (by kernel_rfl) ?_;refine zqT (i:=0) (v:=?_) rfl (by kernel_rfl) (by kernel_rfl) (by kernel_rfl) (by kernel_rfl) (fun _ _ _ h=>h) (Or.inl ⟨by rfl,?_⟩) HS.out ?_;rotate_left
   ·intro w hSw;(try dsimp only at hSw)
    go_simp;all_goals with_reducible rfl
   simp only[tkS];refine zqT (i:=1) (v:=?_) rfl (by kernel_rfl) (by kernel_rfl) (by kernel_rfl) (by kernel_rfl) (fun _ _ _ h=>h) (Or.inl ⟨by rfl,?_⟩) HS.out ?_;rotate_left
   ·intro w hSw;(try dsimp only at hSw)
    go_simp;all_goals with_reducible rfl
   simp only[tkS];refine zqT (i:=2) (v:=?_) rfl (by kernel_rfl) (by kernel_rfl) (by kernel_rfl) (by kernel_rfl) (fun _ _ _ h=>h) (Or.inl ⟨by rfl,?_⟩) HS.out ?_;rotate_left
   ·intro w hSw;(try dsimp only at hSw)
    go_simp;all_goals with_reducible rfl
   simp only[tkS];refine zqT (i:=3) (v:=?_) rfl (by kernel_rfl) (by kernel_rfl) (by kernel_rfl) (by kernel_rfl) (fun _ _ _ h=>h) (Or.inl ⟨by rfl,?_⟩) HS.out ?_;rotate_left
   ·intro w hSw;(try dsimp only at hSw)
    go_simp;all_goals with_reducible rfl
   simp only[tkS];refine zqT (i:=4) (v:=?_) rfl (by kernel_rfl) (by kernel_rfl) (by kernel_rfl) (by kernel_rfl) (fun _ _ _ h=>h) (Or.inl ⟨by rfl,?_⟩) HS.out ?_;rotate_left
   ·intro w hSw;(try dsimp only at hSw)
    go_simp;all_goals with_reducible rfl
   simp only[tkS];refine zqT (i:=5) (v:=?_) rfl (by kernel_rfl) (by kernel_rfl) (by kernel_rfl) (by kernel_rfl) (fun _ _ _ h=>h) (Or.inl ⟨by rfl,?_⟩) HS.out ?_;rotate_left
   ·intro w hSw;(try dsimp only at hSw)
    go_simp;all_goals with_reducible rfl
   simp only[tkS];refine zqT (i:=6) (v:=?_) rfl (by kernel_rfl) (by kernel_rfl) (by kernel_rfl) (by kernel_rfl) (fun _ _ _ h=>h) (Or.inl ⟨by rfl,?_⟩) HS.out ?_;rotate_left
   ·intro w hSw;(try dsimp only at hSw)
    go_simp;all_goals with_reducible rfl
   simp only[tkS];refine zqT (i:=7) (v:=?_) rfl (by kernel_rfl) (by kernel_rfl) (by kernel_rfl) (by kernel_rfl) (fun _ _ _ h=>h) (Or.inl ⟨by rfl,?_⟩) HS.out ?_;rotate_left
   ·intro w hSw;(try dsimp only at hSw)
    go_simp;all_goals with_reducible rfl
   simp only[tkS];refine zqS (i:=8) (by kernel_rfl) rfl (fun K hK=>?_);go_simp;refine hK.out _ _ (fun _=>HS.out) ?_;clear hK;try simp only[tkS]
   refine zqS (i:=9) (by kernel_rfl) rfl (fun K hK=>?_);go_simp;refine(zc4 vx x.2.2 wr.drew (HMX.out.below ((Below.refl _ _).drew)) (by omega) (zcq _)).mono ?_;rintro e w5 ⟨v5,rfl,o5,b5⟩;dsimp only;have hdz:wr.drew.heap.size=wr.heap.size:=rfl;have z5:=b5.size;have X5:=lhd (HC.out.x.drew.below b5 (by omega));have f5':w5.frozen? ⟨g,k*3+2,none⟩=false:=by rw[b5.frozen (p:=⟨g,k*3+2,none⟩) (by show g<_;omega)];exact f2
   have c5:w5.cell? ⟨g,k*3+2,none⟩=some vx:=by rw[b5.cell (p:=⟨g,k*3+2,none⟩) (by show g<_;omega)];exact d2
   have HS5:=lhd (X5.out.cell (j:=6) rfl);obtain⟨va,vc,rfl,-,-⟩:=(SlR.of_own o5).shape;refine hK.out _ _ (fun _=>HS5.out) ?_;clear hK;try simp only[tkS]
   refine zqS (i:=10) (by kernel_rfl) rfl (fun K hK=>?_);go_simp;refine hK.out _ _ (fun _=>HS5.out) ?_;clear hK;try simp only[tkS]
   refine zqS (i:=11) (by kernel_rfl) rfl (fun K hK=>?_);go_simp;refine hK.out _ _ (fun _=>HS5.out) ?_;clear hK;try simp only[tkS]
   refine zqS (i:=12) (by kernel_rfl) rfl (fun K hK=>?_);go_simp;refine hK.out _ _ (fun h=>absurd h (by decide)) ?_;clear hK;try simp only[tkS]
   refine⟨by kernel_rfl,?_⟩;clear d2 f2 c6 f5' c5;go_wp2_with fail;go_roundw
   case rel=>
    refine⟨k+1,hlt,by go_num,?_⟩;have hwb:=HC.out.b.size;have sg5:=zba HO.out.drew b5;have hu:=zjG sg5 (k*3+2) (.slice va x.2.2.length vc);have hlen:(A++(x,.slice va x.2.2.length vc)::M.drop (k+1))=(A++ [(x,.slice va x.2.2.length vc)])++M.drop (k+1):=by simp
    rw[←HA.out,zm5,HA.out,hlen]at hu
    exact
     {x:=X5.out.other (by show g≠_;omega) _
      y:=(HC.out.y.drew.below b5 (by omega)).other (by show g≠_;omega) _
      s:=ownsRow_setCell_other (a:=⟨g,k*3+2,none⟩) (zba HC.out.s.drew b5) (zjB (zba HC.out.s.drew b5) sg5 (by decide) rfl) _
      v:=ownsRow_setCell_other (a:=⟨g,k*3+2,none⟩) (zba HC.out.v.drew b5) (zjB (zba HC.out.v.drew b5) sg5 (by decide) rfl) _
      q:=ownsRow_setCell_other (a:=⟨g,k*3+2,none⟩) (zba HC.out.q.drew b5) (zjB (zba HC.out.q.drew b5) sg5 (by decide) rfl) _
      g:=⟨A++ [(x,.slice va x.2.2.length vc)],by rw[List.length_append,HA.out];rfl,by rw[←hlen];have:=HN.out;simpa using this,hu,fun y hy=>by
       rcases List.mem_append.1 hy with hy|hy
       ·exact ownsRow_setCell_other (a:=⟨g,k*3+2,none⟩) (zba (HR.out y hy).drew b5) (zjB (zba (HR.out y hy).drew b5) sg5 (by decide) rfl) _
       ·obtain rfl:=List.mem_singleton.1 hy;exact ownsRow_setCell_other (a:=⟨g,k*3+2,none⟩) (zjJ (base':=Wb.heap.size) o5 (by omega)) (zjB o5 sg5 (by decide) rfl) _⟩
      b:=(HC.out.b.drew.trans (b5.mono hwb)).setCell (by show w.heap.size≤g;omega) _}
   case measure=>simp[intOf];omega
  ·obtain rfl:k=M.length:=by omega
   have cx0:=HC.out.x.cell (j:=0) rfl;have cy0:=HC.out.y.cell (j:=0) rfl;have fy0:=HC.out.y.free (j:=0) (by simp);have cx1:=HC.out.x.cell (j:=1) rfl;have cy1:=HC.out.y.cell (j:=1) rfl;have fy1:=HC.out.y.free (j:=1) (by simp);have cx2:=HC.out.x.cell (j:=2) rfl;have cy2:=HC.out.y.cell (j:=2) rfl;have fy2:=HC.out.y.free (j:=2) (by simp);have cx3:=HC.out.x.cell (j:=3) rfl;have cy3:=HC.out.y.cell (j:=3) rfl;have fy3:=HC.out.y.free (j:=3) (by simp);have cx4:=HC.out.x.cell (j:=4) rfl;have cy4:=HC.out.y.cell (j:=4) rfl;have fy4:=HC.out.y.free (j:=4) (by simp);have cx5:=HC.out.x.cell (j:=5) rfl;have cy5:=HC.out.y.cell (j:=5) rfl;have fy5:=HC.out.y.free (j:=5) (by simp);have cx6:=HC.out.x.cell (j:=6) rfl;have cy6:=HC.out.y.cell (j:=6) rfl;have fy6:=HC.out.y.free (j:=6) (by simp);have cx7:=HC.out.x.cell (j:=7) rfl;have cy7:=HC.out.y.cell (j:=7) rfl;have fy7:=HC.out.y.free (j:=7) (by simp);have cx8:=HC.out.x.cell (j:=8) rfl;have cy8:=HC.out.y.cell (j:=8) rfl;have fy8:=HC.out.y.free (j:=8) (by simp);go_wp2_with fail;clear cx0 cy0 fy0;clear cx1 cy1 fy1;clear cx2 cy2 fy2;clear cx3 cy3 fy3;clear cx4 cy4 fy4;clear cx5 cy5 fy5;clear cx6 cy6 fy6;clear cx7 cy7 fy7;clear cx8 cy8 fy8;have HR:=lhd (zmS HC.out.y (.int .i64 sc) (.string (bsB dt)) (.string (bsB vn)) (.string (bsB cm)) (.slice e1 S.length j1) (.slice e2 V.length j2) (.slice e3 M.length j3) (.slice e4 P.length j4) (.int .i64 en));have HP:=lhd (fun(B e size n:Nat) (v:Value) (xs:List Value) (h:wr.ownsRow B e size v n xs) (hb:w.heap.size+1<B)=>zmR h hb (.int .i64 sc) (.string (bsB dt)) (.string (bsB vn)) (.string (bsB cm)) (.slice e1 S.length j1) (.slice e2 V.length j2) (.slice e3 M.length j3) (.slice e4 P.length j4) (.int .i64 en));have HBB:=lhd (zmQ HC.out.b (Nat.le_succ w.heap.size) (.int .i64 sc) (.string (bsB dt)) (.string (bsB vn)) (.string (bsB cm)) (.slice e1 S.length j1) (.slice e2 V.length j2) (.slice e3 M.length j3) (.slice e4 P.length j4) (.int .i64 en));unfold set9 at HR HP HBB;generalize (((((((((wr.setCell _ _).setCell _ _).setCell _ _).setCell _ _).setCell _ _).setCell _ _).setCell _ _).setCell _ _).setCell _ _)=Wf at*;have cx0:=HR.out.cell (j:=0) rfl;have cx1:=HR.out.cell (j:=1) rfl;have cx2:=HR.out.cell (j:=2) rfl;have cx3:=HR.out.cell (j:=3) rfl;have cx4:=HR.out.cell (j:=4) rfl;have cx5:=HR.out.cell (j:=5) rfl;have cx6:=HR.out.cell (j:=6) rfl;have cx7:=HR.out.cell (j:=7) rfl;have cx8:=HR.out.cell (j:=8) rfl;refine bodyPost_ret (v:=.agg #[.int .i64 sc,.string (bsB dt),.string (bsB vn),.string (bsB cm),.slice e1 S.length j1,.slice e2 V.length j2,.slice e3 M.length j3,.slice e4 P.length j4,.int .i64 en]) (by simp[results,Tryz.results30,go_sem, *]) rfl ?_;obtain⟨A,hA,hN,hO,hR⟩:=HC.out.g;rw[List.drop_length,List.append_nil]at hN hO;have hwl:=Nat.le_of_lt hbz
   exact⟨⟨.slice e1 S.length j1,.slice e2 V.length j2,.slice e3 M.length j3,.slice e4 P.length j4,A⟩,rfl,⟨zjJ (HP.out _ _ _ _ _ _ HC.out.s hzb) hwl,zjJ (HP.out _ _ _ _ _ _ HC.out.v hzb) hwl,
    by show World.ownsRow _ _ _ _ _ A.length _;rw[hA];exact zjJ (HP.out _ _ _ _ _ _ hO hzb) hwl,
    fun x hx=>zjJ (HP.out _ _ _ _ _ _ (hR x hx) hzb) hwl,zjJ (HP.out _ _ _ _ _ _ HC.out.q hzb) hwl,hN⟩,HBB.out⟩
end Go.Proofs.YtbiadennhnokhaaGreatDoor
