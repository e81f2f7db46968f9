import Derived.Test.YtfppgpamkdkckaaGreatDoorZ00
import Derived.Test.YtfppgpamkdkckaaGreatDoorZ05
import Derived.Test.YtfppgpamkdkckaaGreatDoorZ11
set_option maxRecDepth 100000
set_option maxHeartbeats 16000000
namespace Go.Proofs.YtfppgpamkdkckaaGreatDoor
open Go.RowKit Go.WideMaps
set_option linter.unusedSimpArgs false
theorem ztb (l:List Vr) (h:l.length=0):vrs l=[]:=by rw[List.length_eq_zero_iff.1 h];rfl
theorem zcq (v:Value) (l:List Vr) (w:World) (hs:SlR w v l.length (vrs l)) (hn:l.length≤1000000):
 Calls Tryz.prog 206 #[v] w fun e w'=>∃v',e=.returned v'∧w'.ownsRow w.heap.size 55 7 v' l.length (vrs l)∧Below w.heap.size w w':=by
 obtain⟨a,cap,rfl,hc,hm,hz,hat⟩:=hs;have hs:SlR w (.slice a l.length cap) l.length (vrs l):=⟨a,cap,rfl,hc,hm,hz,hat⟩;cases a with
 |none=>
  have hcap:=hz rfl;subst hcap;have hq:=Lib.run_eql_slice_nil (P:=Tryz.prog) w 28 55 none l.length 0 0 0 Tryz.underlying28;have h0:l.length=0:=by omega
  have HL:=lhd (ztb l h0);have H0:=lhd h0;clear hs hz hat h0;go_enter Tryz.func206,Tryz.ntmps206;go_wp2_with fail;go_ret;exact⟨_,rfl,by rw[HL.out,H0.out];exact World.ownsRow_nil _ _ _ _,Below.refl _ _⟩
 |some ad=>
  have hq:=Lib.run_eql_slice_nil (P:=Tryz.prog) w 28 55 (some ad) l.length cap 0 0 Tryz.underlying28;obtain⟨i0,hi,iz0,iz1,iz2⟩:=info_parts (P:=Tryz.prog) zs2;have hbw:Below w.heap.size w (w.alloc (.cells #[] 55)):=(Below.refl _ _).alloc (Nat.le_refl _) _;have HN:=lhd ((hs.below hbw).news (ztb l));have hown:(w.alloc (.cells #[] 55)).ownsRow w.heap.size 55 7 (.slice (some ⟨w.heap.size,0,none⟩) 0 0) 0 []:=World.ownsRow_lit w #[] 0 (Nat.le_refl _) (by simp[maxLen]) (by simp);have HOWN:=lhd hown;clear hs hz hat hbw hown;go_enter Tryz.func206,Tryz.ntmps206;go_wp2_with (at_builtin;refine wpList_append_own _ rfl _ _ 28 rfl w.heap.size 55 i0 (.agg #[.string ⟨#[]⟩,.int .i64 0,.int .i64 0,.int .i64 0,.bool false,.int .i64 0,.int .i64 0]) 7 64 Tryz.underlying28 hi iz0 iz1 iz2 rfl (by decide) _ _ _ rfl HOWN.out ad l.length cap (vrs l) rfl (by rw[zta];omega) HN.out (ztc l) (by unfold maxLen;omega) (by omega) (by simp) ?_)
  intro v' w' ho hg _;have HO:=lhd ho;have HG:=lhd hg;clear ho hg;go_wp2_with fail;go_ret;exact⟨_,rfl,by have:=HO.out;simpa using this,((Below.refl _ _).alloc (Nat.le_refl _) _).grown HG.out (by simp) (by intro k hk;simp[Value.ownBlock]at hk;omega)⟩
def ints (l:List Int):List Value:=l.map (Value.int .i64)
theorem zhf:(Tryz.prog.info? 3).map (fun i=>(i.zero,i.size,i.bytes))=some (some (.int .i64 0),1,8):=by kernel_rfl
theorem zt7 (w:World):(zeroValue 3).run Tryz.prog w=.ok (.int .i64 0) w:=by kernel_rfl
def numM (fm:List Int) (x:Int):Option Value:=if x∈fm then some (.int .i64 (fm.idxOf x:Int))else none
theorem zjY {fm:List Int} {x:Int} (h:x∉fm) (y:Int):(if y=x then some (Value.int .i64 (fm.length:Int))else numM fm y)=numM (fm++ [x]) y:=by
 unfold numM;by_cases hy:y=x
 ·subst hy;rw[if_pos rfl,if_pos (by simp),List.idxOf_append,if_neg h];simp
 ·rw[if_neg hy];by_cases hm:y∈fm
  ·rw[if_pos hm,if_pos (by simp[hm]),List.idxOf_append,if_pos hm]
  ·rw[if_neg hm,if_neg (by simp[hm,hy])]
theorem ztf {D R:List Vr} (v:Vr) (n:Int):(vrs (D++v::R)).set (D.length*7+3) (.int .i64 n)=vrs (D++{v with sg:=n}::R):=by
 have hl:(vrs D).length=D.length*7:=by rw[zta,Nat.mul_comm]
 rw[zs7,zs7,zs9,zs9,←hl];simp only[vrC,List.cons_append,List.nil_append];rw[List.set_append_right _ _ (by omega),Nat.add_sub_cancel_left];simp only[List.set_cons_succ,List.set_cons_zero]
structure NmI (base n:Nat) (v:Value) (bm:Nat) (D R:List Vr) (fm:List Int) (vf:Value) (w W:World):Prop where
 o:W.ownsRow base 55 7 v n (vrs (D++R))
 f:W.ownsRow base 3 1 vf fm.length (ints fm)
 m:KMap (zhd (P:=Tryz.prog) (K:=3) Tryz.underlying3) W bm fm.length (numM fm)
 b:Below base w W
 z:base≤bm
theorem zlo {w:World} {B B' e e' size size' n n':Nat} {v v':Value} {xs xs':List Value} (h:w.ownsRow B e size v n xs) (h':w.ownsRow B' e' size' v' n' xs') (hne:e≠e'):v.ownBlock=none∨v.ownBlock≠v'.ownBlock:=by
 rcases h.2 with⟨rfl,-⟩|⟨g,cap,cur,rfl,-,hg,-⟩
 ·exact .inl rfl
 ·refine .inr fun e=>?_;rcases h'.2 with⟨rfl,-⟩|⟨g2,cap2,cur2,rfl,-,hg2,-⟩
  ·cases e
  ·injection e with e;subst e;rw[hg]at hg2;injection hg2 with hg2;injection hg2 with _ h5 _;exact hne h5
theorem NmI.put {base n g cap bm:Nat} {D R:List Vr} {x:Vr} {fm:List Int} {vf:Value} {w W:World} (h:NmI base n (.slice (some ⟨g,0,none⟩) n cap) bm D (x::R) fm vf w W) (q:Int):
 NmI base n (.slice (some ⟨g,0,none⟩) n cap) bm (D++ [{x with sg:=q}]) R fm vf w (W.setCell ⟨g,D.length*7+3,none⟩ (.int .i64 q)):=by
 have h1:=zlE h.o (D.length*7+3) (.int .i64 q);rw[ztf]at h1;refine⟨by rw[List.append_assoc];exact h1,ownsRow_setCell_other (a:=⟨g,D.length*7+3,none⟩) h.f ?_ _,h.m.setCell (fun e=>?_) _,h.b.setCell (p:=⟨g,D.length*7+3,none⟩) (h.o.lt _ rfl).1 _,h.z⟩
 ·intro e;rcases h.f.2 with⟨e0,-⟩|⟨g',cap',cur,e0,-,hgb,-⟩
  ·rw[e0]at e;cases e
  ·rw[e0]at e;injection e with e;subst e;rcases h.o.2 with⟨e1,-⟩|⟨g2,cap2,cur2,e1,-,hgb2,-⟩
   ·cases e1
   ·injection e1 with e1 _ _;injection e1 with e1;injection e1 with e1 _ _;subst e1;rw[hgb]at hgb2;injection hgb2 with hgb2;injection hgb2 with _ h5 _;exact absurd h5 (by decide)
 ·have:=h.m.ne_row h.o;exact this (by rw[e];rfl)
theorem NmI.new {base n bm:Nat} {w:World} (hz:base≤w.heap.size) {v:Value} {D R:List Vr} {x:Int} {fm:List Int} {vf vf':Value} {W W1 W2:World} (h:NmI base n v bm D R fm vf w W) (hx:x∉fm)
 (hm:KMap (zhd (P:=Tryz.prog) (K:=3) Tryz.underlying3) W1 bm (fm.length+1) (fun y=>if y=x then some (.int .i64 (fm.length:Int))else numM fm y)) (hg:W.grownBy W1 (some bm))
 (hf:W2.ownsRow base 3 1 vf' (fm.length+1) (ints fm++ [.int .i64 x])) (hg2:(W1.alloc (.cells #[.int .i64 x] 3)).grownBy W2 vf.ownBlock):NmI base n v bm D R (fm++ [x]) vf' w W2:=by
 have hal:Below W1.heap.size W1 (W1.alloc (.cells #[.int .i64 x] 3)):=(Below.refl _ _).alloc (Nat.le_refl _) _;have ho1:(W1.alloc (.cells #[.int .i64 x] 3)).ownsRow base 55 7 v n (vrs (D++R)):=zlD (h.o.kept hg (.inr fun e=>h.m.ne_row h.o e.symm)) (Same0.of_below hal);have hf1:(W1.alloc (.cells #[.int .i64 x] 3)).ownsRow base 3 1 vf fm.length (ints fm):=zlD (h.f.kept hg (.inr fun e=>h.m.ne_row h.f e.symm)) (Same0.of_below hal);have hb1:Below base w W1:=h.b.grown hg (Nat.le_trans hz h.b.size) (fun k hk=>by injection hk with hk;have:=h.z;omega);have hm1:=hm.below hal hm.lt;refine⟨ho1.kept hg2 (zlo ho1 hf1 (by decide)),by rw[List.length_append,List.length_singleton];simpa[ints] using hf,?_,((hb1.alloc (Nat.le_trans hz hb1.size) _).grown hg2 (by have:=hb1.size;simp;omega) (fun k hk=>(hf1.lt _ hk).1)),h.z⟩;have hm2:=hm1.kept hg2 (hm1.ne_row hf1);rw[List.length_append,List.length_singleton];exact hm2.ext (fun y=>zjY hx y)
theorem zgD (base:Nat) (v:Value) (l:List Vr) (w:World) (hb0:base≤w.heap.size) (ho:w.ownsRow base 55 7 v l.length (vrs l)) (hn:l.length≤1000) (hsg:∀x∈l,(Lit.int .i64 x.sg).wf=true):
 Calls Tryz.prog 209 #[v] w fun e w'=>∃vf,e=.returned vf∧w'.ownsRow base 55 7 v l.length (vrs (numF [] l).1)∧w'.ownsRow base 3 1 vf (numF [] l).2.length (ints (numF [] l).2)∧Below base w w':=by
 obtain⟨i0,hi,iz0,iz1,iz2⟩:=info_parts (P:=Tryz.prog) zhf;obtain⟨a,cap,rfl,-,-⟩:=(SlR.of_own ho).shape;have hmm:= @run_makeMap Tryz.prog
 have HI:=lhd (show NmI base l.length (.slice a l.length cap) w.heap.size [] l [] (.slice none 0 0) w (w.alloc (.map #[] 0))from
  ⟨zlD ho (Same0.of_below ((Below.refl _ _).alloc (Nat.le_refl _) _)),World.ownsRow_nil _ _ _ _,KMap.made _ w,(Below.refl _ _).alloc hb0 _,hb0⟩)
 have HSG:=lhd hsg;clear ho hsg;go_enter Tryz.func209,Tryz.ntmps209;go_wp2_with fail;clear hmm;go_loopw [3,6,7,11] (fun vf _ _ i wr=>∃(k:Nat) (D R:List Vr) (fm:List Int),i=.int .i64 k∧D.length=k∧k+R.length=l.length∧fm.length≤k∧(∀x∈R,x∈l)∧numF [] l=(D++(numF fm R).1,(numF fm R).2)∧NmI base l.length (.slice a l.length cap) w.heap.size D R fm vf w wr) (fun _ _ _ i _=>l.length-(intOf i).toNat)
 case atStart=>exact⟨0,[],l,[],rfl,rfl,by simp,Nat.le_refl _,fun _ h=>h,rfl,HI.out⟩
 case round=>
  obtain⟨k,D,R,fm,rfl,hD,hR,hf,hin,hnu,hI⟩:=hrel;have HII:=lhd hI;obtain⟨fa,fc,rfl,-,-⟩:=(SlR.of_own hI.f).shape;have HN:=lhd hn;cases R with
  |nil=>
   have hkl:k=l.length:=by simpa using hR
   have HNU:=lhd hnu;clear hD hR hf hin hI hnu;subst hkl;go_wp2_with fail;go_ret;refine⟨_,rfl,?_,?_,HII.out.b⟩
   ·rw[HNU.out];exact HII.out.o
   ·rw[HNU.out];exact HII.out.f
  |cons x R=>
   have hlt:k<l.length:=by simp at hR;omega
   have HR:=lhd hR;have HD:=lhd hD;have HIN:=lhd hin;have HNU:=lhd hnu;have hwx:=HSG.out x (hin x (by simp));have hog:=hI.o;rcases hog.2 with⟨-,h0⟩|⟨g,cap',cur,e0,-⟩
   ·omega
   injection e0 with e0 _ e1;subst e0 e1;have hso:SO base g l.length cap wr (D++x::R):=hog;have d3:=hso.at.2.2.2.1;have f3:=zlw hog (k*7+3);rw[hD]at d3;have HLK:=lhd (hI.m.look (t:=219) Tryz.underlying219 (zt7 wr) x.sg hwx);have hfk:=hf;clear hD hR hin hnu hI hog hso;obtain⟨nm,ty,sc,sg,rg,mb,lb⟩:=x;dsimp only at d3 HLK hwx;by_cases hc:sg∈fm
   ·obtain⟨q,hq⟩:∃q,fm.idxOf sg=q:=⟨_,rfl⟩
    have hlk:(Instr.lookup 219 (.map (some w.heap.size)) (.int .i64 sg) true).run Tryz.prog wr=.ok (.tuple #[.int .i64 (q:Int),.bool true]) wr:=by
     have:=HLK.out;unfold numM at this;rw[if_pos hc,hq]at this;exact this
    have HNX:=lhd (show numF [] l=((D++ [⟨nm,ty,sc,(q:Int),rg,mb,lb⟩])++(numF fm R).1,(numF fm R).2)by
     rw[HNU.out,zjW (by simpa using hc),hq];simp)
    have HP:=lhd (HII.out.put (q:Int));rw[HD.out]at HP;clear hc hq HLK hwx;go_wp2_with fail;go_roundw;case rel=>exact⟨k+1,_,R,fm,by go_num,by simp[HD.out],by have:=HR.out;simp at this;omega,by omega,fun y hy=>HIN.out y (List.mem_cons_of_mem _ hy),HNX.out,HP.out⟩
    case measure=>simp[intOf];omega
   ·have hlk:(Instr.lookup 219 (.map (some w.heap.size)) (.int .i64 sg) true).run Tryz.prog wr=.ok (.tuple #[.int .i64 0,.bool false]) wr:=by
     have:=HLK.out;unfold numM at this;rw[if_neg hc]at this;exact this
    have HNX:=lhd (show numF [] l=((D++ [⟨nm,ty,sc,(fm.length:Int),rg,mb,lb⟩])++(numF (fm++ [sg]) R).1,(numF (fm++ [sg]) R).2)by
     rw[HNU.out,zjX (by simpa using hc)];simp)
    have HC:=lhd hc;have HWX:=lhd hwx;clear hc HLK hwx
    go_wp2_with (first
     |(at_builtin;refine wpList_append_own_at _ rfl _ _ 77 rfl base 3 i0 (.int .i64 0) 1 8 Tryz.underlying77 hi iz0 iz1 iz2 rfl (by decide) _ _ _ rfl HF3.out ⟨w3.heap.size,0,none⟩ 1 1 [.int .i64 sg] rfl rfl HNW.out (by simp[Value.oneCell']) (by unfold maxLen;omega) (by omega) (by simp;omega) ?_)
     |(refine ztQ _ rfl _ _ _ 219 rfl 3 Tryz.underlying219 w.heap.size fm.length _ rfl HII.out.m (by unfold maxLen;omega) sg (.int .i64 (fm.length:Int)) rfl rfl HWX.out ?_;intro w3 hm3 hg3;have ho3:SO base g l.length cap w3 (D++⟨nm,ty,sc,sg,rg,mb,lb⟩::R):=HII.out.o.kept hg3 (.inr fun e=>HII.out.m.ne_row HII.out.o e.symm);have d4:=ho3.at.2.2.2.1;rw[HD.out]at d4;have f4:=zlw ho3 (k*7+3);have HNW:=lhd (World.news_of_block (w:=w3.alloc (.cells #[.int .i64 sg] 3)) (cs:=#[.int .i64 sg]) (t:=3) (fr:=(0,0)) (by exact heap_alloc_new _ _));have hzz:base≤w3.heap.size:=Nat.le_trans hb0 (Nat.le_trans HII.out.b.size hg3.size);have HF3:=lhd (zlD (HII.out.f.kept hg3 (.inr fun e=>HII.out.m.ne_row HII.out.f e.symm)) (Same0.of_below ((Below.refl w3.heap.size w3).alloc (Nat.le_refl _) (.cells #[.int .i64 sg] 3))));have HM3:=lhd hm3;have HG3:=lhd hg3;clear hm3 hg3 ho3))
    intro v8 w8 ho8 hg8 _ _;have HI8:=lhd (HII.out.new hb0 HC.out HM3.out HG3.out ho8 hg8);clear ho8 hg8 d4 f4 d3 f3 hlk;have ho9:SO base g l.length cap w8 (D++⟨nm,ty,sc,sg,rg,mb,lb⟩::R):=HI8.out.o;have f9:=zlw ho9 (k*7+3);have d9:=ho9.at.2.2.2.1;rw[HD.out]at d9;have HP:=lhd (HI8.out.put (fm.length:Int));rw[HD.out]at HP;clear ho9;go_wp2_with fail;go_roundw;case rel=>exact⟨k+1,_,R,fm++ [sg],by go_num,by simp[HD.out],by have:=HR.out;simp at this;omega,by simp;omega,fun y hy=>HIN.out y (List.mem_cons_of_mem _ hy),HNX.out,HP.out⟩
    case measure=>simp[intOf];omega
open Go.RowKit
def fewV (l:List Ch):Bool:=l.all fun c=>decide (c.2.size≤200)
def few (l:List Ch) (n:Int):Bool:=fewV l&&decide ((l.length:Int)≤n)
theorem znb (v:Value) (l:List Ch) (n:Int) (w:World) (hs:SlR w v l.length (chs l)):
 Calls Tryz.prog 29 #[v,.int .i64 n] w fun e w'=>e=.returned (.bool (few l n))∧w'=w:=by
 obtain⟨a,cap,rfl,hc,hm⟩:=hs.shape;unfold maxLen at hm;have HS:=lhd hs;clear hs;go_enter Tryz.func29,Tryz.ntmps29;go_wp2_with fail
 go_loopw [5] (fun i wr=>∃(j:Nat),j≤l.length∧i=.int .i64 j∧fewV (l.drop j)=fewV l∧wr=w)
  (fun i _=>l.length-(intOf i).toNat)
 case atStart=>exact⟨0,Nat.zero_le _,rfl,rfl,rfl⟩
 case round=>
  obtain⟨j,hj,rfl,hgo,rfl⟩:=hrel;have HGO:=lhd hgo;clear hgo;by_cases hlt:j<l.length
  ·obtain⟨b,o,rfl,d0,d1⟩:=HS.out.ch hlt
   have HGO2:Hid ((decide (l[j].2.size≤200)&&fewV (l.drop (j+1)))=fewV l):=lhd (by
    have:=HGO.out;rw[List.drop_eq_getElem_cons hlt,fewV,List.all_cons]at this;exact this)
   generalize l[j]=c at d0 d1 HGO2;obtain⟨t,s⟩:=c;simp only at d0 d1;by_cases hA:s.size≤200
   ·have HGO3:Hid (fewV (l.drop (j+1))=fewV l):=lhd (by rw[←HGO2.out];simp[hA]);have hw:IntKind.i64.wrap ((j:Int)+1)=(j:Int)+1:=IntWalk.i64_in _ (by omega);go_wp2_with fail;go_roundw;case rel=>exact⟨j+1,by omega,by go_num,HGO3.out,trivial⟩
    case measure=>simp[intOf];omega
   ·have e:fewV l=false:=by rw[←HGO2.out];simp[hA]
    have E2:=lhd (show few l n=false by simp[few,e]);clear e;have hA':200<s.size:=by omega
    clear hA;go_wp2_with fail;go_ret;exact⟨znc E2.out.symm,rfl⟩
  ·have e:fewV l=true:=by rw[←HGO.out,List.drop_eq_nil_iff.2 (by omega)];rfl
   have E2:=lhd (show few l n=decide ((l.length:Int)≤n)by simp[few,e]);have hj':l.length=j:=by omega
   subst hj';clear e hlt;go_wp2_with fail;go_ret;exact⟨znc E2.out.symm,rfl⟩
def znE (l m:List Ch):Bool:=decide (l=m)
theorem zeD (v u:Value) (l m:List Ch) (w:World) (hs:SlR w v l.length (chs l)) (ht:SlR w u m.length (chs m)):
 Calls Tryz.prog 105 #[v,u] w fun e w'=>e=.returned (.bool (znE l m))∧Below w.heap.size w w':=by
 obtain⟨a,cap,rfl,hc,hm⟩:=hs.shape;obtain⟨a2,cap2,rfl,hc2,hm2⟩:=ht.shape;unfold maxLen at hm hm2;have HS:=lhd hs;have HT:=lhd ht;clear hs ht;by_cases hne:l.length≠m.length
 ·have E:=lhd (show znE l m=false by unfold znE;rw[decide_eq_false_iff_not];intro h;exact hne (by rw[h]));have hb:((l.length:Int) !=(m.length:Int))=true:=by rw[bne_iff_ne];omega
  clear hne;go_enter Tryz.func105,Tryz.ntmps105;go_wp2_with fail;go_ret;exact⟨znc E.out.symm,Below.refl _ _⟩
 have hlen:l.length=m.length:=by omega
 have HLEN:=lhd hlen;have E:=lhd (show znE l m=decide (l=m)from rfl);have hb:((l.length:Int) !=(m.length:Int))=false:=by rw[hlen];simp
 clear hne hlen;go_enter Tryz.func105,Tryz.ntmps105;go_wp2_with fail
 go_loopw [13] (fun i wr=>∃(j:Nat),j≤l.length∧i=.int .i64 j∧l.take j=m.take j∧Below w.heap.size w wr)
  (fun i _=>l.length-(intOf i).toNat)
 case atStart=>exact⟨0,Nat.zero_le _,rfl,rfl,Below.refl _ _⟩
 case round=>
  obtain⟨j,hj,rfl,hgo,hbw⟩:=hrel;have HGO:=lhd hgo;have HB:=lhd hbw;clear hgo hbw;by_cases hlt:j<l.length
  ·have hlt2:j<m.length:=by have:=HLEN.out;omega
   obtain⟨b,o,rfl,d0,d1⟩:=(HS.out.below HB.out).ch hlt;obtain⟨b2,o2,rfl,g0,g1⟩:=(HT.out.below HB.out).ch hlt2;have q1:(0:Int)≤(j:Int):=by omega
   have q2:(j:Int)<(l.length:Int):=by omega
   have q3:(j:Int)<(m.length:Int):=by omega
   have hw:IntKind.i64.wrap ((j:Int)+1)=(j:Int)+1:=IntWalk.i64_in _ (by omega);by_cases he:l[j]=m[j]
   ·have HGO2:Hid (l.take (j+1)=m.take (j+1)):=lhd (by rw[List.take_succ_eq_append_getElem hlt,List.take_succ_eq_append_getElem hlt2,HGO.out,he]);rw[←he]at g0 g1;generalize l[j]=c at d0 d1 g0 g1;clear he;obtain⟨t,s⟩:=c;simp only at d0 d1 g0 g1;go_wp2_with fail;go_quiet (fail);go_wp2_with fail;go_roundw;case rel=>exact⟨j+1,by omega,by go_num,HGO2.out,below_drewN HB.out _⟩
    case measure=>simp[intOf];omega
   ·have E2:=lhd (show znE l m=false by unfold znE;rw[decide_eq_false_iff_not];intro h;subst h;exact he rfl);have hne:¬(l[j].1=m[j].1∧l[j].2=m[j].2):=fun h=>he (Prod.ext h.1 h.2);generalize l[j]=c at d0 d1 hne;generalize m[j]=c' at g0 g1 hne;clear he;obtain⟨t,s⟩:=c;obtain⟨t',s'⟩:=c';simp only at d0 d1 g0 g1 hne;by_cases htt:t=t'
    ·subst htt;have hss:=za2 (fun h=>hne ⟨rfl,h⟩:s≠s');clear hne;go_wp2_with fail;go_quiet (fail);go_wp2_with fail;go_ret;exact⟨znc E2.out.symm,below_drewN HB.out _⟩
    ·have htb:(t==t')=false:=by rw[beq_eq_false_iff_ne];exact htt
     clear hne;go_wp2_with fail;go_quiet (fail);go_wp2_with fail;go_ret;exact⟨znc E2.out.symm,below_drewN HB.out _⟩
  ·have hj':j=l.length:=by omega
   subst hj';have E2:=lhd (show znE l m=true by unfold znE;rw[decide_eq_true_iff];have:=HGO.out;rwa [List.take_length,HLEN.out,List.take_length]at this);clear hlt;go_wp2_with fail;go_ret;exact⟨znc E2.out.symm,HB.out⟩
def sEq (k n:Int) (l:List Ch) (k2 n2:Int) (m:List Ch):Bool:=decide (k=k2)&&(decide (n=n2)&&znE l m)
theorem zoV (k n k2 n2:Int) (v u:Value) (l m:List Ch) (w:World) (hs:SlR w v l.length (chs l)) (ht:SlR w u m.length (chs m)):
 Calls Tryz.prog 46 #[.agg #[.int .i64 k,.int .i64 n,v],.agg #[.int .i64 k2,.int .i64 n2,u]] w fun e w'=>e=.returned (.bool (sEq k n l k2 n2 m))∧Below w.heap.size w w':=by
 obtain⟨a,cap,rfl,hc,hm⟩:=hs.shape;obtain⟨a2,cap2,rfl,hc2,hm2⟩:=ht.shape;have hbw:Below w.heap.size w ((w.alloc (.cells #[.int .i64 k,.int .i64 n,.slice a l.length cap] 60)).alloc (.cells #[.int .i64 k2,.int .i64 n2,.slice a2 m.length cap2] 60)):=((Below.refl _ _).alloc (Nat.le_refl _) _).alloc (by simp) _;have HE:=lhd (zeD _ _ l m _ (hs.below hbw) (ht.below hbw));have HB:=lhd hbw;clear hs ht hbw;by_cases hk:k=k2
 ·by_cases hn:n=n2
  ·have HR:=lhd (show sEq k n l k2 n2 m=znE l m by simp[sEq,hk,hn]);subst hk hn;go_enter Tryz.func46,Tryz.ntmps46;go_wp2_with fail;refine HE.out.mono ?_;rintro e w1 ⟨rfl,hb⟩;go_wp2_with fail;go_ret;exact⟨znc HR.out.symm,HB.out.trans (hb.mono HB.out.size)⟩
  ·have HR:=lhd (show sEq k n l k2 n2 m=false by simp[sEq,hk,hn]);have hnb:(n==n2)=false:=by rw[beq_eq_false_iff_ne];exact hn
   subst hk;clear hn;go_enter Tryz.func46,Tryz.ntmps46;go_wp2_with fail;go_ret;exact⟨znc HR.out.symm,HB.out⟩
 ·have HR:=lhd (show sEq k n l k2 n2 m=false by simp[sEq,hk]);have hkb:(k==k2)=false:=by rw[beq_eq_false_iff_ne];exact hk
  clear hk;go_enter Tryz.func46,Tryz.ntmps46;go_wp2_with fail;go_ret;exact⟨znc HR.out.symm,HB.out⟩
theorem zbu {s t:Bs} (h:s≠t):bsB s≠bsB t:=fun e=>h (by have:=congrArg (fun b=>b.data.toList) e;simpa[bsB] using this)
theorem zeF (v u:Value) (l m:List (Sc)) (w:World) (hs:SlR w v l.length (scs l)) (ht:SlR w u m.length (scs m)):
 Calls Tryz.prog 42 #[v,u] w fun e w'=>e=.returned (.bool (decide (l=m)))∧Below w.heap.size w w':=by
 obtain⟨a,cap,rfl,hc,hm⟩:=hs.shape;obtain⟨a2,cap2,rfl,hc2,hm2⟩:=ht.shape;unfold maxLen at hm hm2;have HS:=lhd hs;have HT:=lhd ht;clear hs ht;obtain⟨R,hR⟩:∃R,R=decide (l=m):=⟨_,rfl⟩;rw[←hR];by_cases hne:l.length≠m.length
 ·have E:=lhd (show R=false by rw[hR,decide_eq_false_iff_not];intro h;exact hne (by rw[h]));have hb:((l.length:Int) !=(m.length:Int))=true:=by rw[bne_iff_ne];omega
  clear hne hR;go_enter Tryz.func42,Tryz.ntmps42;go_wp2_with fail;go_ret;exact⟨znc E.out.symm,Below.refl _ _⟩
 have hlen:l.length=m.length:=by omega
 have HLEN:=lhd hlen;have HR:=lhd hR;have hb:((l.length:Int) !=(m.length:Int))=false:=by rw[hlen];simp
 clear hne hlen hR;go_enter Tryz.func42,Tryz.ntmps42;go_wp2_with fail
 go_loopw [13] (fun i wr=>∃(j:Nat),j≤l.length∧i=.int .i64 j∧l.take j=m.take j∧Below w.heap.size w wr)
  (fun i _=>l.length-(intOf i).toNat)
 case atStart=>exact⟨0,Nat.zero_le _,rfl,rfl,Below.refl _ _⟩
 case round=>
  obtain⟨j,hj,rfl,hgo,hbw⟩:=hrel;have HGO:=lhd hgo;have HB:=lhd hbw;clear hgo hbw;by_cases hlt:j<l.length
  ·have hlt2:j<m.length:=by have:=HLEN.out;omega
   obtain⟨b,o,rfl,hcell⟩:=(HS.out.below HB.out).scs hlt;obtain⟨b2,o2,rfl,hcell2⟩:=(HT.out.below HB.out).scs hlt2;have q1:(0:Int)≤(j:Int):=by omega
   have q2:(j:Int)<(l.length:Int):=by omega
   have q3:(j:Int)<(m.length:Int):=by omega
   have hw:IntKind.i64.wrap ((j:Int)+1)=(j:Int)+1:=IntWalk.i64_in _ (by omega);by_cases he:l[j]=m[j]
   ·have HGO2:Hid (l.take (j+1)=m.take (j+1)):=lhd (by rw[List.take_succ_eq_append_getElem hlt,List.take_succ_eq_append_getElem hlt2,HGO.out,he]);rw[←he]at hcell2;generalize l[j]=c at hcell hcell2;obtain⟨c2,hc2⟩:∃c2,c2=c:=⟨_,rfl⟩;rw[←hc2]at hcell2;clear he;obtain⟨nm,ty,sc⟩:=c;obtain⟨nm2,ty2,sc2⟩:=c2;have d0:wr.cell? ⟨b,o+j*3,none⟩=some (.string (bsB nm)):=hcell 0 _ rfl;have d1:wr.cell? ⟨b,o+j*3+1,none⟩=some (.int .i64 ty):=hcell 1 _ rfl;have d2:wr.cell? ⟨b,o+j*3+2,none⟩=some (.int .i64 sc):=hcell 2 _ rfl;have g0:wr.cell? ⟨b2,o2+j*3,none⟩=some (.string (bsB nm2)):=hcell2 0 _ rfl;have g1:wr.cell? ⟨b2,o2+j*3+1,none⟩=some (.int .i64 ty2):=hcell2 1 _ rfl;have g2:wr.cell? ⟨b2,o2+j*3+2,none⟩=some (.int .i64 sc2):=hcell2 2 _ rfl;cases hc2
    clear hcell hcell2;go_wp2_with fail;go_quiet (fail);go_wp2_with fail;go_roundw;case rel=>exact⟨j+1,by omega,by go_num,HGO2.out,below_drewN HB.out _⟩
    case measure=>simp[intOf];omega
   ·have E2:=lhd (show R=false by rw[HR.out,decide_eq_false_iff_not];intro h;subst h;exact he rfl);generalize l[j]=c at hcell he;generalize m[j]=c2 at hcell2 he;have hne:=he;clear he;obtain⟨nm,ty,sc⟩:=c;obtain⟨nm2,ty2,sc2⟩:=c2;have d0:wr.cell? ⟨b,o+j*3,none⟩=some (.string (bsB nm)):=hcell 0 _ rfl;have d1:wr.cell? ⟨b,o+j*3+1,none⟩=some (.int .i64 ty):=hcell 1 _ rfl;have d2:wr.cell? ⟨b,o+j*3+2,none⟩=some (.int .i64 sc):=hcell 2 _ rfl;have g0:wr.cell? ⟨b2,o2+j*3,none⟩=some (.string (bsB nm2)):=hcell2 0 _ rfl;have g1:wr.cell? ⟨b2,o2+j*3+1,none⟩=some (.int .i64 ty2):=hcell2 1 _ rfl;have g2:wr.cell? ⟨b2,o2+j*3+2,none⟩=some (.int .i64 sc2):=hcell2 2 _ rfl;clear hcell hcell2;by_cases h0:nm=nm2
    rotate_left
    ·have hss:=za2 (zbu h0);clear h0 hne;go_wp2_with fail;go_quiet (fail);go_wp2_with fail;go_ret;exact⟨znc E2.out.symm,below_drewN HB.out _⟩
    subst h0;by_cases h1:ty=ty2
    rotate_left
    ·skip
     have hnb:(ty==ty2)=false:=by rw[beq_eq_false_iff_ne];assumption
     clear h1 hne;go_wp2_with fail;go_quiet (fail);go_wp2_with fail;go_ret;exact⟨znc E2.out.symm,below_drewN HB.out _⟩
    subst h1;by_cases h2:sc=sc2
    rotate_left
    ·skip
     have hnb:(sc==sc2)=false:=by rw[beq_eq_false_iff_ne];assumption
     clear h2 hne;go_wp2_with fail;go_quiet (fail);go_wp2_with fail;go_ret;exact⟨znc E2.out.symm,below_drewN HB.out _⟩
    subst h2;exact absurd rfl hne
  ·have hj':j=l.length:=by omega
   subst hj';have E2:=lhd (show R=true by rw[HR.out,decide_eq_true_iff];have:=HGO.out;rwa [List.take_length,HLEN.out,List.take_length]at this);clear hlt;go_wp2_with fail;go_ret;exact⟨znc E2.out.symm,HB.out⟩
theorem zeG (v u:Value) (l m:List (Vr)) (w:World) (hs:SlR w v l.length (vrs l)) (ht:SlR w u m.length (vrs m)):
 Calls Tryz.prog 43 #[v,u] w fun e w'=>e=.returned (.bool (decide (l=m)))∧Below w.heap.size w w':=by
 obtain⟨a,cap,rfl,hc,hm⟩:=hs.shape;obtain⟨a2,cap2,rfl,hc2,hm2⟩:=ht.shape;unfold maxLen at hm hm2;have HS:=lhd hs;have HT:=lhd ht;clear hs ht;obtain⟨R,hR⟩:∃R,R=decide (l=m):=⟨_,rfl⟩;rw[←hR];by_cases hne:l.length≠m.length
 ·have E:=lhd (show R=false by rw[hR,decide_eq_false_iff_not];intro h;exact hne (by rw[h]));have hb:((l.length:Int) !=(m.length:Int))=true:=by rw[bne_iff_ne];omega
  clear hne hR;go_enter Tryz.func43,Tryz.ntmps43;go_wp2_with fail;go_ret;exact⟨znc E.out.symm,Below.refl _ _⟩
 have hlen:l.length=m.length:=by omega
 have HLEN:=lhd hlen;have HR:=lhd hR;have hb:((l.length:Int) !=(m.length:Int))=false:=by rw[hlen];simp
 clear hne hlen hR;go_enter Tryz.func43,Tryz.ntmps43;go_wp2_with fail
 go_loopw [13] (fun i wr=>∃(j:Nat),j≤l.length∧i=.int .i64 j∧l.take j=m.take j∧Below w.heap.size w wr)
  (fun i _=>l.length-(intOf i).toNat)
 case atStart=>exact⟨0,Nat.zero_le _,rfl,rfl,Below.refl _ _⟩
 case round=>
  obtain⟨j,hj,rfl,hgo,hbw⟩:=hrel;have HGO:=lhd hgo;have HB:=lhd hbw;clear hgo hbw;by_cases hlt:j<l.length
  ·have hlt2:j<m.length:=by have:=HLEN.out;omega
   obtain⟨b,o,rfl,hcell⟩:=(HS.out.below HB.out).vrs hlt;obtain⟨b2,o2,rfl,hcell2⟩:=(HT.out.below HB.out).vrs hlt2;have q1:(0:Int)≤(j:Int):=by omega
   have q2:(j:Int)<(l.length:Int):=by omega
   have q3:(j:Int)<(m.length:Int):=by omega
   have hw:IntKind.i64.wrap ((j:Int)+1)=(j:Int)+1:=IntWalk.i64_in _ (by omega);by_cases he:l[j]=m[j]
   ·have HGO2:Hid (l.take (j+1)=m.take (j+1)):=lhd (by rw[List.take_succ_eq_append_getElem hlt,List.take_succ_eq_append_getElem hlt2,HGO.out,he]);rw[←he]at hcell2;generalize l[j]=c at hcell hcell2;obtain⟨c2,hc2⟩:∃c2,c2=c:=⟨_,rfl⟩;rw[←hc2]at hcell2;clear he;obtain⟨nm,ty,sc,sg,rg,mb,lb⟩:=c;obtain⟨nm2,ty2,sc2,sg2,rg2,mb2,lb2⟩:=c2;have d0:wr.cell? ⟨b,o+j*7,none⟩=some (.string (bsB nm)):=hcell 0 _ rfl;have d1:wr.cell? ⟨b,o+j*7+1,none⟩=some (.int .i64 ty):=hcell 1 _ rfl;have d2:wr.cell? ⟨b,o+j*7+2,none⟩=some (.int .i64 sc):=hcell 2 _ rfl;have d3:wr.cell? ⟨b,o+j*7+3,none⟩=some (.int .i64 sg):=hcell 3 _ rfl;have d4:wr.cell? ⟨b,o+j*7+4,none⟩=some (.bool rg):=hcell 4 _ rfl;have d5:wr.cell? ⟨b,o+j*7+5,none⟩=some (.int .i64 mb):=hcell 5 _ rfl;have d6:wr.cell? ⟨b,o+j*7+6,none⟩=some (.int .i64 lb):=hcell 6 _ rfl;have g0:wr.cell? ⟨b2,o2+j*7,none⟩=some (.string (bsB nm2)):=hcell2 0 _ rfl;have g1:wr.cell? ⟨b2,o2+j*7+1,none⟩=some (.int .i64 ty2):=hcell2 1 _ rfl;have g2:wr.cell? ⟨b2,o2+j*7+2,none⟩=some (.int .i64 sc2):=hcell2 2 _ rfl;have g3:wr.cell? ⟨b2,o2+j*7+3,none⟩=some (.int .i64 sg2):=hcell2 3 _ rfl;have g4:wr.cell? ⟨b2,o2+j*7+4,none⟩=some (.bool rg2):=hcell2 4 _ rfl;have g5:wr.cell? ⟨b2,o2+j*7+5,none⟩=some (.int .i64 mb2):=hcell2 5 _ rfl;have g6:wr.cell? ⟨b2,o2+j*7+6,none⟩=some (.int .i64 lb2):=hcell2 6 _ rfl;cases hc2
    clear hcell hcell2;go_wp2_with fail;go_quiet (fail);go_wp2_with fail;go_roundw;case rel=>exact⟨j+1,by omega,by go_num,HGO2.out,below_drewN HB.out _⟩
    case measure=>simp[intOf];omega
   ·have E2:=lhd (show R=false by rw[HR.out,decide_eq_false_iff_not];intro h;subst h;exact he rfl);generalize l[j]=c at hcell he;generalize m[j]=c2 at hcell2 he;have hne:=he;clear he;obtain⟨nm,ty,sc,sg,rg,mb,lb⟩:=c;obtain⟨nm2,ty2,sc2,sg2,rg2,mb2,lb2⟩:=c2;have d0:wr.cell? ⟨b,o+j*7,none⟩=some (.string (bsB nm)):=hcell 0 _ rfl;have d1:wr.cell? ⟨b,o+j*7+1,none⟩=some (.int .i64 ty):=hcell 1 _ rfl;have d2:wr.cell? ⟨b,o+j*7+2,none⟩=some (.int .i64 sc):=hcell 2 _ rfl;have d3:wr.cell? ⟨b,o+j*7+3,none⟩=some (.int .i64 sg):=hcell 3 _ rfl;have d4:wr.cell? ⟨b,o+j*7+4,none⟩=some (.bool rg):=hcell 4 _ rfl;have d5:wr.cell? ⟨b,o+j*7+5,none⟩=some (.int .i64 mb):=hcell 5 _ rfl;have d6:wr.cell? ⟨b,o+j*7+6,none⟩=some (.int .i64 lb):=hcell 6 _ rfl;have g0:wr.cell? ⟨b2,o2+j*7,none⟩=some (.string (bsB nm2)):=hcell2 0 _ rfl;have g1:wr.cell? ⟨b2,o2+j*7+1,none⟩=some (.int .i64 ty2):=hcell2 1 _ rfl;have g2:wr.cell? ⟨b2,o2+j*7+2,none⟩=some (.int .i64 sc2):=hcell2 2 _ rfl;have g3:wr.cell? ⟨b2,o2+j*7+3,none⟩=some (.int .i64 sg2):=hcell2 3 _ rfl;have g4:wr.cell? ⟨b2,o2+j*7+4,none⟩=some (.bool rg2):=hcell2 4 _ rfl;have g5:wr.cell? ⟨b2,o2+j*7+5,none⟩=some (.int .i64 mb2):=hcell2 5 _ rfl;have g6:wr.cell? ⟨b2,o2+j*7+6,none⟩=some (.int .i64 lb2):=hcell2 6 _ rfl;clear hcell hcell2;by_cases h0:nm=nm2
    rotate_left
    ·have hss:=za2 (zbu h0);clear h0 hne;go_wp2_with fail;go_quiet (fail);go_wp2_with fail;go_ret;exact⟨znc E2.out.symm,below_drewN HB.out _⟩
    subst h0;by_cases h1:ty=ty2
    rotate_left
    ·skip
     have hnb:(ty==ty2)=false:=by rw[beq_eq_false_iff_ne];assumption
     clear h1 hne;go_wp2_with fail;go_quiet (fail);go_wp2_with fail;go_ret;exact⟨znc E2.out.symm,below_drewN HB.out _⟩
    subst h1;by_cases h2:sc=sc2
    rotate_left
    ·skip
     have hnb:(sc==sc2)=false:=by rw[beq_eq_false_iff_ne];assumption
     clear h2 hne;go_wp2_with fail;go_quiet (fail);go_wp2_with fail;go_ret;exact⟨znc E2.out.symm,below_drewN HB.out _⟩
    subst h2;by_cases h3:sg=sg2
    rotate_left
    ·skip
     have hnb:(sg==sg2)=false:=by rw[beq_eq_false_iff_ne];assumption
     clear h3 hne;go_wp2_with fail;go_quiet (fail);go_wp2_with fail;go_ret;exact⟨znc E2.out.symm,below_drewN HB.out _⟩
    subst h3;by_cases h4:rg=rg2
    rotate_left
    ·skip
     have hnb:(rg==rg2)=false:=by rw[beq_eq_false_iff_ne];assumption
     clear h4 hne;go_wp2_with fail;go_quiet (fail);go_wp2_with fail;go_ret;exact⟨znc E2.out.symm,below_drewN HB.out _⟩
    subst h4;by_cases h5:mb=mb2
    rotate_left
    ·skip
     have hnb:(mb==mb2)=false:=by rw[beq_eq_false_iff_ne];assumption
     clear h5 hne;go_wp2_with fail;go_quiet (fail);go_wp2_with fail;go_ret;exact⟨znc E2.out.symm,below_drewN HB.out _⟩
    subst h5;by_cases h6:lb=lb2
    rotate_left
    ·skip
     have hnb:(lb==lb2)=false:=by rw[beq_eq_false_iff_ne];assumption
     clear h6 hne;go_wp2_with fail;go_quiet (fail);go_wp2_with fail;go_ret;exact⟨znc E2.out.symm,below_drewN HB.out _⟩
    subst h6;exact absurd rfl hne
  ·have hj':j=l.length:=by omega
   subst hj';have E2:=lhd (show R=true by rw[HR.out,decide_eq_true_iff];have:=HGO.out;rwa [List.take_length,HLEN.out,List.take_length]at this);clear hlt;go_wp2_with fail;go_ret;exact⟨znc E2.out.symm,HB.out⟩
theorem zeE (v u:Value) (l m:List (Int×Int)) (w:World) (hs:SlR w v l.length (gps l)) (ht:SlR w u m.length (gps m)):
 Calls Tryz.prog 44 #[v,u] w fun e w'=>e=.returned (.bool (decide (l=m)))∧Below w.heap.size w w':=by
 obtain⟨a,cap,rfl,hc,hm⟩:=hs.shape;obtain⟨a2,cap2,rfl,hc2,hm2⟩:=ht.shape;unfold maxLen at hm hm2;have HS:=lhd hs;have HT:=lhd ht;clear hs ht;obtain⟨R,hR⟩:∃R,R=decide (l=m):=⟨_,rfl⟩;rw[←hR];by_cases hne:l.length≠m.length
 ·have E:=lhd (show R=false by rw[hR,decide_eq_false_iff_not];intro h;exact hne (by rw[h]));have hb:((l.length:Int) !=(m.length:Int))=true:=by rw[bne_iff_ne];omega
  clear hne hR;go_enter Tryz.func44,Tryz.ntmps44;go_wp2_with fail;go_ret;exact⟨znc E.out.symm,Below.refl _ _⟩
 have hlen:l.length=m.length:=by omega
 have HLEN:=lhd hlen;have HR:=lhd hR;have hb:((l.length:Int) !=(m.length:Int))=false:=by rw[hlen];simp
 clear hne hlen hR;go_enter Tryz.func44,Tryz.ntmps44;go_wp2_with fail
 go_loopw [13] (fun i wr=>∃(j:Nat),j≤l.length∧i=.int .i64 j∧l.take j=m.take j∧Below w.heap.size w wr)
  (fun i _=>l.length-(intOf i).toNat)
 case atStart=>exact⟨0,Nat.zero_le _,rfl,rfl,Below.refl _ _⟩
 case round=>
  obtain⟨j,hj,rfl,hgo,hbw⟩:=hrel;have HGO:=lhd hgo;have HB:=lhd hbw;clear hgo hbw;by_cases hlt:j<l.length
  ·have hlt2:j<m.length:=by have:=HLEN.out;omega
   obtain⟨b,o,rfl,hcell⟩:=(HS.out.below HB.out).gps hlt;obtain⟨b2,o2,rfl,hcell2⟩:=(HT.out.below HB.out).gps hlt2;have q1:(0:Int)≤(j:Int):=by omega
   have q2:(j:Int)<(l.length:Int):=by omega
   have q3:(j:Int)<(m.length:Int):=by omega
   have hw:IntKind.i64.wrap ((j:Int)+1)=(j:Int)+1:=IntWalk.i64_in _ (by omega);by_cases he:l[j]=m[j]
   ·have HGO2:Hid (l.take (j+1)=m.take (j+1)):=lhd (by rw[List.take_succ_eq_append_getElem hlt,List.take_succ_eq_append_getElem hlt2,HGO.out,he]);rw[←he]at hcell2;generalize l[j]=c at hcell hcell2;obtain⟨c2,hc2⟩:∃c2,c2=c:=⟨_,rfl⟩;rw[←hc2]at hcell2;clear he;obtain⟨ty,sc⟩:=c;obtain⟨ty2,sc2⟩:=c2;have d0:wr.cell? ⟨b,o+j*2,none⟩=some (.int .i64 ty):=hcell 0 _ rfl;have d1:wr.cell? ⟨b,o+j*2+1,none⟩=some (.int .i64 sc):=hcell 1 _ rfl;have g0:wr.cell? ⟨b2,o2+j*2,none⟩=some (.int .i64 ty2):=hcell2 0 _ rfl;have g1:wr.cell? ⟨b2,o2+j*2+1,none⟩=some (.int .i64 sc2):=hcell2 1 _ rfl;cases hc2
    clear hcell hcell2;go_wp2_with fail;go_quiet (fail);go_wp2_with fail;go_roundw;case rel=>exact⟨j+1,by omega,by go_num,HGO2.out,below_drewN HB.out _⟩
    case measure=>simp[intOf];omega
   ·have E2:=lhd (show R=false by rw[HR.out,decide_eq_false_iff_not];intro h;subst h;exact he rfl);generalize l[j]=c at hcell he;generalize m[j]=c2 at hcell2 he;have hne:=he;clear he;obtain⟨ty,sc⟩:=c;obtain⟨ty2,sc2⟩:=c2;have d0:wr.cell? ⟨b,o+j*2,none⟩=some (.int .i64 ty):=hcell 0 _ rfl;have d1:wr.cell? ⟨b,o+j*2+1,none⟩=some (.int .i64 sc):=hcell 1 _ rfl;have g0:wr.cell? ⟨b2,o2+j*2,none⟩=some (.int .i64 ty2):=hcell2 0 _ rfl;have g1:wr.cell? ⟨b2,o2+j*2+1,none⟩=some (.int .i64 sc2):=hcell2 1 _ rfl;clear hcell hcell2;by_cases h1:ty=ty2
    rotate_left
    ·skip
     have hnb:(ty==ty2)=false:=by rw[beq_eq_false_iff_ne];assumption
     clear h1 hne;go_wp2_with fail;go_quiet (fail);go_wp2_with fail;go_ret;exact⟨znc E2.out.symm,below_drewN HB.out _⟩
    subst h1;by_cases h2:sc=sc2
    rotate_left
    ·skip
     have hnb:(sc==sc2)=false:=by rw[beq_eq_false_iff_ne];assumption
     clear h2 hne;go_wp2_with fail;go_quiet (fail);go_wp2_with fail;go_ret;exact⟨znc E2.out.symm,below_drewN HB.out _⟩
    subst h2;exact absurd rfl hne
  ·have hj':j=l.length:=by omega
   subst hj';have E2:=lhd (show R=true by rw[HR.out,decide_eq_true_iff];have:=HGO.out;rwa [List.take_length,HLEN.out,List.take_length]at this);clear hlt;go_wp2_with fail;go_ret;exact⟨znc E2.out.symm,HB.out⟩
end Go.Proofs.YtfppgpamkdkckaaGreatDoor
