import Derived.Test.YtcdekelomkcahaaGreatDoorZ00
import Derived.Test.YtcdekelomkcahaaGreatDoorZ11
import Derived.Test.YtcdekelomkcahaaGreatDoorZ13
set_option maxRecDepth 100000
set_option maxHeartbeats 16000000
namespace Go.Proofs.YtcdekelomkcahaaGreatDoor
open Go.RowKit
theorem SlR.news {w:World} {ad:Addr} {n cap:Nat} {xs:List Value} (h:SlR w (.slice (some ad) n cap) n xs) (hx:n=0→xs=[]):∀j u,xs[j]? =some u→w.cell? (ad.add j)=some u:=by
 intro j u hj;rcases Nat.eq_zero_or_pos n with h0|h0
 ·rw[hx h0]at hj;simp at hj
 ·obtain⟨b,o,cap',hv,-,-,hc⟩:=h.at h0;injection hv with e1 _ _;injection e1 with e1;subst e1;rw[zaD];exact hc j u hj
set_option linter.unusedSimpArgs false
theorem zm5 (base g c n a b:Nat) (P M S:List Vr) (w:World) (hg:SO base g n c w (P++(M++S))) (hp:P.length=a) (hM:a+M.length=b) (hn:n≤1000):
 Calls Tryz.prog 150 #[.slice (some ⟨g,0,none⟩) n c,.int .i64 a,.int .i64 b,(.func (.func 57) #[] #[])] w fun e w'=>
  e=.returned (.tuple #[])∧SO base g n c w' (P++(zfL vk M++S))∧Below base w w':=by
 have h6:=hg.len;have h5:=zm4 base g c a b (P++(M++S)) P M S w (by rw[h6];exact hg) rfl hp hM (by rw[h6];exact hn);rw[h6]at h5;exact h5
theorem zm8 (base g c n:Nat) (l:List Vr) (w:World) (hg:SO base g n c w l) (hn:n≤1000):
 Calls Tryz.prog 113 #[.slice (some ⟨g,0,none⟩) n c,.int .i64 n,(.func (.func 57) #[] #[])] w fun e w'=>
  e=.returned (.tuple #[])∧SO base g n c w' (zfL vk l)∧Below base w w':=by
 have H0:=lhd hg;have HN:=lhd (And.intro hg.len hn);clear hg hn;go_enter Tryz.func113,Tryz.ntmps113;go_wp2_with fail;go_loopw [7,8] (fun va vb wr=>∃(a b:Nat) (D R:List Vr),va=.int .i64 a∧vb=.int .i64 b∧b=a+20∧D.length=a∧a+R.length=n∧D++cs vk 20 R=cs vk 20 l∧SO base g n c wr (D++R)∧Below base w wr) (fun va _ _=>n-(intOf va).toNat)
 case atStart=>
  have h9:=HN.out;exact⟨0,20,[],l,rfl,rfl,rfl,rfl,by omega,rfl,H0.out,Below.refl _ _⟩
 case round=>
  obtain⟨a,b,D,R,rfl,rfl,hab,hD,hR,hc,hs,hbw⟩:=hrel;have h9:=HN.out;have HB:=lhd hbw;have HS:=lhd hs;have HC:=lhd hc;by_cases hle:b≤n
  ·have hw:IntKind.i64.wrap ((b:Int)+20)=((b+20:Nat):Int):=by rw[IntWalk.i64_in _ (by omega)];omega
   obtain⟨b2,hb2⟩:∃b2,b+20=b2:=⟨_,rfl⟩;rw[hb2]at hw;have HI:=lhd (zm5 base g c n a b D (R.take 20) (R.drop 20) wr (by rw[List.take_append_drop];exact hs) hD (by rw[List.length_take];omega) h9.2);have HST:=lhd (zcu (k:=vk) (n:=20) (l:=R) (by omega) (by omega));have HX:=lhd (show b=a+20∧D.length=a∧a+R.length=n∧b+20=b2∧n≤1000 from⟨hab,hD,hR,hb2,h9.2⟩);clear hc hs hbw hab hD hR hb2 h9;go_wp2_with fail;refine HI.out.mono ?_;rintro e w1 ⟨rfl,hs1,hb1⟩;have HS1:=lhd hs1;have HB1:=lhd (HB.out.trans hb1);clear hs1 hb1;go_wp2_with fail;clear hw;go_roundw
   case rel=>
    have h9:=HX.out;exact⟨b,b2,D++zfL vk (R.take 20),R.drop 20,rfl,rfl,by omega,by rw[List.length_append,zfO,List.length_take];omega,by rw[List.length_drop];omega,by rw[List.append_assoc,←HST.out];exact HC.out,by rw[List.append_assoc];exact HS1.out,HB1.out⟩
   case measure=>
    have h9:=HX.out;simp[intOf];omega
  ·have hle2:R.length≤20:=by omega
   have HI:=lhd (zm5 base g c n a n D R [] wr (by rw[List.append_nil];exact hs) hD hR h9.2);have HX:=lhd (show D++(zfL vk R++ [])=cs vk 20 l by rw[List.append_nil,←zcs hle2];exact hc);clear hc hs hbw hab hD hR h9 hle2 HS HC;go_wp2_with fail;refine HI.out.mono ?_;rintro e w1 ⟨rfl,hs1,hb1⟩;rw[HX.out]at hs1;have HS1:=lhd hs1;have HB1:=lhd (HB.out.trans hb1);clear hs1 hb1 HI HX HB;go_wp2_with fail;go_loopw [6,7,8,9] (fun vz _ _ _ wr=>∃z:Nat,vz=.int .i64 z∧0<z∧z≤2000∧SO base g n c wr (cs vk z l)∧Below base w wr) (fun vz _ _ _ _=>2000-(intOf vz).toNat)
   case atStart=>exact⟨20,rfl,by omega,by omega,HS1.out,HB1.out⟩
   case round=>
    obtain⟨z,rfl,hz0,hz1,hs2,hb2⟩:=hrel;have h9:=HN.out;have HB2:=lhd hb2;have HS2:=lhd hs2;by_cases hzn:z<n
    ·have HZ:=lhd (show 0<z∧z<n∧n≤1000∧l.length=n from⟨hz0,hzn,h9.2,h9.1⟩);have hzb:z≤1000:=by omega
     have hlz:(z:Int)<(n:Int):=by omega
     clear hz0 hz1 hs2 hb2 h9;go_wp2_with fail;clear hlz;go_loopw [7,8] (fun va vb wi=>∃(a b:Nat) (D R:List Vr),va=.int .i64 a∧vb=.int .i64 b∧b=a+2*z∧D.length=a∧a+R.length=n∧D++cs vk (2*z) R=cs vk (2*z) l∧SO base g n c wi (D++cs vk z R)∧Below base w wi) (fun va _ _=>n-(intOf va).toNat)
     case atStart=>
      have h9:=HZ.out;exact⟨0,2*z,[],l,rfl,by go_num,by omega,rfl,by omega,rfl,HS2.out,HB2.out⟩
     case round=>
      obtain⟨a,b,D,R,rfl,rfl,hab,hD,hR,hc,hs,hbw⟩:=hrel;have h9:=HZ.out;have HB:=lhd hbw;have HS:=lhd hs;have HC:=lhd hc;have hA1:a≤1000:=by omega
      have hA2:b≤4000:=by omega
      have hcm:((a+z:Nat):Int)=(a:Int)+(z:Int):=by omega
      by_cases hle:b≤n
      ·have hsR:2*z≤R.length:=by omega
       obtain⟨k1,k2,k3⟩:=zcw (k:=vk) (n:=z) (l:=R) h9.1 hsR;have hlen1:(zfL vk (R.take z)).length=z:=by rw[zfO,List.length_take];omega
       have hlen2:(zfL vk ((R.drop z).take z)).length=z:=by rw[zfO,List.length_take,List.length_drop];omega
       have HI:=lhd (znb base g c _ n a (a+z) b D (zfL vk (R.take z)) (zfL vk ((R.drop z).take z)) (cs vk z (R.drop (2*z))) wr (Nat.le_refl _) (by rw[←k1];exact hs) hD (by omega) (by omega) (by omega) (by omega) (zfT _) (zfT _) (by omega));rw[k2,hcm]at HI;have HK:=lhd k3;have HX:=lhd (show b=a+2*z∧D.length=a∧a+R.length=n∧2*z≤R.length from⟨hab,hD,hR,hsR⟩);clear hc hs hbw hab hD hR h9 hsR k1 k2 k3 hlen1 hlen2 hcm;go_wp2_with fail;refine HI.out.mono ?_;rintro e w1 ⟨rfl,hs1,hb1⟩;have HS1:=lhd hs1;have HB1:=lhd (HB.out.trans hb1);clear hs1 hb1;go_wp2_with fail;go_roundw
       case rel=>
        have h9:=HX.out;have h8:=HZ.out;refine⟨b,b+2*z,D++zfL vk (R.take (2*z)),R.drop (2*z),rfl,by go_num,by omega,by rw[List.length_append,zfO,List.length_take];omega,by rw[List.length_drop];omega,?_,by rw[List.append_assoc];exact HS1.out,HB1.out⟩;have h7:=HK.out;rw[List.append_assoc,←h7];exact HC.out
       case measure=>
        have h9:=HX.out;have h8:=HZ.out;simp[intOf];omega
      ·by_cases hmn:a+z<n
       ·obtain⟨k1,k2⟩:=zcv (k:=vk) (n:=z) (l:=R) h9.1 (by omega) (by omega);have hlen1:(zfL vk (R.take z)).length=z:=by rw[zfO,List.length_take];omega
        have hlen2:(zfL vk (R.drop z)).length=R.length-z:=by rw[zfO,List.length_drop]
        have HI:=lhd (znb base g c _ n a (a+z) n D (zfL vk (R.take z)) (zfL vk (R.drop z)) [] wr (Nat.le_refl _) (by rw[List.append_nil,←k1];exact hs) hD (by omega) (by omega) (by omega) (by omega) (zfT _) (zfT _) (by omega));rw[k2,List.append_nil,hc,hcm]at HI;have hlm:(a:Int)+(z:Int)<(n:Int):=by omega
        clear hc hs hbw hab hD hR h9 k1 k2 hlen1 hlen2 hmn hcm;go_wp2_with fail;refine HI.out.mono ?_;rintro e w1 ⟨rfl,hs1,hb1⟩;have HS1:=lhd hs1;have HB1:=lhd (HB.out.trans hb1);clear hs1 hb1;go_wp2_with fail;go_roundw
        case rel=>
         have h8:=HZ.out;exact⟨2*z,by go_num,by omega,by omega,HS1.out,HB1.out⟩
        case measure=>
         have h8:=HZ.out;simp[intOf];omega
       ·have HE:=lhd (show SO base g n c wr (cs vk (2*z) l)by
         rw[←hc,zcs (n:=2*z) (l:=R) (by omega),←zcs (k:=vk) (n:=z) (l:=R) (by omega)];exact hs)
        have hlm:¬(a:Int)+(z:Int)<(n:Int):=by omega
        clear hc hs hbw hab hD hR h9 hmn hcm;go_wp2_with fail;go_roundw
        case rel=>
         have h8:=HZ.out;exact⟨2*z,by go_num,by omega,by omega,HE.out,HB.out⟩
        case measure=>
         have h8:=HZ.out;simp[intOf];omega
    ·have HE:=lhd (show SO base g n c wr (zfL vk l)by rw[←zcs (k:=vk) (n:=z) (l:=l) (by omega)];exact hs2);clear hs2 hb2 h9;go_wp2_with fail;go_end0
     exact⟨rfl,HE.out,HB2.out⟩
open Go.RowKit Go.WideMaps
theorem zpu (l:List Vr) (h:l.length=0):vrs l=[]:=by rw[List.length_eq_zero_iff.1 h];rfl
theorem zbS (v:Value) (l:List Vr) (w:World) (hs:SlR w v l.length (vrs l)) (hn:l.length≤1000000):
 Calls Tryz.prog 55 #[v] w fun e w'=>∃v',e=.returned v'∧w'.ownsRow w.heap.size 48 7 v' l.length (vrs l)∧Below w.heap.size w w':=by
 obtain⟨a,cap,rfl,hc,hm,hz,hat⟩:=hs;have hs:SlR w (.slice a l.length cap) l.length (vrs l):=⟨a,cap,rfl,hc,hm,hz,hat⟩;cases a with
 |none=>
  have hcap:=hz rfl;subst hcap;have hq:=Lib.run_eql_slice_nil (P:=Tryz.prog) w 40 48 none l.length 0 0 0 Tryz.underlying40;have h0:l.length=0:=by omega
  have HL:=lhd (zpu l h0);have H0:=lhd h0;clear hs hz hat h0;go_enter Tryz.func55,Tryz.ntmps55;go_wp2_with fail;go_ret;exact⟨_,rfl,by rw[HL.out,H0.out];exact World.ownsRow_nil _ _ _ _,Below.refl _ _⟩
 |some ad=>
  have hq:=Lib.run_eql_slice_nil (P:=Tryz.prog) w 40 48 (some ad) l.length cap 0 0 Tryz.underlying40;obtain⟨i0,hi,iz0,iz1,iz2⟩:=info_parts (P:=Tryz.prog) zpl;have hbw:Below w.heap.size w (w.alloc (.cells #[] 48)):=(Below.refl _ _).alloc (Nat.le_refl _) _;have HN:=lhd ((hs.below hbw).news (zpu l));have hown:(w.alloc (.cells #[] 48)).ownsRow w.heap.size 48 7 (.slice (some ⟨w.heap.size,0,none⟩) 0 0) 0 []:=World.ownsRow_lit w #[] 0 (Nat.le_refl _) (by simp[maxLen]) (by simp);have HOWN:=lhd hown;clear hs hz hat hbw hown;go_enter Tryz.func55,Tryz.ntmps55;go_wp2_with (at_builtin;refine wpList_append_own _ rfl _ _ 40 rfl w.heap.size 48 i0 (.agg #[.string ⟨#[]⟩,.int .i64 0,.int .i64 0,.int .i64 0,.bool false,.int .i64 0,.int .i64 0]) 7 64 Tryz.underlying40 hi iz0 iz1 iz2 rfl (by decide) _ _ _ rfl HOWN.out ad l.length cap (vrs l) rfl (by rw[zpt];omega) HN.out (zpv l) (by unfold maxLen;omega) (by omega) (by simp) ?_)
  intro v' w' ho hg _;have HO:=lhd ho;have HG:=lhd hg;clear ho hg;go_wp2_with fail;go_ret;exact⟨_,rfl,by have:=HO.out;simpa using this,((Below.refl _ _).alloc (Nat.le_refl _) _).grown HG.out (by simp) (by intro k hk;simp[Value.ownBlock]at hk;omega)⟩
def ints (l:List Int):List Value:=l.map (Value.int .i64)
theorem zfE:(Tryz.prog.info? 3).map (fun i=>(i.zero,i.size,i.bytes))=some (some (.int .i64 0),1,8):=by kernel_rfl
theorem zqE (w:World):(zeroValue 3).run Tryz.prog w=.ok (.int .i64 0) w:=by kernel_rfl
def numM (fm:List Int) (x:Int):Option Value:=if x∈fm then some (.int .i64 (fm.idxOf x:Int))else none
theorem zih {fm:List Int} {x:Int} (h:x∉fm) (y:Int):(if y=x then some (Value.int .i64 (fm.length:Int))else numM fm y)=numM (fm++ [x]) y:=by
 unfold numM;by_cases hy:y=x
 ·subst hy;rw[if_pos rfl,if_pos (by simp),List.idxOf_append,if_neg h];simp
 ·rw[if_neg hy];by_cases hm:y∈fm
  ·rw[if_pos hm,if_pos (by simp[hm]),List.idxOf_append,if_pos hm]
  ·rw[if_neg hm,if_neg (by simp[hm,hy])]
theorem zpy {D R:List Vr} (v:Vr) (n:Int):(vrs (D++v::R)).set (D.length*7+3) (.int .i64 n)=vrs (D++{v with sg:=n}::R):=by
 have hl:(vrs D).length=D.length*7:=by rw[zpt,Nat.mul_comm]
 rw[zpq,zpq,zps,zps,←hl];simp only[vrC,List.cons_append,List.nil_append];rw[List.set_append_right _ _ (by omega),Nat.add_sub_cancel_left];simp only[List.set_cons_succ,List.set_cons_zero]
structure NmI (base n:Nat) (v:Value) (bm:Nat) (D R:List Vr) (fm:List Int) (vf:Value) (w W:World):Prop where
 o:W.ownsRow base 48 7 v n (vrs (D++R))
 f:W.ownsRow base 3 1 vf fm.length (ints fm)
 m:KMap (zfC (P:=Tryz.prog) (K:=3) Tryz.underlying3) W bm fm.length (numM fm)
 b:Below base w W
 z:base≤bm
theorem zjc {w:World} {B B' e e' size size' n n':Nat} {v v':Value} {xs xs':List Value} (h:w.ownsRow B e size v n xs) (h':w.ownsRow B' e' size' v' n' xs') (hne:e≠e'):v.ownBlock=none∨v.ownBlock≠v'.ownBlock:=by
 rcases h.2 with⟨rfl,-⟩|⟨g,cap,cur,rfl,-,hg,-⟩
 ·exact .inl rfl
 ·refine .inr fun e=>?_;rcases h'.2 with⟨rfl,-⟩|⟨g2,cap2,cur2,rfl,-,hg2,-⟩
  ·cases e
  ·injection e with e;subst e;rw[hg]at hg2;injection hg2 with hg2;injection hg2 with _ h5 _;exact hne h5
theorem NmI.put {base n g cap bm:Nat} {D R:List Vr} {x:Vr} {fm:List Int} {vf:Value} {w W:World} (h:NmI base n (.slice (some ⟨g,0,none⟩) n cap) bm D (x::R) fm vf w W) (q:Int):
 NmI base n (.slice (some ⟨g,0,none⟩) n cap) bm (D++ [{x with sg:=q}]) R fm vf w (W.setCell ⟨g,D.length*7+3,none⟩ (.int .i64 q)):=by
 have h1:=zjq h.o (D.length*7+3) (.int .i64 q);rw[zpy]at h1;refine⟨by rw[List.append_assoc];exact h1,ownsRow_setCell_other (a:=⟨g,D.length*7+3,none⟩) h.f ?_ _,h.m.setCell (fun e=>?_) _,h.b.setCell (p:=⟨g,D.length*7+3,none⟩) (h.o.lt _ rfl).1 _,h.z⟩
 ·intro e;rcases h.f.2 with⟨e0,-⟩|⟨g',cap',cur,e0,-,hgb,-⟩
  ·rw[e0]at e;cases e
  ·rw[e0]at e;injection e with e;subst e;rcases h.o.2 with⟨e1,-⟩|⟨g2,cap2,cur2,e1,-,hgb2,-⟩
   ·cases e1
   ·injection e1 with e1 _ _;injection e1 with e1;injection e1 with e1 _ _;subst e1;rw[hgb]at hgb2;injection hgb2 with hgb2;injection hgb2 with _ h5 _;exact absurd h5 (by decide)
 ·have:=h.m.ne_row h.o;exact this (by rw[e];rfl)
theorem NmI.new {base n bm:Nat} {w:World} (hz:base≤w.heap.size) {v:Value} {D R:List Vr} {x:Int} {fm:List Int} {vf vf':Value} {W W1 W2:World} (h:NmI base n v bm D R fm vf w W) (hx:x∉fm)
 (hm:KMap (zfC (P:=Tryz.prog) (K:=3) Tryz.underlying3) W1 bm (fm.length+1) (fun y=>if y=x then some (.int .i64 (fm.length:Int))else numM fm y)) (hg:W.grownBy W1 (some bm))
 (hf:W2.ownsRow base 3 1 vf' (fm.length+1) (ints fm++ [.int .i64 x])) (hg2:(W1.alloc (.cells #[.int .i64 x] 3)).grownBy W2 vf.ownBlock):NmI base n v bm D R (fm++ [x]) vf' w W2:=by
 have hal:Below W1.heap.size W1 (W1.alloc (.cells #[.int .i64 x] 3)):=(Below.refl _ _).alloc (Nat.le_refl _) _;have ho1:(W1.alloc (.cells #[.int .i64 x] 3)).ownsRow base 48 7 v n (vrs (D++R)):=zjp (h.o.kept hg (.inr fun e=>h.m.ne_row h.o e.symm)) (Same0.of_below hal);have hf1:(W1.alloc (.cells #[.int .i64 x] 3)).ownsRow base 3 1 vf fm.length (ints fm):=zjp (h.f.kept hg (.inr fun e=>h.m.ne_row h.f e.symm)) (Same0.of_below hal);have hb1:Below base w W1:=h.b.grown hg (Nat.le_trans hz h.b.size) (fun k hk=>by injection hk with hk;have:=h.z;omega);have hm1:=hm.below hal hm.lt;refine⟨ho1.kept hg2 (zjc ho1 hf1 (by decide)),by rw[List.length_append,List.length_singleton];simpa[ints] using hf,?_,((hb1.alloc (Nat.le_trans hz hb1.size) _).grown hg2 (by have:=hb1.size;simp;omega) (fun k hk=>(hf1.lt _ hk).1)),h.z⟩;have hm2:=hm1.kept hg2 (hm1.ne_row hf1);rw[List.length_append,List.length_singleton];exact hm2.ext (fun y=>zih hx y)
theorem zeW (base:Nat) (v:Value) (l:List Vr) (w:World) (hb0:base≤w.heap.size) (ho:w.ownsRow base 48 7 v l.length (vrs l)) (hn:l.length≤1000) (hsg:∀x∈l,(Lit.int .i64 x.sg).wf=true):
 Calls Tryz.prog 59 #[v] w fun e w'=>∃vf,e=.returned vf∧w'.ownsRow base 48 7 v l.length (vrs (numF [] l).1)∧w'.ownsRow base 3 1 vf (numF [] l).2.length (ints (numF [] l).2)∧Below base w w':=by
 obtain⟨i0,hi,iz0,iz1,iz2⟩:=info_parts (P:=Tryz.prog) zfE;obtain⟨a,cap,rfl,-,-⟩:=(SlR.of_own ho).shape;have hmm:= @run_makeMap Tryz.prog
 have HI:=lhd (show NmI base l.length (.slice a l.length cap) w.heap.size [] l [] (.slice none 0 0) w (w.alloc (.map #[] 0))from
  ⟨zjp ho (Same0.of_below ((Below.refl _ _).alloc (Nat.le_refl _) _)),World.ownsRow_nil _ _ _ _,KMap.made _ w,(Below.refl _ _).alloc hb0 _,hb0⟩)
 have HSG:=lhd hsg;clear ho hsg;go_enter Tryz.func59,Tryz.ntmps59;go_wp2_with fail;clear hmm;go_loopw [3,6,7,11] (fun vf _ _ i wr=>∃(k:Nat) (D R:List Vr) (fm:List Int),i=.int .i64 k∧D.length=k∧k+R.length=l.length∧fm.length≤k∧(∀x∈R,x∈l)∧numF [] l=(D++(numF fm R).1,(numF fm R).2)∧NmI base l.length (.slice a l.length cap) w.heap.size D R fm vf w wr) (fun _ _ _ i _=>l.length-(intOf i).toNat)
 case atStart=>exact⟨0,[],l,[],rfl,rfl,by simp,Nat.le_refl _,fun _ h=>h,rfl,HI.out⟩
 case round=>
  obtain⟨k,D,R,fm,rfl,hD,hR,hf,hin,hnu,hI⟩:=hrel;have HII:=lhd hI;obtain⟨fa,fc,rfl,-,-⟩:=(SlR.of_own hI.f).shape;have HN:=lhd hn;cases R with
  |nil=>
   have hkl:k=l.length:=by simpa using hR
   have HNU:=lhd hnu;clear hD hR hf hin hI hnu;subst hkl;go_wp2_with fail;go_ret;refine⟨_,rfl,?_,?_,HII.out.b⟩
   ·rw[HNU.out];exact HII.out.o
   ·rw[HNU.out];exact HII.out.f
  |cons x R=>
   have hlt:k<l.length:=by simp at hR;omega
   have HR:=lhd hR;have HD:=lhd hD;have HIN:=lhd hin;have HNU:=lhd hnu;have hwx:=HSG.out x (hin x (by simp));have hog:=hI.o;rcases hog.2 with⟨-,h0⟩|⟨g,cap',cur,e0,-⟩
   ·omega
   injection e0 with e0 _ e1;subst e0 e1;have hso:SO base g l.length cap wr (D++x::R):=hog;have d3:=hso.at.2.2.2.1;have f3:=zjj hog (k*7+3);rw[hD]at d3;have HLK:=lhd (hI.m.look (t:=100) Tryz.underlying100 (zqE wr) x.sg hwx);have hfk:=hf;clear hD hR hin hnu hI hog hso;obtain⟨nm,ty,sc,sg,rg,mb,lb⟩:=x;dsimp only at d3 HLK hwx;by_cases hc:sg∈fm
   ·obtain⟨q,hq⟩:∃q,fm.idxOf sg=q:=⟨_,rfl⟩
    have hlk:(Instr.lookup 100 (.map (some w.heap.size)) (.int .i64 sg) true).run Tryz.prog wr=.ok (.tuple #[.int .i64 (q:Int),.bool true]) wr:=by
     have:=HLK.out;unfold numM at this;rw[if_pos hc,hq]at this;exact this
    have HNX:=lhd (show numF [] l=((D++ [⟨nm,ty,sc,(q:Int),rg,mb,lb⟩])++(numF fm R).1,(numF fm R).2)by
     rw[HNU.out,zif (by simpa using hc),hq];simp)
    have HP:=lhd (HII.out.put (q:Int));rw[HD.out]at HP;clear hc hq HLK hwx;go_wp2_with fail;go_roundw;case rel=>exact⟨k+1,_,R,fm,by go_num,by simp[HD.out],by have:=HR.out;simp at this;omega,by omega,fun y hy=>HIN.out y (List.mem_cons_of_mem _ hy),HNX.out,HP.out⟩
    case measure=>simp[intOf];omega
   ·have hlk:(Instr.lookup 100 (.map (some w.heap.size)) (.int .i64 sg) true).run Tryz.prog wr=.ok (.tuple #[.int .i64 0,.bool false]) wr:=by
     have:=HLK.out;unfold numM at this;rw[if_neg hc]at this;exact this
    have HNX:=lhd (show numF [] l=((D++ [⟨nm,ty,sc,(fm.length:Int),rg,mb,lb⟩])++(numF (fm++ [sg]) R).1,(numF (fm++ [sg]) R).2)by
     rw[HNU.out,zig (by simpa using hc)];simp)
    have HC:=lhd hc;have HWX:=lhd hwx;clear hc HLK hwx
    go_wp2_with (first
     |(at_builtin;refine wpList_append_own_at _ rfl _ _ 41 rfl base 3 i0 (.int .i64 0) 1 8 Tryz.underlying41 hi iz0 iz1 iz2 rfl (by decide) _ _ _ rfl HF3.out ⟨w3.heap.size,0,none⟩ 1 1 [.int .i64 sg] rfl rfl HNW.out (by simp[Value.oneCell']) (by unfold maxLen;omega) (by omega) (by simp;omega) ?_)
     |(refine zqm _ rfl _ _ _ 100 rfl 3 Tryz.underlying100 w.heap.size fm.length _ rfl HII.out.m (by unfold maxLen;omega) sg (.int .i64 (fm.length:Int)) rfl rfl HWX.out ?_;intro w3 hm3 hg3;have ho3:SO base g l.length cap w3 (D++⟨nm,ty,sc,sg,rg,mb,lb⟩::R):=HII.out.o.kept hg3 (.inr fun e=>HII.out.m.ne_row HII.out.o e.symm);have d4:=ho3.at.2.2.2.1;rw[HD.out]at d4;have f4:=zjj ho3 (k*7+3);have HNW:=lhd (World.news_of_block (w:=w3.alloc (.cells #[.int .i64 sg] 3)) (cs:=#[.int .i64 sg]) (t:=3) (fr:=(0,0)) (by exact heap_alloc_new _ _));have hzz:base≤w3.heap.size:=Nat.le_trans hb0 (Nat.le_trans HII.out.b.size hg3.size);have HF3:=lhd (zjp (HII.out.f.kept hg3 (.inr fun e=>HII.out.m.ne_row HII.out.f e.symm)) (Same0.of_below ((Below.refl w3.heap.size w3).alloc (Nat.le_refl _) (.cells #[.int .i64 sg] 3))));have HM3:=lhd hm3;have HG3:=lhd hg3;clear hm3 hg3 ho3))
    intro v8 w8 ho8 hg8 _ _;have HI8:=lhd (HII.out.new hb0 HC.out HM3.out HG3.out ho8 hg8);clear ho8 hg8 d4 f4 d3 f3 hlk;have ho9:SO base g l.length cap w8 (D++⟨nm,ty,sc,sg,rg,mb,lb⟩::R):=HI8.out.o;have f9:=zjj ho9 (k*7+3);have d9:=ho9.at.2.2.2.1;rw[HD.out]at d9;have HP:=lhd (HI8.out.put (fm.length:Int));rw[HD.out]at HP;clear ho9;go_wp2_with fail;go_roundw;case rel=>exact⟨k+1,_,R,fm++ [sg],by go_num,by simp[HD.out],by have:=HR.out;simp at this;omega,by simp;omega,fun y hy=>HIN.out y (List.mem_cons_of_mem _ hy),HNX.out,HP.out⟩
    case measure=>simp[intOf];omega
theorem zm3 (w:World):Calls Tryz.prog 150 #[.slice none 0 0,.int .i64 0,.int .i64 0,(.func (.func 57) #[] #[])] w fun e w'=>e=.returned (.tuple #[])∧w=w':=by
 go_enter Tryz.func150,Tryz.ntmps150;go_wp2_with fail;refine wp_loop_rounds 1 ?_;rw[rounds_succ];go_wp2_with fail;go_end0
 exact⟨rfl,rfl⟩
theorem zm9 (w:World):Calls Tryz.prog 113 #[.slice none 0 0,.int .i64 0,(.func (.func 57) #[] #[])] w fun e w'=>e=.returned (.tuple #[])∧w=w':=by
 go_enter Tryz.func113,Tryz.ntmps113;go_wp2_with fail;refine wp_loop_rounds 1 ?_;rw[rounds_succ];go_wp2_with fail;refine(zm3 w).mono ?_;rintro e w1 ⟨rfl,rfl⟩;go_wp2_with fail;refine wp_loop_rounds 1 ?_;rw[rounds_succ];go_wp2_with fail;go_end0
 exact⟨rfl,rfl⟩
theorem ze0 (base:Nat) (v:Value) (l:List Vr) (w:World) (ho:w.ownsRow base 48 7 v l.length (vrs l)) (hn:l.length≤1000):
 Calls Tryz.prog 56 #[v,(.func (.func 57) #[] #[])] w fun e w'=>e=.returned (.tuple #[])∧w'.ownsRow base 48 7 v l.length (vrs (zfL vk l))∧Below base w w':=by
 rcases ho.2 with⟨rfl,h0⟩|⟨g,cap,cur,rfl,-⟩
 ·have h1:l=[]:=List.length_eq_zero_iff.1 h0;subst h1;have HO:=lhd ho;clear ho h0;go_enter Tryz.func56,Tryz.ntmps56;go_wp2_with fail;refine(zm9 w).mono ?_;rintro e w1 ⟨rfl,rfl⟩;go_wp2_with fail;go_end0
  exact⟨rfl,HO.out,Below.refl _ _⟩
 ·have HS:=lhd (zm8 base g cap l.length l w ho hn);clear ho;go_enter Tryz.func56,Tryz.ntmps56;go_wp2_with fail;refine HS.out.mono ?_;rintro e w1 ⟨rfl,ho1,hb1⟩;have HO:=lhd ho1;clear ho1 HS;go_wp2_with fail;go_end0
  exact⟨rfl,HO.out,hb1⟩
theorem zbl {s t:Bs} (h:s≠t):bsB s≠bsB t:=fun e=>h (by have:=congrArg (fun b=>b.data.toList) e;simpa[bsB] using this)
theorem zdZ (v u:Value) (l m:List (Sc)) (w:World) (hs:SlR w v l.length (scs l)) (ht:SlR w u m.length (scs m)):
 Calls Tryz.prog 121 #[v,u] w fun e w'=>e=.returned (.bool (decide (l=m)))∧Below w.heap.size w w':=by
 obtain⟨a,cap,rfl,hc,hm⟩:=hs.shape;obtain⟨a2,cap2,rfl,hc2,hm2⟩:=ht.shape;unfold maxLen at hm hm2;have HS:=lhd hs;have HT:=lhd ht;clear hs ht;obtain⟨R,hR⟩:∃R,R=decide (l=m):=⟨_,rfl⟩;rw[←hR];by_cases hne:l.length≠m.length
 ·have E:=lhd (show R=false by rw[hR,decide_eq_false_iff_not];intro h;exact hne (by rw[h]));have hb:((l.length:Int) !=(m.length:Int))=true:=by rw[bne_iff_ne];omega
  clear hne hR;go_enter Tryz.func121,Tryz.ntmps121;go_wp2_with fail;go_ret;exact⟨zle E.out.symm,Below.refl _ _⟩
 have hlen:l.length=m.length:=by omega
 have HLEN:=lhd hlen;have HR:=lhd hR;have hb:((l.length:Int) !=(m.length:Int))=false:=by rw[hlen];simp
 clear hne hlen hR;go_enter Tryz.func121,Tryz.ntmps121;go_wp2_with fail
 go_loopw [13] (fun i wr=>∃(j:Nat),j≤l.length∧i=.int .i64 j∧l.take j=m.take j∧Below w.heap.size w wr)
  (fun i _=>l.length-(intOf i).toNat)
 case atStart=>exact⟨0,Nat.zero_le _,rfl,rfl,Below.refl _ _⟩
 case round=>
  obtain⟨j,hj,rfl,hgo,hbw⟩:=hrel;have HGO:=lhd hgo;have HB:=lhd hbw;clear hgo hbw;by_cases hlt:j<l.length
  ·have hlt2:j<m.length:=by have:=HLEN.out;omega
   obtain⟨b,o,rfl,hcell⟩:=(HS.out.below HB.out).scs hlt;obtain⟨b2,o2,rfl,hcell2⟩:=(HT.out.below HB.out).scs hlt2;have q1:(0:Int)≤(j:Int):=by omega
   have q2:(j:Int)<(l.length:Int):=by omega
   have q3:(j:Int)<(m.length:Int):=by omega
   have hw:IntKind.i64.wrap ((j:Int)+1)=(j:Int)+1:=IntWalk.i64_in _ (by omega);by_cases he:l[j]=m[j]
   ·have HGO2:Hid (l.take (j+1)=m.take (j+1)):=lhd (by rw[List.take_succ_eq_append_getElem hlt,List.take_succ_eq_append_getElem hlt2,HGO.out,he]);rw[←he]at hcell2;generalize l[j]=c at hcell hcell2;obtain⟨c2,hc2⟩:∃c2,c2=c:=⟨_,rfl⟩;rw[←hc2]at hcell2;clear he;obtain⟨nm,ty,sc⟩:=c;obtain⟨nm2,ty2,sc2⟩:=c2;have d0:wr.cell? ⟨b,o+j*3,none⟩=some (.string (bsB nm)):=hcell 0 _ rfl;have d1:wr.cell? ⟨b,o+j*3+1,none⟩=some (.int .i64 ty):=hcell 1 _ rfl;have d2:wr.cell? ⟨b,o+j*3+2,none⟩=some (.int .i64 sc):=hcell 2 _ rfl;have g0:wr.cell? ⟨b2,o2+j*3,none⟩=some (.string (bsB nm2)):=hcell2 0 _ rfl;have g1:wr.cell? ⟨b2,o2+j*3+1,none⟩=some (.int .i64 ty2):=hcell2 1 _ rfl;have g2:wr.cell? ⟨b2,o2+j*3+2,none⟩=some (.int .i64 sc2):=hcell2 2 _ rfl;cases hc2
    clear hcell hcell2;go_wp2_with fail;go_quiet (fail);go_wp2_with fail;go_roundw;case rel=>exact⟨j+1,by omega,by go_num,HGO2.out,za1 HB.out _⟩
    case measure=>simp[intOf];omega
   ·have E2:=lhd (show R=false by rw[HR.out,decide_eq_false_iff_not];intro h;subst h;exact he rfl);generalize l[j]=c at hcell he;generalize m[j]=c2 at hcell2 he;have hne:=he;clear he;obtain⟨nm,ty,sc⟩:=c;obtain⟨nm2,ty2,sc2⟩:=c2;have d0:wr.cell? ⟨b,o+j*3,none⟩=some (.string (bsB nm)):=hcell 0 _ rfl;have d1:wr.cell? ⟨b,o+j*3+1,none⟩=some (.int .i64 ty):=hcell 1 _ rfl;have d2:wr.cell? ⟨b,o+j*3+2,none⟩=some (.int .i64 sc):=hcell 2 _ rfl;have g0:wr.cell? ⟨b2,o2+j*3,none⟩=some (.string (bsB nm2)):=hcell2 0 _ rfl;have g1:wr.cell? ⟨b2,o2+j*3+1,none⟩=some (.int .i64 ty2):=hcell2 1 _ rfl;have g2:wr.cell? ⟨b2,o2+j*3+2,none⟩=some (.int .i64 sc2):=hcell2 2 _ rfl;clear hcell hcell2;by_cases h0:nm=nm2
    rotate_left
    ·have hss:=zaW (zbl h0);clear h0 hne;go_wp2_with fail;go_quiet (fail);go_wp2_with fail;go_ret;exact⟨zle E2.out.symm,za1 HB.out _⟩
    subst h0;by_cases h1:ty=ty2
    rotate_left
    ·skip
     have hnb:(ty==ty2)=false:=by rw[beq_eq_false_iff_ne];assumption
     clear h1 hne;go_wp2_with fail;go_quiet (fail);go_wp2_with fail;go_ret;exact⟨zle E2.out.symm,za1 HB.out _⟩
    subst h1;by_cases h2:sc=sc2
    rotate_left
    ·skip
     have hnb:(sc==sc2)=false:=by rw[beq_eq_false_iff_ne];assumption
     clear h2 hne;go_wp2_with fail;go_quiet (fail);go_wp2_with fail;go_ret;exact⟨zle E2.out.symm,za1 HB.out _⟩
    subst h2;exact absurd rfl hne
  ·have hj':j=l.length:=by omega
   subst hj';have E2:=lhd (show R=true by rw[HR.out,decide_eq_true_iff];have:=HGO.out;rwa [List.take_length,HLEN.out,List.take_length]at this);clear hlt;go_wp2_with fail;go_ret;exact⟨zle E2.out.symm,HB.out⟩
theorem zd0 (v u:Value) (l m:List (Vr)) (w:World) (hs:SlR w v l.length (vrs l)) (ht:SlR w u m.length (vrs m)):
 Calls Tryz.prog 122 #[v,u] w fun e w'=>e=.returned (.bool (decide (l=m)))∧Below w.heap.size w w':=by
 obtain⟨a,cap,rfl,hc,hm⟩:=hs.shape;obtain⟨a2,cap2,rfl,hc2,hm2⟩:=ht.shape;unfold maxLen at hm hm2;have HS:=lhd hs;have HT:=lhd ht;clear hs ht;obtain⟨R,hR⟩:∃R,R=decide (l=m):=⟨_,rfl⟩;rw[←hR];by_cases hne:l.length≠m.length
 ·have E:=lhd (show R=false by rw[hR,decide_eq_false_iff_not];intro h;exact hne (by rw[h]));have hb:((l.length:Int) !=(m.length:Int))=true:=by rw[bne_iff_ne];omega
  clear hne hR;go_enter Tryz.func122,Tryz.ntmps122;go_wp2_with fail;go_ret;exact⟨zle E.out.symm,Below.refl _ _⟩
 have hlen:l.length=m.length:=by omega
 have HLEN:=lhd hlen;have HR:=lhd hR;have hb:((l.length:Int) !=(m.length:Int))=false:=by rw[hlen];simp
 clear hne hlen hR;go_enter Tryz.func122,Tryz.ntmps122;go_wp2_with fail
 go_loopw [13] (fun i wr=>∃(j:Nat),j≤l.length∧i=.int .i64 j∧l.take j=m.take j∧Below w.heap.size w wr)
  (fun i _=>l.length-(intOf i).toNat)
 case atStart=>exact⟨0,Nat.zero_le _,rfl,rfl,Below.refl _ _⟩
 case round=>
  obtain⟨j,hj,rfl,hgo,hbw⟩:=hrel;have HGO:=lhd hgo;have HB:=lhd hbw;clear hgo hbw;by_cases hlt:j<l.length
  ·have hlt2:j<m.length:=by have:=HLEN.out;omega
   obtain⟨b,o,rfl,hcell⟩:=(HS.out.below HB.out).vrs hlt;obtain⟨b2,o2,rfl,hcell2⟩:=(HT.out.below HB.out).vrs hlt2;have q1:(0:Int)≤(j:Int):=by omega
   have q2:(j:Int)<(l.length:Int):=by omega
   have q3:(j:Int)<(m.length:Int):=by omega
   have hw:IntKind.i64.wrap ((j:Int)+1)=(j:Int)+1:=IntWalk.i64_in _ (by omega);by_cases he:l[j]=m[j]
   ·have HGO2:Hid (l.take (j+1)=m.take (j+1)):=lhd (by rw[List.take_succ_eq_append_getElem hlt,List.take_succ_eq_append_getElem hlt2,HGO.out,he]);rw[←he]at hcell2;generalize l[j]=c at hcell hcell2;obtain⟨c2,hc2⟩:∃c2,c2=c:=⟨_,rfl⟩;rw[←hc2]at hcell2;clear he;obtain⟨nm,ty,sc,sg,rg,mb,lb⟩:=c;obtain⟨nm2,ty2,sc2,sg2,rg2,mb2,lb2⟩:=c2;have d0:wr.cell? ⟨b,o+j*7,none⟩=some (.string (bsB nm)):=hcell 0 _ rfl;have d1:wr.cell? ⟨b,o+j*7+1,none⟩=some (.int .i64 ty):=hcell 1 _ rfl;have d2:wr.cell? ⟨b,o+j*7+2,none⟩=some (.int .i64 sc):=hcell 2 _ rfl;have d3:wr.cell? ⟨b,o+j*7+3,none⟩=some (.int .i64 sg):=hcell 3 _ rfl;have d4:wr.cell? ⟨b,o+j*7+4,none⟩=some (.bool rg):=hcell 4 _ rfl;have d5:wr.cell? ⟨b,o+j*7+5,none⟩=some (.int .i64 mb):=hcell 5 _ rfl;have d6:wr.cell? ⟨b,o+j*7+6,none⟩=some (.int .i64 lb):=hcell 6 _ rfl;have g0:wr.cell? ⟨b2,o2+j*7,none⟩=some (.string (bsB nm2)):=hcell2 0 _ rfl;have g1:wr.cell? ⟨b2,o2+j*7+1,none⟩=some (.int .i64 ty2):=hcell2 1 _ rfl;have g2:wr.cell? ⟨b2,o2+j*7+2,none⟩=some (.int .i64 sc2):=hcell2 2 _ rfl;have g3:wr.cell? ⟨b2,o2+j*7+3,none⟩=some (.int .i64 sg2):=hcell2 3 _ rfl;have g4:wr.cell? ⟨b2,o2+j*7+4,none⟩=some (.bool rg2):=hcell2 4 _ rfl;have g5:wr.cell? ⟨b2,o2+j*7+5,none⟩=some (.int .i64 mb2):=hcell2 5 _ rfl;have g6:wr.cell? ⟨b2,o2+j*7+6,none⟩=some (.int .i64 lb2):=hcell2 6 _ rfl;cases hc2
    clear hcell hcell2;go_wp2_with fail;go_quiet (fail);go_wp2_with fail;go_roundw;case rel=>exact⟨j+1,by omega,by go_num,HGO2.out,za1 HB.out _⟩
    case measure=>simp[intOf];omega
   ·have E2:=lhd (show R=false by rw[HR.out,decide_eq_false_iff_not];intro h;subst h;exact he rfl);generalize l[j]=c at hcell he;generalize m[j]=c2 at hcell2 he;have hne:=he;clear he;obtain⟨nm,ty,sc,sg,rg,mb,lb⟩:=c;obtain⟨nm2,ty2,sc2,sg2,rg2,mb2,lb2⟩:=c2;have d0:wr.cell? ⟨b,o+j*7,none⟩=some (.string (bsB nm)):=hcell 0 _ rfl;have d1:wr.cell? ⟨b,o+j*7+1,none⟩=some (.int .i64 ty):=hcell 1 _ rfl;have d2:wr.cell? ⟨b,o+j*7+2,none⟩=some (.int .i64 sc):=hcell 2 _ rfl;have d3:wr.cell? ⟨b,o+j*7+3,none⟩=some (.int .i64 sg):=hcell 3 _ rfl;have d4:wr.cell? ⟨b,o+j*7+4,none⟩=some (.bool rg):=hcell 4 _ rfl;have d5:wr.cell? ⟨b,o+j*7+5,none⟩=some (.int .i64 mb):=hcell 5 _ rfl;have d6:wr.cell? ⟨b,o+j*7+6,none⟩=some (.int .i64 lb):=hcell 6 _ rfl;have g0:wr.cell? ⟨b2,o2+j*7,none⟩=some (.string (bsB nm2)):=hcell2 0 _ rfl;have g1:wr.cell? ⟨b2,o2+j*7+1,none⟩=some (.int .i64 ty2):=hcell2 1 _ rfl;have g2:wr.cell? ⟨b2,o2+j*7+2,none⟩=some (.int .i64 sc2):=hcell2 2 _ rfl;have g3:wr.cell? ⟨b2,o2+j*7+3,none⟩=some (.int .i64 sg2):=hcell2 3 _ rfl;have g4:wr.cell? ⟨b2,o2+j*7+4,none⟩=some (.bool rg2):=hcell2 4 _ rfl;have g5:wr.cell? ⟨b2,o2+j*7+5,none⟩=some (.int .i64 mb2):=hcell2 5 _ rfl;have g6:wr.cell? ⟨b2,o2+j*7+6,none⟩=some (.int .i64 lb2):=hcell2 6 _ rfl;clear hcell hcell2;by_cases h0:nm=nm2
    rotate_left
    ·have hss:=zaW (zbl h0);clear h0 hne;go_wp2_with fail;go_quiet (fail);go_wp2_with fail;go_ret;exact⟨zle E2.out.symm,za1 HB.out _⟩
    subst h0;by_cases h1:ty=ty2
    rotate_left
    ·skip
     have hnb:(ty==ty2)=false:=by rw[beq_eq_false_iff_ne];assumption
     clear h1 hne;go_wp2_with fail;go_quiet (fail);go_wp2_with fail;go_ret;exact⟨zle E2.out.symm,za1 HB.out _⟩
    subst h1;by_cases h2:sc=sc2
    rotate_left
    ·skip
     have hnb:(sc==sc2)=false:=by rw[beq_eq_false_iff_ne];assumption
     clear h2 hne;go_wp2_with fail;go_quiet (fail);go_wp2_with fail;go_ret;exact⟨zle E2.out.symm,za1 HB.out _⟩
    subst h2;by_cases h3:sg=sg2
    rotate_left
    ·skip
     have hnb:(sg==sg2)=false:=by rw[beq_eq_false_iff_ne];assumption
     clear h3 hne;go_wp2_with fail;go_quiet (fail);go_wp2_with fail;go_ret;exact⟨zle E2.out.symm,za1 HB.out _⟩
    subst h3;by_cases h4:rg=rg2
    rotate_left
    ·skip
     have hnb:(rg==rg2)=false:=by rw[beq_eq_false_iff_ne];assumption
     clear h4 hne;go_wp2_with fail;go_quiet (fail);go_wp2_with fail;go_ret;exact⟨zle E2.out.symm,za1 HB.out _⟩
    subst h4;by_cases h5:mb=mb2
    rotate_left
    ·skip
     have hnb:(mb==mb2)=false:=by rw[beq_eq_false_iff_ne];assumption
     clear h5 hne;go_wp2_with fail;go_quiet (fail);go_wp2_with fail;go_ret;exact⟨zle E2.out.symm,za1 HB.out _⟩
    subst h5;by_cases h6:lb=lb2
    rotate_left
    ·skip
     have hnb:(lb==lb2)=false:=by rw[beq_eq_false_iff_ne];assumption
     clear h6 hne;go_wp2_with fail;go_quiet (fail);go_wp2_with fail;go_ret;exact⟨zle E2.out.symm,za1 HB.out _⟩
    subst h6;exact absurd rfl hne
  ·have hj':j=l.length:=by omega
   subst hj';have E2:=lhd (show R=true by rw[HR.out,decide_eq_true_iff];have:=HGO.out;rwa [List.take_length,HLEN.out,List.take_length]at this);clear hlt;go_wp2_with fail;go_ret;exact⟨zle E2.out.symm,HB.out⟩
end Go.Proofs.YtcdekelomkcahaaGreatDoor
