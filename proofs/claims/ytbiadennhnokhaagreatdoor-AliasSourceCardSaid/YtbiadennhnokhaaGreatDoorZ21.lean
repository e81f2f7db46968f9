import Derived.Test.YtbiadennhnokhaaGreatDoorZ00
import Derived.Test.YtbiadennhnokhaaGreatDoorZ14
import Derived.Test.YtbiadennhnokhaaGreatDoorZ18
set_option maxRecDepth 100000
set_option maxHeartbeats 16000000
namespace Go.Proofs.YtbiadennhnokhaaGreatDoor
open Go.RowKit
def winR (k n:Int) (l:List Ch) (from_ to_:Int):List Ch:=if sv k n l=false then []else if to_<from_ then []else(l.take (lo l (min to_ 1099511627776+1))).drop (lo l from_)
def zaC (r:List Ch) (w:World) (e:Ending) (w':World):Prop:=∃v',e=.returned v'∧SlR w' v' r.length (chs r)∧Below w.heap.size w w'
theorem zaC.nil {w W:World} (h:Below w.heap.size w W):zaC [] w (.returned (.slice none 0 0)) W:=⟨_,rfl,SlR.nil _,h⟩
theorem SlR.part {w:World} {b o cap:Nat} {l:List Ch} (h:SlR w (.slice (some ⟨b,o,none⟩) l.length cap) l.length (chs l)) (i j:Nat) (hij:i<j) (hj:j≤l.length):
 SlR w (.slice (some ⟨b,o+i*2,none⟩) (j-i) (cap-i)) ((l.take j).drop i).length (chs ((l.take j).drop i)):=by
 obtain⟨b',o',cap',hv,h1,h2,hc⟩:=h.at (by omega);injection hv with e1 _ e3;injection e1 with e1;injection e1 with e1 e2 _;subst e1 e2 e3;have hl:((l.take j).drop i).length=j-i:=by simp;omega
 rw[hl];refine⟨_,_,rfl,by omega,by omega,fun h=>by simp at h,fun _=>⟨b,o+i*2,rfl,fun x u hx=>?_⟩⟩
 have hs:chs l=chs (l.take i)++(chs ((l.take j).drop i)++chs (l.drop j)):=by
  rw[←zcG,←zcG];congr 1
  have h3:l.take i=(l.take j).take i:=by rw[List.take_take,Nat.min_eq_left (by omega)]
  rw[h3,←List.append_assoc,List.take_append_drop,List.take_append_drop]
 have hx':=(List.getElem?_eq_some_iff.1 hx).1;have h4:(chs (l.take i)).length=i*2:=by rw[zcK];simp;omega
 have:=hc (i*2+x) u (by
  rw[hs,List.getElem?_append_right (by omega),h4,Nat.add_sub_cancel_left,List.getElem?_append_left hx'];exact hx)
 rwa [←Nat.add_assoc]at this
theorem zmZ (k n:Int) (v:Value) (l:List Ch) (from_ to_:Int) (w:World) (hg:Glob w) (hs:SlR w v l.length (chs l)) (hf:Fit l) (hto: -9223372036854775808≤to_) (hto':to_≤9223372036854775807):
 Calls Tryz.prog 36 #[.agg #[.int .i64 k,.int .i64 n,v],.int .i64 from_,.int .i64 to_] w (zaC (winR k n l from_ to_) w):=by
 obtain⟨a,cap,rfl,hc,hm⟩:=hs.shape;have hbw:Below w.heap.size w (w.alloc (.cells #[.int .i64 k,.int .i64 n,.slice a l.length cap] 45)):=(Below.refl _ _).alloc (Nat.le_refl _) _;have HV:=lhd (zmY k n _ l _ (hg.below hbw) (hs.below hbw) hf);have HS:=lhd hs;have hln:=hf.1;unfold maxLen at hm;clear hg hs hf hbw;cases hv:sv k n l
 ·have HR:=lhd (show winR k n l from_ to_=[]by unfold winR;rw[if_pos hv]);go_enter Tryz.func36,Tryz.ntmps36;go_wp2_with fail;refine HV.out.mono ?_;rintro e w1 ⟨rfl,hb⟩;rw[hv];clear hv;go_wp2_with fail;go_ret;rw[HR.out];exact zaC.nil (zeF hb)
 obtain⟨hst,-,-,-⟩:=zoM hv;by_cases hft:to_<from_
 ·have HR:=lhd (show winR k n l from_ to_=[]by unfold winR;rw[if_neg (by rw[hv];simp),if_pos hft]);clear hst;go_enter Tryz.func36,Tryz.ntmps36;go_wp2_with fail;refine HV.out.mono ?_;rintro e w1 ⟨rfl,hb⟩;rw[hv];clear hv;go_wp2_with fail;go_ret;rw[HR.out];exact zaC.nil (zeF hb)
 have HR:=lhd (show winR k n l from_ to_=(l.take (lo l (min to_ 1099511627776+1))).drop (lo l from_)by unfold winR;rw[if_neg (by rw[hv];simp),if_neg hft]);have hle:from_≤to_:=by omega
 have HST:=lhd hst;have hwrap:IntKind.i64.wrap (min to_ 1099511627776+1)=min to_ 1099511627776+1:=IntWalk.i64_in _ (by omega);have hlo1:=zhN l from_;have hlo2:=zhN l (min to_ 1099511627776+1);clear hst hft;go_enter Tryz.func36,Tryz.ntmps36;go_wp2_with fail;refine HV.out.mono ?_;rintro e w1 ⟨rfl,hb⟩;obtain⟨c0,c1,c2⟩:=box3 hb;rw[hv];have HS1:=lhd (HS.out.below (zeF hb));have HB0:=lhd (zeF hb);clear hv hb;go_upto_region 3 with fail
 go_region_held3 (fun w'=>w'.cell? ⟨w.heap.size,0,none⟩=some (.int .i64 k)∧w'.cell? ⟨w.heap.size,1,none⟩=some (.int .i64 n)∧w'.cell? ⟨w.heap.size,2,none⟩=some (.slice a l.length cap)) (first|exact⟨r0,r1,r2⟩|exact⟨s0,s1,s2⟩|go_keep)
  (first
    |(go_at_call 98;(with_reducible refine(zm6 k n _ l _ w1.drew ?_ hln HST.out).mono ?_);(exact HS1.out);rintro e w2 ⟨rfl,hb2⟩;have s0:=(hb2.cell (p:=⟨w.heap.size,0,none⟩) (zcn c0)).trans c0;have s1:=(hb2.cell (p:=⟨w.heap.size,1,none⟩) (zcn c0)).trans c1;have s2:=(hb2.cell (p:=⟨w.heap.size,2,none⟩) (zcn c0)).trans c2;have HB2:=lhd hb2;clear hb2)
    |(go_at_call 98;(with_reducible refine(zm6 k n _ l _ _ ?_ hln HST.out).mono ?_);(exact SlR.below (w:=w1.drew) HS1.out HB2.out);rintro e w3 ⟨rfl,hb3⟩;have hb23:=zeG HB2.out hb3;have r0:=(hb23.cell (p:=⟨w.heap.size,0,none⟩) (zcn c0)).trans c0;have r1:=(hb23.cell (p:=⟨w.heap.size,1,none⟩) (zcn c0)).trans c1;have r2:=(hb23.cell (p:=⟨w.heap.size,2,none⟩) (zcn c0)).trans c2;have HB3:=lhd hb23;clear hb23 hb3))
 all_goals
  by_cases hab:lo l from_<lo l (min to_ 1099511627776+1)
  ·obtain⟨b,o,cap',hv',-,-,-⟩:=HS.out.at (by omega);injection hv' with e1 e2 e3;subst e1;clear e2 e3;have hne:cap≠lo l from_:=by omega
   have HP:=lhd ((HS.out.below (zeG HB0.out.drew HB3.out)).part _ _ hab hlo2);have hpl:((l.take (lo l (min to_ 1099511627776+1))).drop (lo l from_)).length=lo l (min to_ 1099511627776+1)-lo l from_:=by simp;omega
   have hpl2:((l.take (lo l (min to_ 1099511627776+1))).drop (lo l from_)).length≤1000000:=by omega
   have HPL:=lhd hpl;clear hpl;go_wp2_with fail;generalize (l.take (lo l (min to_ 1099511627776+1))).drop (lo l from_)=r at*;rw[←HPL.out]at HP⊢;refine(zcQ _ r _ HP.out hpl2).mono ?_;rintro e w4 ⟨v4,rfl,ho,hb4⟩;go_wp2_with fail;go_ret;exact⟨_,rfl,by rw[HR.out];exact SlR.of_own ho,zeG (zeG HB0.out.drew HB3.out) hb4⟩
  ·have HE:=lhd (show(l.take (lo l (min to_ 1099511627776+1))).drop (lo l from_)=[]by rw[List.drop_eq_nil_iff,List.length_take];omega);have hab':lo l (min to_ 1099511627776+1)≤lo l from_:=by omega
   clear hab;go_wp2_with fail;go_ret;rw[HR.out,HE.out];exact zaC.nil (zeG HB0.out.drew HB3.out)
abbrev SigR:=(Int×Int×List Ch)×Int
def zax (r:SigR) (w:World) (e:Ending) (w':World):Prop:=∃v',e=.returned (.tuple #[.agg #[.int .i64 r.1.1,.int .i64 r.1.2.1,v'],.int .i64 r.2])∧w'.ownsRow w.heap.size 53 2 v' r.1.2.2.length (chs r.1.2.2)∧Below w.heap.size w w'
theorem zax.zero {w W:World} (e:Int) (h:Below w.heap.size w W):zax ((0,0,[]),e) w (.returned (.tuple #[.agg #[.int .i64 0,.int .i64 0,.slice none 0 0],.int .i64 e])) W:=⟨_,rfl,World.ownsRow_nil _ _ _ _,h⟩
def zhZ (k n:Int) (l:List Ch):SigR:=if 4096<(zi2 k n l).length then((0,0,[]),9)else((k,n,zi2 k n l),0)
theorem zkq {w:World} {base e size:Nat} {v:Value} {n:Nat} {xs:List Value} {b:Nat} (h:w.ownsRow base e size v n xs) (hb:b<base) (p q r:Value):
 (((w.setCell ⟨b,0,none⟩ p).setCell ⟨b,1,none⟩ q).setCell ⟨b,2,none⟩ r).ownsRow base e size v n xs:=
 ownsRow_setCell_below (ownsRow_setCell_below (ownsRow_setCell_below h hb _) hb _) hb _
theorem zko {w:World} {base base' e size:Nat} {v:Value} {n:Nat} {xs:List Value} (h:w.ownsRow base e size v n xs) (hb:base'≤base):w.ownsRow base' e size v n xs:=by
 refine⟨h.1,?_⟩;rcases h.2 with h2|⟨g,cap,cur,h1,h2,h3⟩
 ·exact .inl h2
 ·exact .inr ⟨g,cap,cur,h1,by omega,h3⟩
theorem zbH {w W:World} (h:Below w.heap.size w W) (p q r:Value):Below w.heap.size w (((W.setCell ⟨w.heap.size,0,none⟩ p).setCell ⟨w.heap.size,1,none⟩ q).setCell ⟨w.heap.size,2,none⟩ r):=
 ((h.setCell (Nat.le_refl _) _).setCell (Nat.le_refl _) _).setCell (Nat.le_refl _) _
theorem zm8 (k n:Int) (v:Value) (l:List Ch) (w:World) (hs:SlR w v l.length (chs l)) (hl:l.length≤1000000):
 Calls Tryz.prog 84 #[.int .i64 k,.int .i64 n,v] w (zax (zhZ k n l) w):=by
 obtain⟨a,cap,rfl,hc,hm⟩:=hs.shape;have hbw:Below w.heap.size w (w.alloc (.cells #[.int .i64 0,.int .i64 0,.slice none 0 0] 45)):=(Below.refl _ _).alloc (Nat.le_refl _) _;have HN:=lhd (zm9 k n _ l _ (hs.below hbw) hl);have hnl:(zi2 k n l).length≤l.length:=ziV k l _;clear hs hbw;go_enter Tryz.func84,Tryz.ntmps84;go_wp2_with fail;refine HN.out.mono ?_;rintro e w1 ⟨v1,rfl,ho,hb⟩;obtain⟨a1,cap1,rfl,hc1,hm1⟩:=(SlR.of_own ho).shape;obtain⟨c0,c1,c2⟩:=box3 hb;obtain⟨f0,f1,f2⟩:=zbW hb;have HB:=lhd (zeF hb);have HO:=lhd ho;clear hb ho;by_cases hbig:4096<(zi2 k n l).length
 ·have HR:=lhd (show zhZ k n l=((0,0,[]),9)by unfold zhZ;rw[if_pos hbig]);go_wp2_with fail;refine bodyPost_ret (v:=.tuple #[.agg #[.int .i64 0,.int .i64 0,.slice none 0 0],.int .i64 9]) (by simp[results,Tryz.results84,go_sem,c0,c1,c2]) rfl ?_;rw[HR.out];exact zax.zero 9 (zbH HB.out _ _ _)
 ·have HR:=lhd (show zhZ k n l=((k,n,zi2 k n l),0)by unfold zhZ;rw[if_neg hbig]);go_wp2_with fail;refine bodyPost_ret (v:=.tuple #[.agg #[.int .i64 k,.int .i64 n,.slice a1 (zi2 k n l).length cap1],.int .i64 0]) (by simp[results,Tryz.results84,go_sem,c0,c1,c2]) rfl ?_;rw[HR.out];exact⟨_,rfl,zko (zkq HO.out (by simp) _ _ _) (by simp),zbH HB.out _ _ _⟩
def nzGo (k n:Int) (at_:Int):List Ch→Int
 | []=>0
 |c::l=>if c.1<at_∨1099511627776<c.1 then 2 else if vv k n c.2=false then 1 else nzGo k n c.1 l
def zi4 (k n:Int) (l:List Ch):SigR:=if vt k n=false then((0,0,[]),7)else if nzGo k n 0 l≠0 then((0,0,[]),nzGo k n 0 l)else zhZ k n l
theorem zmU (k n:Int) (v:Value) (l:List Ch) (w:World) (hg:Glob w) (hs:SlR w v l.length (chs l)) (hf:Fit l):
 Calls Tryz.prog 27 #[.int .i64 k,.int .i64 n,v] w (zax (zi4 k n l) w):=by
 obtain⟨a,cap,rfl,hc,hm⟩:=hs.shape;have hln:=hf.1;unfold maxLen at hm;have HS:=lhd hs;have HG:=lhd hg;have HF:=lhd hf;clear hs hg hf;go_enter Tryz.func27,Tryz.ntmps27;go_wp2_with fail;refine(zpV k n _).mono ?_;rintro e w1 ⟨rfl,hb⟩;cases hv:vt k n
 ·obtain⟨c0,c1,c2⟩:=box3 hb;obtain⟨f0,f1,f2⟩:=zbW hb;have HR:=lhd (show zi4 k n l=((0,0,[]),7)by unfold zi4;rw[if_pos hv]);have HB:=lhd (zeF hb);clear hv hb;go_wp2_with fail;refine bodyPost_ret (v:=.tuple #[.agg #[.int .i64 0,.int .i64 0,.slice none 0 0],.int .i64 7]) (by simp[results,Tryz.results27,go_sem,c0,c1,c2]) rfl ?_;rw[HR.out];exact zax.zero 7 (zbH HB.out _ _ _)
 have hR:zi4 k n l=if nzGo k n 0 l≠0 then((0,0,[]),nzGo k n 0 l)else zhZ k n l:=by unfold zi4;rw[if_neg (by rw[hv];simp)]
 have HR:=lhd hR;have HB:=lhd hb;clear hv hb hR;go_wp2_with fail
 go_loopw [8,18] (fun a_ i wr=>∃(j:Nat) (at_:Int),j≤l.length∧i=.int .i64 j∧a_=.int .i64 at_∧nzGo k n at_ (l.drop j)=nzGo k n 0 l∧
  Below (w.alloc (.cells #[.int .i64 0,.int .i64 0,.slice none 0 0] 45)).heap.size (w.alloc (.cells #[.int .i64 0,.int .i64 0,.slice none 0 0] 45)) wr)
  (fun _ i _=>l.length-(intOf i).toNat)
 case atStart=>exact⟨0,0,Nat.zero_le _,rfl,rfl,rfl,HB.out⟩
 case round=>
  obtain⟨j,at_,hj,rfl,rfl,hgo,hb⟩:=hrel;obtain⟨c0,c1,c2⟩:=box3 hb;obtain⟨f0,f1,f2⟩:=zbW hb;have hsz0:w.heap.size<wr.heap.size:=by have:=hb.size;simp at this;omega
  have HGO:=lhd hgo;have HB2:=lhd hb;have HBW:=lhd (zeF hb);clear hgo hb HB;by_cases hlt:j<l.length
  ·obtain⟨b,o,rfl,d0,d1⟩:=(HS.out.below HBW.out).ch hlt
   have hfit:l[j].2.size≤maxLen:=by
    have:=HF.out.2 l[j] (List.getElem_mem hlt);unfold maxLen;omega
   have HGO2:Hid ((if l[j].1<at_∨1099511627776<l[j].1 then 2 else if vv k n l[j].2=false then 1 else nzGo k n l[j].1 (l.drop (j+1)))=nzGo k n 0 l):=lhd (by
    have:=HGO.out;rw[List.drop_eq_getElem_cons hlt,nzGo]at this;exact this)
   generalize l[j]=c at d0 d1 hfit HGO2;obtain⟨t,s⟩:=c;simp only at d0 d1 hfit;by_cases hA:t<at_∨1099511627776<t
   ·have e:nzGo k n 0 l=2:=by rw[←HGO2.out,if_pos hA]
    have E2:=lhd (show zi4 k n l=((0,0,[]),2)by rw[HR.out,e,if_pos (by decide)]);clear e;rcases hA with hA|hA
    all_goals
     go_wp2_with fail
    all_goals
     obtain⟨e0,e1,e2⟩:=set3 c0 c1 c2 (.int .i64 0) (.int .i64 0) (.slice none 0 0);have e0:=zcm e0 (.cells #[.int .i64 t,.string s] 53);have e1:=zcm e1 (.cells #[.int .i64 t,.string s] 53);have e2:=zcm e2 (.cells #[.int .i64 t,.string s] 53);refine bodyPost_ret (v:=.tuple #[.agg #[.int .i64 0,.int .i64 0,.slice none 0 0],.int .i64 2]) (by simp[results,Tryz.results27,go_sem,e0,e1,e2]) rfl ?_;rw[E2.out];exact zax.zero 2 ((zbH HBW.out _ _ _).alloc (by simp;omega) _)
   ·obtain⟨hA1,hA2⟩:at_≤t∧t≤1099511627776:=by omega
    have HGO3:=lhd ((if_neg hA).symm.trans HGO2.out);clear hA;have hbw2:=HBW.out.alloc (by omega) (.cells #[.int .i64 t,.string s] 53);have HVal:=lhd (zpU k n s _ (HG.out.below hbw2) hfit);clear hbw2;cases hV:vv k n s
    ·have e:nzGo k n 0 l=1:=by rw[←HGO3.out,if_pos hV]
     have E2:=lhd (show zi4 k n l=((0,0,[]),1)by rw[HR.out,e,if_pos (by decide)]);clear e;go_wp2_with fail;refine HVal.out.mono ?_;rintro e w3 ⟨rfl,hb3⟩;rw[hV];clear hV;have hb4:=zeG HB2.out (zeF hb3);obtain⟨c0',c1',c2'⟩:=box3 hb4;obtain⟨f0',f1',f2'⟩:=zbW hb4;have HB4:=lhd (zeF hb4);clear hb4 hb3 c0 c1 c2 f0 f1 f2;go_wp2_with fail;refine bodyPost_ret (v:=.tuple #[.agg #[.int .i64 0,.int .i64 0,.slice none 0 0],.int .i64 1]) (by simp[results,Tryz.results27,go_sem,c0',c1',c2']) rfl ?_;rw[E2.out];exact zax.zero 1 (zbH HB4.out _ _ _)
    ·have e:nzGo k n t (l.drop (j+1))=nzGo k n 0 l:=by rw[←HGO3.out,if_neg (by rw[hV];simp)]
     have E2:=lhd e;clear e;go_wp2_with fail;refine HVal.out.mono ?_;rintro e w3 ⟨rfl,hb3⟩;rw[hV];have hb4:=zeG HB2.out (zeF hb3);have p0:w3.cell? ⟨wr.heap.size,0,none⟩=some (.int .i64 t):=(boxN hb3 0).1;have HB4:=lhd hb4;clear hb4 hb3 c0 c1 c2 f0 f1 f2 hV;go_wp2_with fail;go_roundw;case rel=>exact⟨j+1,t,by omega,by go_num,rfl,E2.out,HB4.out⟩
     case measure=>simp[intOf];omega
  ·obtain rfl:j=l.length:=by omega
   have e:nzGo k n 0 l=0:=by rw[←HGO.out,List.drop_length];rfl
   have E2:=lhd (show zi4 k n l=zhZ k n l by rw[HR.out,e];simp);clear e;go_wp2_with fail;refine(zm8 k n _ l _ (HS.out.below HBW.out) hln).mono ?_;rintro e w3 ⟨v3,rfl,ho3,hb3⟩;obtain⟨a3,cap3,rfl,-,-⟩:=(SlR.of_own ho3).shape;have hb4:=zeG HB2.out hb3;obtain⟨c0',c1',c2'⟩:=box3 hb4;obtain⟨f0',f1',f2'⟩:=zbW hb4;have HB4:=lhd (zeF hb4);have HO3:=lhd ho3;clear hb4 hb3 c0 c1 c2 f0 f1 f2 ho3;go_wp2_with fail;refine bodyPost_ret (v:=.tuple #[.agg #[.int .i64 (zhZ k n l).1.1,.int .i64 (zhZ k n l).1.2.1,.slice a3 (zhZ k n l).1.2.2.length cap3],.int .i64 (zhZ k n l).2]) (by simp[results,Tryz.results27,go_sem,c0',c1',c2']) rfl ?_;rw[E2.out];exact⟨_,rfl,zko (zkq HO3.out hsz0 _ _ _) (by omega),zbH HB4.out _ _ _⟩
theorem zbX {w W:World} {X:Obj} {x y z:Value} {T:TypeId} (hb:Below ((w.alloc X).alloc (.cells #[x,y,z] T)).heap.size ((w.alloc X).alloc (.cells #[x,y,z] T)) W):
 (W.cell? ⟨w.heap.size+1,0,none⟩=some x∧W.cell? ⟨w.heap.size+1,1,none⟩=some y∧W.cell? ⟨w.heap.size+1,2,none⟩=some z)∧W.frozen? ⟨w.heap.size+1,0,none⟩=false∧W.frozen? ⟨w.heap.size+1,1,none⟩=false∧W.frozen? ⟨w.heap.size+1,2,none⟩=false:=by
 have h:=fun i=>boxN hb i;simp only[World.size_alloc]at h;exact⟨⟨(h 0).1,(h 1).1,(h 2).1⟩,(h 0).2,(h 1).2,(h 2).2⟩
theorem zbI {w W:World} {B:Nat} (h:Below B w W) {b:Nat} (hb:B≤b) (p q r:Value):Below B w (((W.setCell ⟨b,0,none⟩ p).setCell ⟨b,1,none⟩ q).setCell ⟨b,2,none⟩ r):=
 ((h.setCell hb _).setCell hb _).setCell hb _
theorem zbL {w W:World} (h:Below w.drew.heap.size w.drew W):Below w.heap.size w W:=⟨h.os,h.tape,h.output,h.size,h.block⟩
theorem zbY {w W:World} {B b:Nat} {x y z:Value} (h:Below B w W) (hb:b<B) (p0:w.cell? ⟨b,0,none⟩=some x) (p1:w.cell? ⟨b,1,none⟩=some y) (p2:w.cell? ⟨b,2,none⟩=some z)
 (q0:w.frozen? ⟨b,0,none⟩=false) (q1:w.frozen? ⟨b,1,none⟩=false) (q2:w.frozen? ⟨b,2,none⟩=false):
 W.cell? ⟨b,0,none⟩=some x∧W.cell? ⟨b,1,none⟩=some y∧W.cell? ⟨b,2,none⟩=some z∧W.frozen? ⟨b,0,none⟩=false∧W.frozen? ⟨b,1,none⟩=false∧W.frozen? ⟨b,2,none⟩=false:=
 ⟨(h.cell (p:=⟨b,0,none⟩) hb).trans p0,(h.cell (p:=⟨b,1,none⟩) hb).trans p1,(h.cell (p:=⟨b,2,none⟩) hb).trans p2,
  (h.frozen (p:=⟨b,0,none⟩) hb).trans q0,(h.frozen (p:=⟨b,1,none⟩) hb).trans q1,(h.frozen (p:=⟨b,2,none⟩) hb).trans q2⟩
def zd7 (g:Ch→Ch×Bool) (l:List Ch):List Ch:=l.filterMap fun c=>if(g c).2=true then some (g c).1 else none
theorem zea (g:Ch→Ch×Bool) (l:List Ch) (j:Nat) (h:j<l.length):zd7 g (l.take (j+1))=zd7 g (l.take j)++(if(g l[j]).2=true then [(g l[j]).1]else []):=by
 rw[List.take_succ_eq_append_getElem h];unfold zd7;rw[List.filterMap_append];congr 1
 by_cases hg:(g l[j]).2=true<;>simp[hg]
theorem zd8 (g:Ch→Ch×Bool) (l:List Ch):(zd7 g l).length≤l.length:=List.length_filterMap_le _ _
theorem zm5 (p:Nat) (g:Ch→Ch×Bool) (k n width:Int) (v:Value) (l:List Ch) (w:World) (hs:SlR w v l.length (chs l)) (hl:l.length≤1000000)
 (hF:∀c∈l,∀W,Below w.heap.size w W→Calls Tryz.prog 249 #[.agg #[.int .i64 c.1,.string c.2],.pointer (some ⟨p,0,none⟩)] W fun e w'=>e=.returned (.tuple #[.agg #[.int .i64 (g c).1.1,.string (g c).1.2],.bool (g c).2])∧Below W.heap.size W w'):
 Calls Tryz.prog 248 #[.agg #[.int .i64 k,.int .i64 n,v],.int .i64 width,.func (.func 249) #[] #[.pointer (some ⟨p,0,none⟩)]] w (zax (zhZ k width (zd7 g l)) w):=by
 obtain⟨a,cap,rfl,hc,hm⟩:=hs.shape;unfold maxLen at hm;have HS:=lhd hs;have HF:=lhd hF;obtain⟨i0,hi,iz0,iz1,iz2⟩:=info_parts (P:=Tryz.prog) zcv;have hb0:Below ((w.alloc (.cells #[.int .i64 k,.int .i64 n,.slice a l.length cap] 45)).alloc (.cells #[.int .i64 0,.int .i64 0,.slice none 0 0] 45)).heap.size ((w.alloc (.cells #[.int .i64 k,.int .i64 n,.slice a l.length cap] 45)).alloc (.cells #[.int .i64 0,.int .i64 0,.slice none 0 0] 45)) ((w.alloc (.cells #[.int .i64 k,.int .i64 n,.slice a l.length cap] 45)).alloc (.cells #[.int .i64 0,.int .i64 0,.slice none 0 0] 45)):=Below.refl _ _;have HB0:=lhd hb0;clear hs hF hb0;go_enter Tryz.func248,Tryz.ntmps248;go_wp2_with fail
 go_loopw [8,16] (fun o_ i wr=>∃(j:Nat) (out:List Ch),j≤l.length∧i=.int .i64 j∧out.length≤j∧out=zd7 g (l.take j)∧wr.ownsRow (w.heap.size+2) 53 2 o_ out.length (chs out)∧
  Below ((w.alloc (.cells #[.int .i64 k,.int .i64 n,.slice a l.length cap] 45)).alloc (.cells #[.int .i64 0,.int .i64 0,.slice none 0 0] 45)).heap.size ((w.alloc (.cells #[.int .i64 k,.int .i64 n,.slice a l.length cap] 45)).alloc (.cells #[.int .i64 0,.int .i64 0,.slice none 0 0] 45)) wr)
  (fun _ i _=>l.length-(intOf i).toNat)
 case atStart=>exact⟨0,[],Nat.zero_le _,rfl,Nat.le_refl _,rfl,World.ownsRow_nil _ _ _ _,HB0.out⟩
 case round=>
  obtain⟨j,out,hj,rfl,hol,hn,ho,hb⟩:=hrel;obtain⟨ao,co,rfl,hco,hmo⟩:=(SlR.of_own ho).shape;obtain⟨⟨p0,p1,p2⟩,q0,q1,q2⟩:=zbX hb;obtain⟨c0,c1,c2⟩:=box3 (zeF hb);have hsz:w.heap.size+2≤wr.heap.size:=by have:=hb.size;simp at this;omega
  have HO:=lhd ho;have HB:=lhd hb;have HBW:=lhd (zeF (zeF hb));have HN:=lhd hn;clear ho hb hn HB0;by_cases hlt:j<l.length
  ·obtain⟨b,o,rfl,d0,d1⟩:=(HS.out.below HBW.out).ch hlt;have HG:=lhd (zea g l j hlt);have HFj:=lhd (HF.out l[j] (List.getElem_mem hlt) (wr.alloc (.cells #[.int .i64 l[j].1,.string l[j].2] 53)) (HBW.out.alloc HBW.out.size _));generalize l[j]=c at d0 d1 HG HFj;obtain⟨t,s⟩:=c;generalize g (t,s)=x at HG HFj;obtain⟨⟨t',s'⟩,ok⟩:=x;simp only at d0 d1 HFj HG;have hw:=zix j (by omega);go_wp2_with fail;refine HFj.out.mono ?_;rintro e w3 ⟨rfl,hb3⟩;have HB3:=lhd (HB.out.trans ((zeF hb3).mono HB.out.size));have hsz3:=(zeF hb3).size;have hg3:wr.grownBy w3 none:=⟨(zeF hb3).os,(zeF hb3).tape,(zeF hb3).output,(zeF hb3).size,fun i hi _=>(zeF hb3).block i hi⟩
   have HO3:=lhd (HO.out.kept hg3 (by
    cases ao with
    |none=>exact .inl rfl
    |some b=>exact .inr (by simp[Value.ownBlock])))
   clear hb3 hg3 p0 p1 p2 q0 q1 q2 c0 c1 c2 d0 d1;cases ok
   ·have HN2:Hid (out=zd7 g (l.take (j+1))):=lhd (by rw[HG.out,←HN.out];simp);go_wp2_with fail;go_roundw;case rel=>exact⟨j+1,out,by omega,by go_num,by omega,HN2.out,HO3.out.alloc _,HB3.out.alloc HB3.out.size _⟩
    case measure=>simp[intOf];omega
   ·have HN2:Hid (out++ [(t',s')]=zd7 g (l.take (j+1))):=lhd (by rw[HG.out,←HN.out];simp);have hcell:=World.news_of_block (w:=(w3.alloc (.cells #[.int .i64 t',.string s'] 53)).alloc (.cells #[.int .i64 t',.string s'] 53)) (cs:=#[.int .i64 t',.string s']) (t:=53) (fr:=(0,0)) (by exact zfK w3 _ _);have HC:=lhd hcell;clear hcell;go_wp2_with (at_builtin;refine wpList_append_own _ rfl _ _ 43 rfl (w.heap.size+2) 53 i0 (.agg #[.int .i64 0,.string ⟨#[]⟩]) 2 24 Tryz.underlying43 hi iz0 iz1 iz2 rfl (by decide) _ _ _ rfl ((HO3.out.alloc _).alloc _) ⟨w3.heap.size+1,0,none⟩ 1 1 [.int .i64 t',.string s'] rfl rfl HC.out (by simp[Value.oneCell']) (by unfold maxLen;omega) (by omega) (by simp;omega) ?_)
    intro v4 w4 ho4 hg4 _;have HO4:=lhd ho4;have HB4:=lhd (Below.grown ((HB3.out.alloc HB3.out.size (.cells #[.int .i64 t',.string s'] 53)).alloc (by have:=HB3.out.size;simp at this;simp;omega) (.cells #[.int .i64 t',.string s'] 53)) hg4 (by have:=HB3.out.size;simp at this;simp;omega) (fun q hq=>by have:=(HO3.out.lt q hq).1;simp;omega));clear ho4 hg4;go_wp2_with fail;go_roundw;case rel=>exact⟨j+1,out++ [(t',s')],by omega,by go_num,by simp;omega,HN2.out,by rw[zcG];simpa[chs,encC] using HO4.out,HB4.out⟩
    case measure=>simp[intOf];omega
  ·obtain rfl:j=l.length:=by omega
   have HE:=lhd (show out=zd7 g l by have:=HN.out;rwa [List.take_length]at this);have hol2:=zd8 g l;go_wp2_with fail;refine(zm8 k width _ out _ (SlR.of_own HO.out) (by omega)).mono ?_;rintro e w3 ⟨v3,rfl,ho3,hb3⟩;obtain⟨a3,cap3,rfl,-,-⟩:=(SlR.of_own ho3).shape;obtain⟨x0,x1,x2,y0,y1,y2⟩:=zbY hb3 (zcn p0) p0 p1 p2 q0 q1 q2;have HO3:=lhd ho3;have HB3:=lhd (zeG HBW.out hb3);clear ho3 hb3 p0 p1 p2 q0 q1 q2 c0 c1 c2;go_wp2_with fail;obtain⟨g0,g1,g2⟩:=set3 x0 x1 x2 (.int .i64 (zhZ k width out).1.1) (.int .i64 (zhZ k width out).1.2.1) (.slice a3 (zhZ k width out).1.2.2.length cap3);refine bodyPost_ret (v:=.tuple #[.agg #[.int .i64 (zhZ k width out).1.1,.int .i64 (zhZ k width out).1.2.1,.slice a3 (zhZ k width out).1.2.2.length cap3],.int .i64 (zhZ k width out).2]) (by simp[results,Tryz.results248,go_sem,g0,g1,g2]) rfl ?_;rw[←HE.out];exact⟨_,rfl,zko (zkq HO3.out (by omega) _ _ _) (by omega),zbI HB3.out (by omega) _ _ _⟩
def btG (f:ByteArray→ByteArray) (c:Ch):Ch×Bool:=((c.1,f c.2),true)
def slB (from_ width:Int) (s:ByteArray):ByteArray:=(slR s from_ width).1
theorem zcu (W:World) (t:Int) (s:ByteArray):
 let W1:=((W.alloc (.cells #[.int .i64 t,.string s] 53)).alloc (.cells #[.int .i64 0,.string ⟨#[]⟩] 53))
 W1.cell? ⟨W.heap.size,0,none⟩=some (.int .i64 t)∧W1.cell? ⟨W.heap.size,1,none⟩=some (.string s)∧W1.cell? ⟨W.heap.size+1,0,none⟩=some (.int .i64 0)∧W1.cell? ⟨W.heap.size+1,1,none⟩=some (.string ⟨#[]⟩)∧
  W1.frozen? ⟨W.heap.size+1,0,none⟩=false∧W1.frozen? ⟨W.heap.size+1,1,none⟩=false∧Below W.heap.size W W1:=by
 intro W1;have hb:Below W1.heap.size W1 W1:=Below.refl _ _;have hbw:=zeF (zeF hb);obtain⟨p0,p1,q0,q1⟩:=zbV hb;exact⟨(boxN (zeF hb) 0).1,(boxN (zeF hb) 1).1,p0,p1,q0,q1,hbw⟩
theorem zg5 {w W:World} {B b p:Nat} {x y z u v:Value} (h:Below B w W) (hb:b+1<B) (hp:p<B) (p0:w.cell? ⟨b,0,none⟩=some x) (p1:w.cell? ⟨b,1,none⟩=some y) (p2:w.cell? ⟨p,0,none⟩=some z)
 (p3:w.cell? ⟨b+1,0,none⟩=some u) (p4:w.cell? ⟨b+1,1,none⟩=some v) (q0:w.frozen? ⟨b+1,0,none⟩=false) (q1:w.frozen? ⟨b+1,1,none⟩=false):
 W.cell? ⟨b,0,none⟩=some x∧W.cell? ⟨b,1,none⟩=some y∧W.cell? ⟨p,0,none⟩=some z∧W.cell? ⟨b+1,0,none⟩=some u∧W.cell? ⟨b+1,1,none⟩=some v∧W.frozen? ⟨b+1,0,none⟩=false∧W.frozen? ⟨b+1,1,none⟩=false:=
 ⟨(h.cell (p:=⟨b,0,none⟩) (by show b<B;omega)).trans p0,(h.cell (p:=⟨b,1,none⟩) (by show b<B;omega)).trans p1,(h.cell (p:=⟨p,0,none⟩) hp).trans p2,(h.cell (p:=⟨b+1,0,none⟩) hb).trans p3,(h.cell (p:=⟨b+1,1,none⟩) hb).trans p4,(h.frozen (p:=⟨b+1,0,none⟩) hb).trans q0,(h.frozen (p:=⟨b+1,1,none⟩) hb).trans q1⟩
theorem zmX (p1 p2:Nat) (from_ width:Int) (s:ByteArray) (W:World) (h1:W.cell? ⟨p1,0,none⟩=some (.int .i64 from_)) (h2:W.cell? ⟨p2,0,none⟩=some (.int .i64 width)) (hs:s.size≤maxLen):
 Calls Tryz.prog 186 #[.string s,.pointer (some ⟨p1,0,none⟩),.pointer (some ⟨p2,0,none⟩)] W fun e w'=>e=.returned (.string (slR s from_ width).1)∧Below W.heap.size W w':=by
 go_enter Tryz.func186,Tryz.ntmps186;go_wp2_with fail;refine(zbP s from_ width _ hs).mono ?_;rintro e w1 ⟨rfl,hb⟩;go_wp2_with fail;go_ret;exact⟨rfl,hb⟩
theorem zm2 (p:Nat) (c:Ch) (W:World) (hp:W.cell? ⟨p,0,none⟩=some (.func (.func 153) #[] #[])) (hs:c.2.size≤maxLen):
 Calls Tryz.prog 249 #[.agg #[.int .i64 c.1,.string c.2],.pointer (some ⟨p,0,none⟩)] W fun e w'=>e=.returned (.tuple #[.agg #[.int .i64 (btG (zb9) c).1.1,.string (btG (zb9) c).1.2],.bool (btG (zb9) c).2])∧Below W.heap.size W w':=by
 obtain⟨t,s⟩:=c;unfold btG;dsimp only at hs⊢;obtain⟨c0,c1,p0,p1',q0,q1,hbw⟩:=zcu W t s;have hp':=(hbw.cell (p:=⟨p,0,none⟩) (zcn hp)).trans hp;have hpw:=zcn hp;have hpn:p≠W.heap.size+1:=by omega
 have hpm:W.heap.size+1≠p:=by omega
 have hpl:=zcn hp';have HB:=lhd hbw;clear hbw hp;go_enter Tryz.func249,Tryz.ntmps249;go_wp2_with fail;obtain⟨W1,hW1⟩:∃W1,((W.alloc (.cells #[.int .i64 t,.string s] 53)).alloc (.cells #[.int .i64 0,.string ⟨#[]⟩] 53))=W1:=⟨_,rfl⟩;have hsz:W.heap.size+1<W1.heap.size:=by rw[←hW1];simp
 rw[hW1]at p0 p1' q0 q1 c0 c1 hp' hpl HB⊢;clear hW1
 go_region_held3 (fun w'=>w'.cell? ⟨W.heap.size,0,none⟩=some (.int .i64 t)∧w'.cell? ⟨W.heap.size,1,none⟩=some (.string s)∧w'.cell? ⟨p,0,none⟩=some (.func (.func 153) #[] #[]))
  (first|exact⟨r0,r1,r2⟩|go_keep)
  ((go_at_call 153;(with_reducible refine(zbO s _ ?_).mono ?_);(exact hs);rintro e w3 ⟨rfl,hb3⟩;obtain⟨r0,r1,r2,r3,r4,r5,r6⟩:=zg5 hb3 hsz hpl c0 c1 hp' p0 p1' q0 q1;have HB3:=lhd hb3;clear hb3))
 go_wp2_with fail;refine bodyPost_ret (v:=.tuple #[.agg #[.int .i64 t,.string (zb9 s)],.bool true]) (by simp[results,Tryz.results249,go_sem,r3,r4]<;>rfl) rfl ⟨rfl,?_⟩;exact((HB.out.drew.trans (HB3.out.mono HB.out.size)).setCell (Nat.le_succ _) _).setCell (Nat.le_succ _) _
theorem zm3 (p1 p2:Nat) (from_ width:Int) (p:Nat) (c:Ch) (W:World) (hp:W.cell? ⟨p,0,none⟩=some (.func (.func 186) #[] #[.pointer (some ⟨p1,0,none⟩),.pointer (some ⟨p2,0,none⟩)])) (h1:W.cell? ⟨p1,0,none⟩=some (.int .i64 from_)) (h2:W.cell? ⟨p2,0,none⟩=some (.int .i64 width)) (hs:c.2.size≤maxLen):
 Calls Tryz.prog 249 #[.agg #[.int .i64 c.1,.string c.2],.pointer (some ⟨p,0,none⟩)] W fun e w'=>e=.returned (.tuple #[.agg #[.int .i64 (btG (slB from_ width) c).1.1,.string (btG (slB from_ width) c).1.2],.bool (btG (slB from_ width) c).2])∧Below W.heap.size W w':=by
 obtain⟨t,s⟩:=c;unfold btG;dsimp only at hs⊢;obtain⟨c0,c1,p0,p1',q0,q1,hbw⟩:=zcu W t s;have hp':=(hbw.cell (p:=⟨p,0,none⟩) (zcn hp)).trans hp;have hpw:=zcn hp;have hpn:p≠W.heap.size+1:=by omega
 have hpm:W.heap.size+1≠p:=by omega
 have hpl:=zcn hp';have HB:=lhd hbw;clear hbw hp;go_enter Tryz.func249,Tryz.ntmps249;go_wp2_with fail;obtain⟨W1,hW1⟩:∃W1,((W.alloc (.cells #[.int .i64 t,.string s] 53)).alloc (.cells #[.int .i64 0,.string ⟨#[]⟩] 53))=W1:=⟨_,rfl⟩;have hsz:W.heap.size+1<W1.heap.size:=by rw[←hW1];simp
 rw[hW1]at p0 p1' q0 q1 c0 c1 hp' hpl HB⊢;clear hW1
 go_region_held3 (fun w'=>w'.cell? ⟨W.heap.size,0,none⟩=some (.int .i64 t)∧w'.cell? ⟨W.heap.size,1,none⟩=some (.string s)∧w'.cell? ⟨p,0,none⟩=some (.func (.func 186) #[] #[.pointer (some ⟨p1,0,none⟩),.pointer (some ⟨p2,0,none⟩)]))
  (first|exact⟨r0,r1,r2⟩|go_keep)
  ((go_at_call 186;(with_reducible refine(zmX p1 p2 from_ width s _ ?_ ?_ ?_).mono ?_);(exact(HB.out.cell (p:=⟨p1,0,none⟩) (zcn h1)).trans h1);(exact(HB.out.cell (p:=⟨p2,0,none⟩) (zcn h2)).trans h2);(exact hs);rintro e w3 ⟨rfl,hb3⟩;obtain⟨r0,r1,r2,r3,r4,r5,r6⟩:=zg5 hb3 hsz hpl c0 c1 hp' p0 p1' q0 q1;have HB3:=lhd hb3;clear hb3))
 go_wp2_with fail;refine bodyPost_ret (v:=.tuple #[.agg #[.int .i64 t,.string (slB from_ width s)],.bool true]) (by simp[results,Tryz.results249,go_sem,r3,r4]<;>rfl) rfl ⟨rfl,?_⟩;exact((HB.out.drew.trans (HB3.out.mono HB.out.size)).setCell (Nat.le_succ _) _).setCell (Nat.le_succ _) _
structure SpSt (w W:World) (k n:Int) (a:Option Addr) (la ca:Nat) (k2 n2:Int) (b:Option Addr) (lb cb:Nat):Prop where
 s:zas W w.heap.size [.int .i64 k,.int .i64 n,.slice a la ca]
 y:zas W (w.heap.size+1) [.int .i64 k2,.int .i64 n2,.slice b lb cb]
 r:zas W (w.heap.size+1+1) [.int .i64 0,.int .i64 0,.slice none 0 0]
 b:Below w.heap.size w W
 z:w.heap.size+1+1<W.heap.size
section
variable {w W W' : World} {k n : Int} {a : Option Addr} {la ca : Nat} {k2 n2 : Int} {b : Option Addr} {lb cb : Nat}
theorem SpSt.start (w:World) (k n:Int) (a:Option Addr) (la ca:Nat) (k2 n2:Int) (b:Option Addr) (lb cb:Nat) (S:TypeId):SpSt w (((w.alloc (.cells #[.int .i64 k,.int .i64 n,.slice a la ca] S)).alloc (.cells #[.int .i64 k2,.int .i64 n2,.slice b lb cb] S)).alloc (.cells #[.int .i64 0,.int .i64 0,.slice none 0 0] S)) k n a la ca k2 n2 b lb cb:=by
 refine⟨?_,?_,?_,(((Below.refl _ _).alloc (Nat.le_refl _) _).alloc (by simp) _).alloc (by simp;omega) _,by simp⟩
 ·exact((zas.fresh w #[.int .i64 k,.int .i64 n,.slice a la ca] _).alloc (by simp) _).alloc (by simp;omega) _
 ·have h:=zas.fresh (w.alloc (.cells #[.int .i64 k,.int .i64 n,.slice a la ca] S)) #[.int .i64 k2,.int .i64 n2,.slice b lb cb] S;simp only[World.size_alloc]at h;exact h.alloc (by simp) _
 ·have h:=zas.fresh ((w.alloc (.cells #[.int .i64 k,.int .i64 n,.slice a la ca] S)).alloc (.cells #[.int .i64 k2,.int .i64 n2,.slice b lb cb] S)) #[.int .i64 0,.int .i64 0,.slice none 0 0] S;simp only[World.size_alloc]at h;exact h
theorem SpSt.later (h:SpSt w W k n a la ca k2 n2 b lb cb) {B:Nat} (hb:Below B W W') (hB:w.heap.size+1+1<B):SpSt w W' k n a la ca k2 n2 b lb cb:=
 ⟨h.s.below hb (by omega),h.y.below hb (by omega),h.r.below hb hB,h.b.trans (hb.mono (by omega)),by have:=hb.size;have:=h.z;omega⟩
theorem SpSt.facts (h:SpSt w W k n a la ca k2 n2 b lb cb):
 (W.cell? ⟨w.heap.size,0,none⟩=some (.int .i64 k)∧W.cell? ⟨w.heap.size,1,none⟩=some (.int .i64 n)∧W.cell? ⟨w.heap.size,2,none⟩=some (.slice a la ca))∧
 (W.cell? ⟨w.heap.size+1,0,none⟩=some (.int .i64 k2)∧W.cell? ⟨w.heap.size+1,1,none⟩=some (.int .i64 n2)∧W.cell? ⟨w.heap.size+1,2,none⟩=some (.slice b lb cb))∧
 (W.cell? ⟨w.heap.size+1+1,0,none⟩=some (.int .i64 0)∧W.cell? ⟨w.heap.size+1+1,1,none⟩=some (.int .i64 0)∧W.cell? ⟨w.heap.size+1+1,2,none⟩=some (.slice none 0 0))∧
 (W.frozen? ⟨w.heap.size+1+1,0,none⟩=false∧W.frozen? ⟨w.heap.size+1+1,1,none⟩=false∧W.frozen? ⟨w.heap.size+1+1,2,none⟩=false):=
 ⟨⟨h.s.cell (j:=0) rfl,h.s.cell (j:=1) rfl,h.s.cell (j:=2) rfl⟩,⟨h.y.cell (j:=0) rfl,h.y.cell (j:=1) rfl,h.y.cell (j:=2) rfl⟩,⟨h.r.cell (j:=0) rfl,h.r.cell (j:=1) rfl,h.r.cell (j:=2) rfl⟩,⟨h.r.free (j:=0) (by simp),h.r.free (j:=1) (by simp),h.r.free (j:=2) (by simp)⟩⟩
theorem SpSt.fin (h:SpSt w W k n a la ca k2 n2 b lb cb) (x y z:Value):
 (((((W.setCell ⟨w.heap.size+1+1,0,none⟩ x).setCell ⟨w.heap.size+1+1,1,none⟩ y).setCell ⟨w.heap.size+1+1,2,none⟩ z).cell? ⟨w.heap.size+1+1,0,none⟩=some x∧(((W.setCell ⟨w.heap.size+1+1,0,none⟩ x).setCell ⟨w.heap.size+1+1,1,none⟩ y).setCell ⟨w.heap.size+1+1,2,none⟩ z).cell? ⟨w.heap.size+1+1,1,none⟩=some y∧(((W.setCell ⟨w.heap.size+1+1,0,none⟩ x).setCell ⟨w.heap.size+1+1,1,none⟩ y).setCell ⟨w.heap.size+1+1,2,none⟩ z).cell? ⟨w.heap.size+1+1,2,none⟩=some z))∧
  Below w.heap.size w (((W.setCell ⟨w.heap.size+1+1,0,none⟩ x).setCell ⟨w.heap.size+1+1,1,none⟩ y).setCell ⟨w.heap.size+1+1,2,none⟩ z):=
 ⟨set3 (h.r.cell (j:=0) rfl) (h.r.cell (j:=1) rfl) (h.r.cell (j:=2) rfl) x y z,zbI h.b (by omega) _ _ _⟩
end
open Go.RowKit Go.WideMaps Go.Shelf
attribute [local go_sem] Oper.semAt_some
set_option linter.unusedSimpArgs false
theorem zkm {w:World} {B e size n:Nat} {v:Value} {xs:List Value} (h:w.ownsRow B e size v (n+1) xs):∃g cap,v=.slice (some ⟨g,0,none⟩) (n+1) cap:=by
 rcases h.2 with⟨-,h0⟩|⟨g,cap,cur,e0,-⟩
 ·omega
 ·exact⟨g,cap,e0⟩
theorem zqR {D R:List Vr} (v:Vr) (n:Int):(vrs (D++v::R)).set (D.length*7+2) (.int .i64 n)=vrs (D++{v with sc:=n}::R):=by
 have hl:(vrs D).length=D.length*7:=by rw[zqN,Nat.mul_comm]
 rw[zqK,zqK,zqM,zqM,←hl];simp only[vrC,List.cons_append,List.nil_append];rw[List.set_append_right _ _ (by omega),Nat.add_sub_cancel_left];simp only[List.set_cons_succ,List.set_cons_zero]
theorem SO.putSc {base g n c:Nat} {w:World} {X Z:List Vr} {y:Vr} (h:SO base g n c w (X++y::Z)) (q:Int):SO base g n c (w.setCell ⟨g,X.length*7+2,none⟩ (.int .i64 q)) (X++{y with sc:=q}::Z):=by
 have h1:=zkk h (X.length*7+2) (.int .i64 q);rwa [zqR]at h1
def zar (r:List Sc×List Vr×List Int×Int) (w:World) (e:Ending) (w':World):Prop:=
 ∃v1 v2 v3,e=.returned (.tuple #[v1,v2,v3,.int .i64 r.2.2.2])∧w'.ownsRow w.heap.size 55 3 v1 r.1.length (scs r.1)∧w'.ownsRow w.heap.size 42 7 v2 r.2.1.length (vrs r.2.1)∧
  w'.ownsRow w.heap.size 3 1 v3 r.2.2.1.length (ints r.2.2.1)∧Below w.heap.size w w'
theorem zjZ (v v2:Value) (S:List Sc) (V:List Vr) (w:World) (hs:SlR w v S.length (scs S)) (hv:SlR w v2 V.length (vrs V)) (hl:S.length≤1000∧V.length≤1000) (hn:(∀s∈S,s.1.length≤100000)∧∀x∈V,x.nm.length≤100000) (he:zcw S V≠0):
 Calls Tryz.prog 121 #[v,v2] w (zar (zj2 S V) w):=by
 obtain⟨a,cap,rfl,-,-⟩:=hs.shape;obtain⟨a2,cap2,rfl,-,-⟩:=hv.shape;have hal:Below w.heap.size w (w.alloc (.cells #[.slice a S.length cap] 22)):=(Below.refl _ _).alloc (Nat.le_refl _) _;have HC:=lhd (zfV _ _ S V _ (hs.below hal) (hv.below hal) hl hn);have HQ:=lhd (show zj2 S V=([],[],[],zcw S V)by unfold zj2;rw[if_pos he]);generalize zj2 S V=O at*;generalize zcw S V=q at*;have hq:(q==0)=false:=by simpa using he
 have hq2:(q !=0)=true:=by simpa using he
 clear hs hv he;go_enter Tryz.func121,Tryz.ntmps121;go_wp2_with fail;refine HC.out.mono ?_;rintro e w1 ⟨rfl,hb⟩;have HB:=lhd (zeF hb);clear hb HC;go_wp2_with fail;refine bodyPost_ret (v:=.tuple #[.slice none 0 0,.slice none 0 0,.slice none 0 0,.int .i64 q]) (by simp[results,Tryz.results121,go_sem]) rfl ?_;rw[HQ.out];exact⟨_,_,_,rfl,World.ownsRow_nil _ _ _ _,World.ownsRow_nil _ _ _ _,World.ownsRow_nil _ _ _ _,HB.out⟩
theorem zj1 (v v2:Value) (S:List Sc) (V:List Vr) (w:World) (hs:SlR w v S.length (scs S)) (hv:SlR w v2 V.length (vrs V)) (hl:S.length≤1000∧V.length≤1000) (hn:(∀s∈S,s.1.length≤100000)∧∀x∈V,x.nm.length≤100000)
 (hsg:∀x∈V,(Lit.int .i64 x.sg).wf=true) (he:zcw S V=0):Calls Tryz.prog 121 #[v,v2] w (zar (zj2 S V) w):=by
 obtain⟨i0,hi0,iz0,iz1,iz2⟩:=info_parts (P:=Tryz.prog) zl7;obtain⟨a,cap,rfl,-,-⟩:=hs.shape;obtain⟨a2,cap2,rfl,-,-⟩:=hv.shape;have hal:Below w.heap.size w (w.alloc (.cells #[.slice a S.length cap] 22)):=(Below.refl _ _).alloc (Nat.le_refl _) _;have HC:=lhd (zfV _ _ S V _ (hs.below hal) (hv.below hal) hl hn);have HQ:=lhd (show zj2 S V=(scF S,(vrF S V).1,(vrF S V).2,0)by unfold zj2;rw[if_neg (by simp[he])]);have HK:=lhd (zcF.1 he);rw[he]at HC;generalize zj2 S V=O at*;have HS:=lhd hs;have HV:=lhd hv;have HSG:=lhd hsg;have HL:=lhd hl;clear hs hv he hsg hn hl;have hmm:= @run_makeMap Tryz.prog;have h1:=heap_alloc_new w (.cells #[.slice a S.length cap] 22);refine(callsIn_wide (n:=6)).1 ?_;refine callsIn_of_wp_marks Tryz.func121 rfl trivial ?_ rfl;refine wpIn_wide.2 ?_;simp only[Tryz.ntmps121,List.size_toArray,List.length_cons,List.length_nil,Nat.reduceAdd,Nat.reduceSub,Array.replicate_succ,Array.replicate_zero,List.push_toArray,List.append_toArray,List.nil_append,List.cons_append];have H1:=lhd h1;have HAL:=lhd hal;clear h1 hal;go_wp2_with fail;refine HC.out.mono ?_;rintro e w1 ⟨rfl,hb⟩;have HB1:=lhd hb;have hz1:w.heap.size<w1.heap.size:=by have:=hb.size;simp at this;omega
 obtain⟨c2,-⟩:=box1 hb
 have hbs1:w1.heap[w.heap.size]? =some (.cells #[.slice a S.length cap] 22 (0,0)):=by
  rw[hb.block _ (by simp)];exact H1.out
 have ba1:Below w1.heap.size w1 (w1.alloc (.cells #[.slice none 0 0] 22)):=(Below.refl _ _).alloc (Nat.le_refl _) _;have ba2:Below w1.heap.size w1 ((w1.alloc (.cells #[.slice none 0 0] 22)).alloc (.map #[] 0)):=ba1.alloc (by simp) _
 have hbo2:((w1.alloc (.cells #[.slice none 0 0] 22)).alloc (.map #[] 0)).heap[w1.heap.size]? =some (.cells #[.slice none 0 0] 22 (0,0)):=
  (Same0.of_below ((Below.refl (w1.alloc (.cells #[.slice none 0 0] 22)).heap.size (w1.alloc (.cells #[.slice none 0 0] 22))).alloc (Nat.le_refl _) (.map #[] 0))).cells _ _ _ _ (heap_alloc_new w1 (.cells #[.slice none 0 0] 22))
 have HBF:=lhd (fun(w2:World) (hg:((w1.alloc (.cells #[.slice none 0 0] 22)).alloc (.map #[] 0)).grownBy w2 (some (w1.heap.size+1)))=>
  (show w2.heap[w.heap.size]? =some (.cells #[.slice a S.length cap] 22 (0,0))∧w2.heap[w1.heap.size]? =some (.cells #[.slice none 0 0] 22 (0,0))∧w1.heap.size+1<w2.heap.size∧Below w.heap.size w w2 from
    ⟨(hg.block _ (by simp;omega) (by intro q;injection q with q;omega)).trans ((Same0.of_below ba2).cells _ _ _ _ hbs1),(hg.block _ (by simp;omega) (by intro q;injection q with q;omega)).trans hbo2,by have:=hg.size;simp at this;omega,
     ((zeF HB1.out).trans (ba2.mono (by omega))).grown hg (by simp;omega) (fun j hj=>by injection hj with hj;omega)⟩))
 clear hb HC hbs1 ba1 ba2 hbo2
 have HM0:=lhd (show KMap (zgz (P:=Tryz.prog) (K:=3) Tryz.underlying3) ((w1.alloc (.cells #[.slice none 0 0] 22)).alloc (.map #[] 0)) (w1.heap.size+1) 0 (fun _=>none)by
  have:=KMap.made (zgz (P:=Tryz.prog) (K:=3) Tryz.underlying3) (w1.alloc (.cells #[.slice none 0 0] 22));rwa [World.size_alloc]at this)
 go_wp2_with (refine zrq _ rfl _ _ _ 93 rfl 3 Tryz.underlying93 (w1.heap.size+1) 0 _ rfl HM0.out (by decide) (-1) (.int .i64 (-1)) rfl rfl (zq7 (n:= -1) (by decide) (by decide)) ?_;intro w2 hm2 hg2;have HM2:=lhd (hm2.ext (zi6 (preS S)));obtain⟨g1,g2,g3,g4⟩:=HBF.out w2 hg2;have HG2:=lhd (And.intro g1 (And.intro g2 g4));have c2':=(zjK g1).1;have hz2:w.heap.size<w2.heap.size:=(by omega);clear hm2 hg2 c2 g1 g2 g4)
 clear hmm;refine(zf0 _ _ _ _ _).mono ?_;rintro e w3 ⟨rfl,rfl⟩;go_wp2_with fail;obtain⟨v,hv⟩:∃v,Value.slice a S.length cap=v:=⟨_,rfl⟩;rw[hv]at HS HG2 c2'⊢;obtain⟨b9,hb9⟩:∃b9,w1.heap.size=b9:=⟨_,rfl⟩;rw[hb9]at HG2 HM2 g3 hz1⊢;have hq:=heap_alloc_new w2 (.cells #[.map (some (b9+1))] 93);have k1:Below w2.heap.size w2 (w2.alloc (.cells #[.map (some (b9+1))] 93)):=(Below.refl _ _).alloc (Nat.le_refl _) _;have e1:(w2.alloc (.cells #[.map (some (b9+1))] 93)).heap.size=w2.heap.size+1:=by simp
 obtain⟨W0,hW0⟩:∃X,((w2.alloc (.cells #[.map (some (b9+1))] 93)).alloc (.cells #[v] 22)).alloc (.cells #[.int .i64 (-1)] 3)=X:=⟨_,rfl⟩;have hs0:W0.heap.size=w2.heap.size+3:=by rw[←hW0];simp
 rw[hW0];generalize w2.alloc (.cells #[.map (some (b9+1))] 93)=x1 at*;have h2:=heap_alloc_new x1 (.cells #[v] 22);have k2:Below x1.heap.size x1 (x1.alloc (.cells #[v] 22)):=(Below.refl _ _).alloc (Nat.le_refl _) _;have e2:(x1.alloc (.cells #[v] 22)).heap.size=w2.heap.size+2:=by simp[e1]
 generalize x1.alloc (.cells #[v] 22)=x2 at*;have h3:=heap_alloc_new x2 (.cells #[.int .i64 (-1)] 3);have k3:Below x2.heap.size x2 (x2.alloc (.cells #[.int .i64 (-1)] 3)):=(Below.refl _ _).alloc (Nat.le_refl _) _;rw[hW0]at h3 k3;rw[e1]at h2;rw[e2]at h3;have bb:Below w2.heap.size w2 W0:=zeG (zeG k1 k2) k3
 have hI0:OrI w v b9 w2.heap.size S 0 0 (.slice none 0 0) W0:=
  ⟨(Same0.of_below bb).cells _ _ _ _ HG2.out.1,(Same0.of_below bb).cells _ _ _ _ HG2.out.2.1,(Same0.of_below k3).cells _ _ _ _ ((Same0.of_below k2).cells _ _ _ _ hq),HM2.out.below bb HM2.out.lt,World.ownsRow_nil _ _ _ _,HG2.out.2.2.trans (bb.mono HG2.out.2.2.size),hz1,g3⟩
 have q2:=(Same0.of_below k3).cells _ _ _ _ h2;have HF:=lhd (zdG HK.out.d);have hSl:S.length≤32:=HK.out.n;obtain⟨bq,hbq⟩:∃bq,w2.heap.size=bq:=⟨_,rfl⟩;rw[hbq]at hI0 hs0 h3 q2 g3⊢;have HPL:=lhd (zkR HF.out);clear k1 k2 k3 e1 e2 hW0 hq h2 HM0 HBF H1 HAL HB1 HM2 hz2 c2' x1 x2;refine(wpIn_wide (n:=6)).1 ?_
 refine zlk rfl (by decide) (gf:=218) (lb:=#[.pointer (some ⟨bq+1,0,none⟩),.pointer (some ⟨bq+2,0,none⟩)]) rfl trivial (enters_of Tryz.func218 (by kernel_rfl) rfl)
  (encs:=ordE (preS S)) (Kp:=KpO w.heap.size) (N:=(preS S).length) (T:=5)
  (fun l J W hW hJ hY h0=>?iter)
  KpO.trans (fun _ _ h=>KpO.same0 h) (fun _=>rfl)
  (fun k W=>∃vo,OrI w v b9 bq S k k vo W) (fun k W V ⟨vo,h⟩ ht=>⟨vo,h.turn (by omega) ht⟩) ⟨_,hI0⟩ ?round ?done
 case iter=>
  exact zkK (6-1) (by decide) l (bq+1) (bq+2) S v w W J HF.out (by omega) HS.out (Same0.trans (Same0.of_below (HG2.out.2.2.trans (bb.mono HG2.out.2.2.size))) (Same0.of_below hW)) hY ((Same0.of_below hW).cells _ _ _ _ q2) ((Same0.of_below hW).cells _ _ _ _ h3) h0
 case done=>
  rintro D W hD ⟨vo,h⟩ hDd;have HI:=lhd h;have HD:=lhd (And.intro hD hDd);have hln:(scF S).length=(preS S).length:=by rw[HPL.out,zl3 HF.out]
  have HOU:=lhd (show W.ownsRow w.heap.size 55 3 vo (scF S).length (scs (scF S))by
   have:=h.o;rw[←hln,List.take_of_length_le (Nat.le_refl _)]at this;exact this)
  have hVl:V.length≤128:=HK.out.m;have HVV:=lhd (zcT _ V W (HV.out.below h.b) (by omega));obtain⟨co,-⟩:=zjK h.bo;obtain⟨cn,-⟩:=zjK h.bn;clear hD hDd hln h hb9 hbq HG2 hI0 q2 h3;go_wp2_with fail;refine HVV.out.mono ?_;rintro e w5 ⟨vl,rfl,hov,hb5⟩;have HOV:=lhd hov;have HB5:=lhd hb5
  have hvs:∃va vc,vl=.slice va V.length vc:=by
   obtain⟨va,vc,e,-,-⟩:=(SlR.of_own hov).shape;exact⟨va,vc,e⟩
  obtain⟨va,vc,rfl⟩:=hvs;have HSV:=lhd (zdI HK.out.d)
  have HNW:=lhd (fun(x:Vr) (hx:x∈V)=>(show nowF (preS S) (preS S).length x.sc=some (.int .i64 (pos (preS S) x.sc))by
   unfold nowF;obtain⟨y1,y2,-⟩:=HSV.out x hx;rw[if_pos];by_cases h0:x.sc= -1
   ·exact .inl h0
   ·refine .inr ⟨by omega,?_⟩;rw[List.take_of_length_le (Nat.le_refl _)];exact(zkS HF.out).2 (by omega)))
  have HV1:=lhd (show(vr1 S V).length=V.length by simp[vr1]);clear hov hb5 co cn HVV;go_wp2_with fail;go_loopw [48] (fun i wr=>∃k:Nat,k≤V.length∧i=.int .i64 k∧wr.ownsRow W.heap.size 42 7 (.slice va V.length vc) V.length (vrs ((vr1 S V).take k++V.drop k))∧Below W.heap.size W wr) (fun i _=>V.length-(intOf i).toNat)
  case atStart=>exact⟨0,Nat.zero_le _,rfl,HOV.out,HB5.out⟩
  case round=>
   obtain⟨k,hk,rfl,ho,hb⟩:=hrel;have HO:=lhd ho;have HB:=lhd hb;clear ho hb;by_cases hlt:k<V.length
   ·have hzz:=(HI.out.below HB.out);have cn:=(zjK hzz.bn).1;have HMM:=lhd hzz.m;have hk1:((vr1 S V).take k).length=k:=by rw[List.length_take,HV1.out];omega
    have hvk:(vr1 S V)[k]'(by rw[HV1.out];exact hlt)={V[k]with sc:=pos (preS S) V[k].sc}:=by simp[vr1]
    have hog:wr.ownsRow W.heap.size 42 7 (.slice va V.length vc) V.length (vrs ((vr1 S V).take k++V[k]::V.drop (k+1))):=by
     have:=HO.out;rwa [List.drop_eq_getElem_cons hlt]at this
    rcases hog.2 with⟨-,h0⟩|⟨g,cap',cur,e0,-⟩
    ·omega
    injection e0 with e0 _ e1;subst e0 e1;have hso:SO W.heap.size g V.length vc wr ((vr1 S V).take k++V[k]::V.drop (k+1)):=hog;have d2:=hso.at.2.2.1;have f2:=zkb hog (k*7+2);rw[hk1]at d2;have HPS:=lhd (hso.putSc (pos (preS S) V[k].sc));rw[hk1]at HPS;have HNK:=lhd (HNW.out V[k] (List.getElem_mem hlt));have hsc:=HSV.out V[k] (List.getElem_mem hlt);have hwp:(Lit.int .i64 V[k].sc).wf=true:=zq7 (by omega) (by omega)
    have HTK:=lhd (show(vr1 S V).take (k+1)++V.drop (k+1)=(vr1 S V).take k++{V[k]with sc:=pos (preS S) V[k].sc}::V.drop (k+1)by
     rw[List.take_succ_eq_append_getElem (by rw[HV1.out];exact hlt),hvk];simp)
    have HGL:=lhd (hso.lo);generalize hxx:V[k]=x at*;clear hso hog hk1 hvk hzz hxx hsc;obtain⟨sc,hsc⟩:∃sc,x.sc=sc:=⟨_,rfl⟩;obtain⟨pp,hpp⟩:∃pp,pos (preS S) sc=pp:=⟨_,rfl⟩;rw[hsc]at d2 HNK hwp HPS HTK;rw[hpp]at HNK HPS HTK
    have hlk:(Instr.lookup 93 (.map (some (b9+1))) (.int .i64 sc) false).run Tryz.prog wr.drew=.ok (.int .i64 pp) wr.drew:=by
     have:=(HMM.out.same (w':=wr.drew) rfl).look1 (t:=93) Tryz.underlying93 (zrv _) sc hwp;rw[HNK.out]at this;exact this
    have hlk2:(Instr.lookup 93 (.map (some (b9+1))) (.int .i64 sc) false).run Tryz.prog wr=.ok (.int .i64 pp) wr:=by
     have:=HMM.out.look1 (t:=93) Tryz.underlying93 (zrv _) sc hwp;rw[HNK.out]at this;exact this
    clear hsc hpp;go_wp2_with fail;go_region
    clear hlk hlk2 cn d2 f2;go_wp2_with fail;go_roundw;case rel=>exact⟨k+1,hlt,by go_num,by rw[HTK.out];exact HPS.out,(HB.out.setCell (p:=⟨g,k*7+2,none⟩) HGL.out.1 _).drew⟩
    case measure=>simp[intOf];omega
   ·obtain rfl:k=V.length:=by omega
    have hso:wr.ownsRow W.heap.size 42 7 (.slice va V.length vc) (vr1 S V).length (vrs (vr1 S V)):=by
     have:=HO.out;rw[List.drop_length,List.append_nil,List.take_of_length_le (by rw[HV1.out];exact Nat.le_refl _)]at this;rw[HV1.out];exact this
    have HSO:=lhd (zf2 W.heap.size _ (vr1 S V) wr hso (by rw[HV1.out];omega));clear hlt hso;go_wp2_with fail;refine HSO.out.mono ?_;rintro e w6 ⟨rfl,ho6,hb6⟩
    have HNB:=lhd (zfY W.heap.size _ (zgK vk (vr1 S V)) w6 (by have:=HB.out.size;have:=hb6.size;omega) (by rw[zgN];exact ho6) (by rw[zgN,HV1.out];omega) (fun x hx=>by
     rw[zgO]at hx;obtain⟨y,hy,rfl⟩:=List.mem_map.1 hx;exact HSG.out y hy))
    have HB6:=lhd (HB.out.trans hb6);clear ho6 hb6 HSO;go_wp2_with fail;refine HNB.out.mono ?_;rintro e w7 ⟨vf,rfl,ho7,hf7,hb7⟩;have HB7:=lhd (HB6.out.trans hb7);have HO7:=lhd ho7;have HF7:=lhd hf7;have co7:=(zjK (HI.out.below HB7.out).bo).1;have HOU7:=lhd (zkj HOU.out (Same0.of_below HB7.out));have HD7:=lhd (show w7.heap[D]? =some (.deferred (some []))by rw[HB7.out.block D (Array.getElem?_eq_some_iff.1 HD.out.2).1];exact HD.out.2);obtain⟨fa,fc,rfl,-,-⟩:=(SlR.of_own hf7).shape;obtain⟨oa,oc,rfl,-,-⟩:=(SlR.of_own HOU.out).shape;clear ho7 hf7 hb7 HNB;go_wp2_with fail;refine⟨by simp,.inl ⟨_,_,rfl,run_takeDeferred HD7.out,?_⟩⟩;have hwz:w.heap.size≤W.heap.size:=HI.out.b.size;have r1:=ownsRow_putObj HOU7.out (.deferred none) HD7.out rfl;have r2:=ownsRow_putObj (zko HO7.out hwz) (.deferred none) HD7.out rfl;have r3:=ownsRow_putObj (zko HF7.out hwz) (.deferred none) HD7.out rfl
    have hvl:(vrF S V).1.length=V.length:=by
     have:(numF [] (vr2 S V)).1.length=(vr2 S V).length:=by
      have:=congrArg List.length (zjf (fun _:Vr=>(0:Int)) (fun _ _=>rfl) (vr2 S V) []);simpa using this
     show(numF [] (vr2 S V)).1.length=V.length;rw[this];unfold vr2;rw[zgN,HV1.out]
    rw[zgN,HV1.out]at r2;refine⟨.tuple #[.slice oa (scF S).length oc,.slice va V.length vc,.slice fa (numF [] (zgK vk (vr1 S V))).2.length fc,.int .i64 0],by simp[results,Tryz.results121,go_sem],?_⟩;rw[HQ.out];refine⟨_,_,_,rfl,r1,?_,r3,(HI.out.b.trans (HB7.out.mono hwz)).trans (belowK_b (w:=W0) (by have:=HI.out.z;omega) _ D _ _ HD.out.1 HD7.out rfl rfl)⟩;show World.ownsRow _ _ _ _ _ (vrF S V).1.length (vrs (vrF S V).1);rw[hvl];exact r2
 case round=>
  intro l k W hlW ⟨vo,h⟩ hk;have HND:=lhd (zkT HF.out);obtain⟨m,hm⟩:∃m,(preS S)[k]=m:=⟨_,rfl⟩;have hmS:m<S.length:=by rw[←hm];exact(zkS HF.out).1 (List.getElem_mem hk)
  have HEN:=lhd (show ordE (preS S) k=#[.int .i64 (m:Int)]by
   unfold ordE;rw[List.getD,List.getElem?_eq_getElem hk,hm];rfl)
  have hps:parS S m=S[m].2.2:=by simp[parS,List.getD,hmS]
  have hsx:(scF S)[k]? =some (S[m].1,S[m].2.1,pos (preS S) S[m].2.2):=by
   have hk2:k<(scF S).length:=by rw[zl3 HF.out,←HPL.out];exact hk
   rw[List.getElem?_eq_getElem hk2,zl1 hk2 hk,hm,←hps];simp[List.getD,hmS]
  have hpk:=zkt (S:=S) hk;rw[hm,hps]at hpk;have HPW:=lhd (HF.out m hmS);rw[hps]at HPW;have hkl:k<100:=by have:=HPL.out;omega
  have HM:=lhd (fun(W1 W2:World) (vo:Value) (h:OrI w v b9 bq S k k vo W1) (hm4:KMap (zgz (P:=Tryz.prog) (K:=3) Tryz.underlying3) W2 (b9+1) (k+1+1) (fun y=>if y=(m:Int)then some (.int .i64 (k:Int))else nowF (preS S) k y)) (hg4:W1.grownBy W2 (some (b9+1)))=>h.setM HND.out hk (by rw[hm];exact hm4) hg4);have HCL:=lhd (fun(X:World) (hX:Same0 w X)=>(HS.out.same0 hX));rw[HEN.out];clear HEN hm;subst hv;have HI:=lhd h;clear h hb9 hbq HG2 hI0 q2 h3;gi_wp2
  refine⟨KeepsFrom.refl _ _,⟨Nat.le_refl _,fun _ _ _ _ _ h=>h⟩,?_⟩;intro W1 hs1 ht1;have H1:=lhd (HI.out.turn (by omega) ht1);clear hs1 ht1 HI;obtain⟨ct,-⟩:=zjK H1.out.bs;obtain⟨co,-⟩:=zjK H1.out.bo;obtain⟨cn,-⟩:=zjK H1.out.bn;obtain⟨ao,capo,rfl,-,-⟩:=(SlR.of_own H1.out.o).shape;obtain⟨bS,oS,rfl,hcell⟩:=(HCL.out _ (Same0.of_below H1.out.b)).scs hmS;obtain⟨x,hx⟩:∃x,S[m]=x:=⟨_,rfl⟩
  have HSC:=lhd (fun(X:World) (hX:Same0 w X) (j:Nat) (u:Value) (hu:(scC x)[j]? =some u)=>(show X.cell? ⟨bS,oS+m*3+j,none⟩=some u by
   obtain⟨b',o',e',hc'⟩:=(HCL.out X hX).scs hmS;injection e' with e';injection e' with e1 e2 _;subst e1 e2;exact hc' j u (by rw[hx];exact hu)))
  rw[hx]at hsx hpk HPW;clear hcell hx hps;obtain⟨nm,ty,pa⟩:=x;dsimp only at hsx hpk HPW;have HSX:=lhd hsx;have HPK:=lhd (show nowF (preS S) (k+1) pa=some (.int .i64 (pos (preS S) pa))by unfold nowF;rw[if_pos hpk]);have hwm:(Lit.int .i64 (m:Int)).wf=true:=zq7 (by omega) (by omega);have hwp:(Lit.int .i64 pa).wf=true:=zq7 (by have:=HPW.out;omega) (by have:=HPW.out;omega);generalize pos (preS S) pa=pp at*;clear hsx hpk;have hbz:=H1.out.b.size;have H6X:=lhd (fun(X Y:World) (h:OrI w (.slice (some ⟨bS,oS,none⟩) S.length cap) b9 bq S k (k+1) (.slice ao k capo) X) (hg:X.grownBy Y (.slice ao k capo:Value).ownBlock)=>h.keepBo hg)
  gi_wp2_with (first
   |(gi_at_builtin;refine wpListIn_append_own _ rfl _ _ 22 rfl w.heap.size 55 i0 (.agg #[.string ⟨#[]⟩,.int .i64 0,.int .i64 0]) 3 32 Tryz.underlying22 hi0 iz0 iz1 iz2 rfl (by decide) _ _ _ rfl H5.out.o ⟨w4.heap.size+1,0,none⟩ 1 1 [.string (bsB nm),.int .i64 ty,.int .i64 pp] rfl rfl HN5.out (by simp[Value.oneCell']) (by unfold maxLen;omega) (by omega) (by simp;omega) ?_;rintro v' w6 ho6 hg6-;obtain⟨g6,cap6,rfl⟩:=zkm ho6;have H6:=lhd (H5.out.add HSX.out ho6 hg6);have HG6:=lhd hg6;have co6:=(zjK (H6X.out _ _ H5.out hg6)).1;have fo6:=(zjK (H6X.out _ _ H5.out hg6)).2;clear ho6 hg6)
   |(refine zrp _ rfl _ _ _ 93 rfl 3 Tryz.underlying93 (b9+1) (k+1) _ rfl H1.out.m (by unfold maxLen;omega) (m:Int) (.int .i64 (k:Int)) rfl rfl hwm ?_;intro w4 hm4 hg4;have H4:=lhd (HM.out _ _ _ H1.out hm4 hg4);have ct4:=(zjK H4.out.bs).1;have co4:=(zjK H4.out.bo).1;have cn4:=(zjK H4.out.bn).1;have zq:bq<w4.heap.size:=zcn cn4;have z9:b9<w4.heap.size:=zcn co4;have d0:w4.cell? ⟨bS,oS+m*3,none⟩=some (.string (bsB nm)):=(HSC.out _ (Same0.of_below H4.out.b) 0 _ rfl);have d1:w4.cell? ⟨bS,oS+m*3+1,none⟩=some (.int .i64 ty):=(HSC.out _ (Same0.of_below H4.out.b) 1 _ rfl);have d2:w4.cell? ⟨bS,oS+m*3+2,none⟩=some (.int .i64 pa):=(HSC.out _ (Same0.of_below H4.out.b) 2 _ rfl);have hlk:(Instr.lookup 93 (.map (some (b9+1))) (.int .i64 pa) false).run Tryz.prog (w4.alloc (.cells #[.string (bsB nm),.int .i64 ty,.int .i64 pa] 55))=.ok (.int .i64 pp) (w4.alloc (.cells #[.string (bsB nm),.int .i64 ty,.int .i64 pa] 55)):=(by have:=(H4.out.m.below ((Below.refl w4.heap.size w4).alloc (Nat.le_refl _) (.cells #[.string (bsB nm),.int .i64 ty,.int .i64 pa] 55)) H4.out.m.lt).look1 (t:=93) Tryz.underlying93 (zrv _) pa hwp;rw[HPK.out]at this;exact this);have HG4:=lhd hg4;have hN5:=heap_alloc_new (w4.alloc (.cells #[.string (bsB nm),.int .i64 ty,.int .i64 pp] 55)) (.cells #[.string (bsB nm),.int .i64 ty,.int .i64 pp] 55);rw[World.size_alloc]at hN5;have HN5:=lhd (World.news_of_block (cs:=#[.string (bsB nm),.int .i64 ty,.int .i64 pp]) (t:=55) (fr:=(0,0)) hN5);have H5:=lhd (H4.out.below (((Below.refl w4.heap.size w4).alloc (Nat.le_refl _) (.cells #[.string (bsB nm),.int .i64 ty,.int .i64 pp] 55)).alloc (by simp) (.cells #[.string (bsB nm),.int .i64 ty,.int .i64 pp] 55)));clear hm4 hg4 ct co cn hN5))
  have hz9:=H1.out.z.1;have ha1:=(KeepsOthers.alloc w4 (.cells #[.string (bsB nm),.int .i64 ty,.int .i64 pp] 55)).trans (KeepsOthers.alloc _ (.cells #[.string (bsB nm),.int .i64 ty,.int .i64 pp] 55));have ha2:Below w4.heap.size w4 ((w4.alloc (.cells #[.string (bsB nm),.int .i64 ty,.int .i64 pp] 55)).alloc (.cells #[.string (bsB nm),.int .i64 ty,.int .i64 pp] 55)):=((Below.refl w4.heap.size w4).alloc (Nat.le_refl _) _).alloc (by simp) _;refine⟨?_,?_,⟨_,H6.out⟩⟩
  ·exact((KeepsFrom.of_grownBy HG4.out (fun j ej=>by injection ej with ej;omega)).trans (ha1.from _)).trans ((H5.out.others HG6.out).from _)
  ·refine KpO.trans (B:=w4) ⟨HG4.out.size,fun b C T fr hb hc=>?_⟩ (KpO.trans (KpO.same0 (Same0.of_below ha2)) (H5.out.kp HG6.out));rw[HG4.out.block b (Array.getElem?_eq_some_iff.1 hc).1 (fun q=>by injection q with q;omega)];exact hc
theorem zfN (v v2:Value) (S:List Sc) (V:List Vr) (w:World) (hs:SlR w v S.length (scs S)) (hv:SlR w v2 V.length (vrs V)) (hl:S.length≤1000∧V.length≤1000) (hn:(∀s∈S,s.1.length≤100000)∧∀x∈V,x.nm.length≤100000)
 (hsg:∀x∈V,(Lit.int .i64 x.sg).wf=true):Calls Tryz.prog 121 #[v,v2] w (zar (zj2 S V) w):=by
 by_cases he:zcw S V=0
 ·exact zj1 v v2 S V w hs hv hl hn hsg he
 ·exact zjZ v v2 S V w hs hv hl hn he
end Go.Proofs.YtbiadennhnokhaaGreatDoor
