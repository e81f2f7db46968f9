import Derived.Test.YtbiadennhnokhaaGreatDoorZ00
import Derived.Test.YtbiadennhnokhaaGreatDoorZ28
set_option maxRecDepth 100000
set_option maxHeartbeats 16000000
namespace Go.Proofs.YtbiadennhnokhaaGreatDoor
open Go.RowKit
def zan (l:List Ch) (j:Nat) (a:Int):Prop:=(j=0∧a=0)∨(0<j∧∃c,l[j-1]? =some c∧c.1=a)
theorem zkV (k n:Int) (v:Value) (l:List Ch) (w:World) (hs:SlR w v l.length (chs l)) (hf:Fit l):
 Calls Tryz.prog 63 #[.int .i64 k,.int .i64 n,v] w (zaq (zij k n l) w):=by
 obtain⟨a,cap,rfl,hc,hm⟩:=hs.shape;have hln:=hf.1;unfold maxLen at hm;have HS:=lhd hs;have HF:=lhd hf;have HT:=lhd (fun W=>zk1 k n W);clear hs hf;cases hv:vt k n
 ·have HR:=lhd (show zij k n l=((0,0,[]),7)by unfold zij;rw[if_pos hv]);rw[hv]at HT;clear hv;go_enter Tryz.func63,Tryz.ntmps63;go_wp2_with fail;refine(HT.out _).mono ?_;rintro e w1 ⟨rfl,rfl⟩;go_wp2_with fail;refine bodyPost_ret (v:=.tuple #[.agg #[.int .i64 0,.int .i64 0,.slice none 0 0],.int .i64 7]) (by simp[results,Tryz.results63,go_sem]) rfl ?_;rw[HR.out];exact zaq.zero 7 ((Below.refl _ _).alloc (Nat.le_refl _) _)
 have HR:=lhd (show zij k n l=if nzGo k n 0 l≠0 then((0,0,[]),nzGo k n 0 l)else zhm k n l by unfold zij;rw[if_neg (by rw[hv];simp)]);rw[hv]at HT;clear hv;go_enter Tryz.func63,Tryz.ntmps63;go_wp2_with fail;refine(HT.out _).mono ?_;rintro e w1 ⟨rfl,rfl⟩;go_wp2_with fail
 go_loopw [8] (fun i wr=>∃(j:Nat) (at_:Int),j≤l.length∧i=.int .i64 j∧0≤at_∧zan l j at_∧nzGo k n at_ (l.drop j)=nzGo k n 0 l∧
  Below (w.alloc (.cells #[.int .i64 0,.int .i64 0,.slice none 0 0] 45)).heap.size (w.alloc (.cells #[.int .i64 0,.int .i64 0,.slice none 0 0] 45)) wr)
  (fun i _=>l.length-(intOf i).toNat)
 case atStart=>exact⟨0,0,Nat.zero_le _,rfl,Int.le_refl _,.inl ⟨rfl,rfl⟩,rfl,Below.refl _ _⟩
 case round=>
  obtain⟨j,at_,hj,rfl,hat,hpv,hgo,hb⟩:=hrel;obtain⟨c0,c1,c2⟩:=box3 hb;obtain⟨f0,f1,f2⟩:=zbo hb;have hsz0:w.heap.size<wr.heap.size:=by have:=hb.size;simp at this;omega
  have HGO:=lhd hgo;have HB2:=lhd hb;have HBW:=lhd (zel hb);clear hgo hb;by_cases hlt:j<l.length
  ·obtain⟨b,o,rfl,d0,d1⟩:=(HS.out.below HBW.out).ch hlt
   have hfit:l[j].2.size≤maxLen:=by
    have:=HF.out.2 l[j] (List.getElem_mem hlt);unfold maxLen;omega
   have HGO2:Hid ((if l[j].1<at_∨1099511627776<l[j].1 then 2 else if vv k n l[j].2=false then 1 else nzGo k n l[j].1 (l.drop (j+1)))=nzGo k n 0 l):=lhd (by
    have:=HGO.out;rw[List.drop_eq_getElem_cons hlt,nzGo]at this;exact this)
   have HL:=lhd (show zan l (j+1) l[j].1 from .inr ⟨by omega,l[j],by rw[Nat.add_sub_cancel];exact List.getElem?_eq_getElem hlt,rfl⟩)
   have hprev:0<j→wr.cell? ⟨b,o+(j-1)*2,none⟩=some (.int .i64 at_):=by
    intro h0;obtain⟨b2,o2,he2,e0,-⟩:=(HS.out.below HBW.out).ch (show j-1<l.length by omega);injection he2 with he2;injection he2 with he3 he4 _;subst he3 he4;rcases hpv with⟨h,-⟩|⟨-,c,hc1,hc2⟩
    ·omega
    ·rw[List.getElem?_eq_getElem (by omega)]at hc1;rw[←hc2,←Option.some.inj hc1];exact e0
   have hz0:j=0→at_=0:=by
    intro h0;rcases hpv with⟨-,h⟩|⟨h,-⟩
    ·exact h
    ·omega
   generalize l[j]=c at d0 d1 hfit HGO2 HL;obtain⟨t,s⟩:=c;simp only at d0 d1 hfit HL;clear hpv;by_cases hin:t<0∨1099511627776<t
   ·have E2:=lhd (show zij k n l=((0,0,[]),2)by rw[HR.out,show nzGo k n 0 l=2 by rw[←HGO2.out,if_pos (by dsimp only;omega)],if_pos (by decide)]);have HIN:=lhd (fun W=>(zk9 t W hin).mono fun _ _ h=>(⟨h.1,h.2.symm⟩:_∧_));clear hin hprev hz0;go_wp2_with fail;go_quiet ((go_at_call 130;exact Calls.quiet_of_same (HIN.out _)))
    go_wp2_with fail;obtain⟨e0,e1,e2⟩:=set3 (w:=wr.drewN nq) c0 c1 c2 (.int .i64 0) (.int .i64 0) (.slice none 0 0);refine bodyPost_ret (v:=.tuple #[.agg #[.int .i64 0,.int .i64 0,.slice none 0 0],.int .i64 2]) (by simp[results,Tryz.results63,go_sem,e0,e1,e2]) rfl ?_;rw[E2.out];exact zaq.zero 2 (zbc (za6 HBW.out _) _ _ _)
   obtain⟨hA0,hA1⟩:0≤t∧t≤1099511627776:=by omega
   have HIN:=lhd (fun W=>(zla t W hA0 hA1).mono fun _ _ h=>(⟨h.1,h.2.symm⟩:_∧_));clear hin;have HVal:=lhd (fun W=>zlf k n s W hfit);by_cases h0:0<j
   ·have d3:=hprev h0;clear hprev hz0;have q1:IntKind.i64.wrap ((j:Int)-1)=(j:Int)-1:=IntWalk.i64_in _ (by omega);have q2:(0:Int)≤(j:Int)-1:=by omega
    have q3:((j:Int)-1).toNat=j-1:=by omega
    have q4:(1:Int)≤(j:Int):=by omega
    by_cases hA:t<at_
    ·have E2:=lhd (show zij k n l=((0,0,[]),2)by rw[HR.out,show nzGo k n 0 l=2 by rw[←HGO2.out,if_pos (.inl hA)],if_pos (by decide)]);go_wp2_with fail;go_quiet ((go_at_call 130;exact Calls.quiet_of_same (HIN.out _)))
     go_wp2_with fail;obtain⟨e0,e1,e2⟩:=set3 (w:=wr.drewN nq) c0 c1 c2 (.int .i64 0) (.int .i64 0) (.slice none 0 0);refine bodyPost_ret (v:=.tuple #[.agg #[.int .i64 0,.int .i64 0,.slice none 0 0],.int .i64 2]) (by simp[results,Tryz.results63,go_sem,e0,e1,e2]) rfl ?_;rw[E2.out];exact zaq.zero 2 (zbc (za6 HBW.out _) _ _ _)
    ·have HGO3:=lhd ((if_neg (by dsimp only;omega)).symm.trans HGO2.out);have hA':at_≤t:=by omega
     clear hA;cases hV:vv k n s
     ·have E2:=lhd (show zij k n l=((0,0,[]),1)by rw[HR.out,show nzGo k n 0 l=1 by rw[←HGO3.out,if_pos hV],if_pos (by decide)]);rw[hV]at HVal;clear hV;go_wp2_with fail;go_quiet ((go_at_call 130;exact Calls.quiet_of_same (HIN.out _)))
      go_wp2_with fail;refine(HVal.out _).mono ?_;rintro e w3 ⟨rfl,hb3⟩;have hb4:=zem (za6 HB2.out _) hb3;obtain⟨c0,c1,c2⟩:=box3 hb4;obtain⟨f0,f1,f2⟩:=zbo hb4;have HB4:=lhd (zel hb4);clear hb4 hb3;go_wp2_with fail;obtain⟨e0,e1,e2⟩:=set3 (w:=w3) c0 c1 c2 (.int .i64 0) (.int .i64 0) (.slice none 0 0);refine bodyPost_ret (v:=.tuple #[.agg #[.int .i64 0,.int .i64 0,.slice none 0 0],.int .i64 1]) (by simp[results,Tryz.results63,go_sem,e0,e1,e2]) rfl ?_;rw[E2.out];exact zaq.zero 1 (zbc HB4.out _ _ _)
     ·have E2:=lhd (show nzGo k n t (l.drop (j+1))=nzGo k n 0 l by rw[←HGO3.out,if_neg (by rw[hV];simp)]);rw[hV]at HVal;clear hV;go_wp2_with fail;go_quiet ((go_at_call 130;exact Calls.quiet_of_same (HIN.out _)))
      go_wp2_with fail;refine(HVal.out _).mono ?_;rintro e w3 ⟨rfl,hb3⟩;have HB4:=lhd (zem (za6 HB2.out _) hb3);clear hb3 c0 c1 c2 f0 f1 f2;go_wp2_with fail;go_roundw;case rel=>exact⟨j+1,t,by omega,by go_num,hA0,HL.out,E2.out,HB4.out⟩
      case measure=>simp[intOf];omega
   ·have HGO3:=lhd ((if_neg (by have:=hz0 (by omega);dsimp only;omega)).symm.trans HGO2.out);have h1:j≤0:=by omega
    have h2:decide (0<j)=false:=by simpa using h1
    have h3:decide ((0:Int)<(j:Int))=false:=by simpa using h1
    clear hprev h0 hz0;cases hV:vv k n s
    ·have E2:=lhd (show zij k n l=((0,0,[]),1)by rw[HR.out,show nzGo k n 0 l=1 by rw[←HGO3.out,if_pos hV],if_pos (by decide)]);rw[hV]at HVal;clear hV;go_wp2_with fail;go_quiet ((go_at_call 130;exact Calls.quiet_of_same (HIN.out _)))
     go_wp2_with fail;refine(HVal.out _).mono ?_;rintro e w3 ⟨rfl,hb3⟩;have hb4:=zem (za6 HB2.out _) hb3;obtain⟨c0,c1,c2⟩:=box3 hb4;obtain⟨f0,f1,f2⟩:=zbo hb4;have HB4:=lhd (zel hb4);clear hb4 hb3;go_wp2_with fail;obtain⟨e0,e1,e2⟩:=set3 (w:=w3) c0 c1 c2 (.int .i64 0) (.int .i64 0) (.slice none 0 0);refine bodyPost_ret (v:=.tuple #[.agg #[.int .i64 0,.int .i64 0,.slice none 0 0],.int .i64 1]) (by simp[results,Tryz.results63,go_sem,e0,e1,e2]) rfl ?_;rw[E2.out];exact zaq.zero 1 (zbc HB4.out _ _ _)
    ·have E2:=lhd (show nzGo k n t (l.drop (j+1))=nzGo k n 0 l by rw[←HGO3.out,if_neg (by rw[hV];simp)]);rw[hV]at HVal;clear hV;go_wp2_with fail;go_quiet ((go_at_call 130;exact Calls.quiet_of_same (HIN.out _)))
     go_wp2_with fail;refine(HVal.out _).mono ?_;rintro e w3 ⟨rfl,hb3⟩;have HB4:=lhd (zem (za6 HB2.out _) hb3);clear hb3 c0 c1 c2 f0 f1 f2;go_wp2_with fail;go_roundw;case rel=>exact⟨j+1,t,by omega,by go_num,hA0,HL.out,E2.out,HB4.out⟩
     case measure=>simp[intOf];omega
  ·obtain rfl:j=l.length:=by omega
   have E2:=lhd (show zij k n l=zhm k n l by rw[HR.out,show nzGo k n 0 l=0 by rw[←HGO.out,List.drop_length];rfl];simp);go_wp2_with fail;refine(zk4 k n _ l _ (HS.out.below HBW.out) hln).mono ?_;rintro e w3 ⟨v3,rfl,ho3,hb3⟩;obtain⟨a3,cap3,rfl,-,-⟩:=(SlR.of_own ho3).shape;have hb4:=zem HB2.out hb3;obtain⟨c0',c1',c2'⟩:=box3 hb4;obtain⟨f0',f1',f2'⟩:=zbo hb4;have HB4:=lhd (zel hb4);have HO3:=lhd ho3;clear hb4 hb3 c0 c1 c2 f0 f1 f2 ho3;go_wp2_with fail;refine bodyPost_ret (v:=.tuple #[.agg #[.int .i64 (zhm k n l).1.1,.int .i64 (zhm k n l).1.2.1,.slice a3 (zhm k n l).1.2.2.length cap3],.int .i64 (zhm k n l).2]) (by simp[results,Tryz.results63,go_sem,c0',c1',c2']) rfl ?_;rw[E2.out];exact⟨_,rfl,zjJ (zjK HO3.out hsz0 _ _ _) (by omega),zbc HB4.out _ _ _⟩
end Go.Proofs.YtbiadennhnokhaaGreatDoor
