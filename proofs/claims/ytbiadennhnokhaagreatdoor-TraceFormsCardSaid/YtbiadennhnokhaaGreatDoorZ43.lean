import Derived.Test.YtbiadennhnokhaaGreatDoorZ00
import Derived.Test.YtbiadennhnokhaaGreatDoorZ27
import Derived.Test.YtbiadennhnokhaaGreatDoorZ41
set_option maxRecDepth 100000
set_option maxHeartbeats 16000000
namespace Go.Proofs.YtbiadennhnokhaaGreatDoor
open Go.RowKit
set_option linter.unusedSimpArgs false
def VBx (W:World) (b:Nat):Prop:=∃C,W.heap[b]? =some (.cells C 42 (0,0))
theorem VBx.new (W:World) (C:Array Value):VBx (W.alloc (.cells C 42)) W.heap.size:=⟨C,heap_alloc_new W _⟩
theorem VBx.lt {W:World} {b:Nat} (h:VBx W b):b<W.heap.size:=by
 obtain⟨C,h⟩:=h;exact(Array.getElem?_eq_some_iff.1 h).1
theorem VBx.alloc {W:World} {b:Nat} (h:VBx W b) (o:Obj):VBx (W.alloc o) b:=by
 obtain⟨C,hb⟩:=h;exact⟨C,((World.grownBy_alloc W o none).block b (Array.getElem?_eq_some_iff.1 hb).1 (by simp)).trans hb⟩
theorem VBx.grown {W W2:World} {b:Nat} {row:Option Nat} (h:VBx W b) (hg:W.grownBy W2 row) (hne:row≠some b):VBx W2 b:=by
 obtain⟨C,hb⟩:=h;exact⟨C,(hg.block b (Array.getElem?_eq_some_iff.1 hb).1 (Ne.symm hne)).trans hb⟩
theorem VBx.ne {W:World} {b B e size n:Nat} {v:Value} {xs:List Value} (h:VBx W b) (ho:W.ownsRow B e size v n xs) (hT:42≠e):v.ownBlock≠some b:=by
 obtain⟨C,hb⟩:=h;exact zjC ho hb hT
theorem VBx.set {W:World} {b:Nat} (h:VBx W b) (c j:Nat) (u:Value):VBx (W.setCell ⟨c,j,none⟩ u) b:=by
 obtain⟨C,hb⟩:=h;by_cases hc:c=b
 ·subst hc;exact⟨_,heap_setCell_same W c j C _ u hb⟩
 ·exact⟨C,(heap_setCell_other W ⟨c,j,none⟩ b u (fun h=>hc h.symm)).trans hb⟩
structure OrS (w W:World) (vb vf:Value) (D:List Vr) (F:List Int):Prop where
 b:W.ownsRow w.heap.size 42 7 vb D.length (vrs D)
 f:W.ownsRow w.heap.size 3 1 vf F.length (ints F)
 k:Below w.heap.size w W
section
variable {w W W' : World} {vb vf v' : Value} {D : List Vr} {F : List Int}
theorem OrS.alloc (h:OrS w W vb vf D F) (o:Obj):OrS w (W.alloc o) vb vf D F:=⟨h.b.alloc o,h.f.alloc o,h.k.alloc h.k.size o⟩
theorem OrS.box (h:OrS w W vb vf D F) {g:Nat} (hw:w.heap.size≤g) (h1:vb.ownBlock≠some g) (h2:vf.ownBlock≠some g) (j:Nat) (u:Value):OrS w (W.setCell ⟨g,j,none⟩ u) vb vf D F:=
 ⟨ownsRow_setCell_other (a:=⟨g,j,none⟩) h.b h1 u,ownsRow_setCell_other (a:=⟨g,j,none⟩) h.f h2 u,h.k.setCell hw u⟩
theorem OrS.addF (h:OrS w W vb vf D F) {o:Obj} (hg:(W.alloc o).grownBy W' vf.ownBlock) {x:Int} (ho:W'.ownsRow w.heap.size 3 1 v' (F.length+1) (ints F++ [.int .i64 x])):OrS w W' vb v' D (F++ [x]):=by
 have hk:=h.k.size;refine⟨(h.b.alloc o).kept hg ?_,?_,(h.k.alloc hk o).grown hg (by simp;omega) (fun q hq=>(h.f.lt q hq).1)⟩
 ·exact zjw h.b h.f (by decide)
 ·rw[List.length_append,zgc];exact ho
theorem OrS.addB (h:OrS w W vb vf D F) {o:Obj} (hg:(W.alloc o).grownBy W' vb.ownBlock) {x:Vr} (ho:W'.ownsRow w.heap.size 42 7 v' (D.length+1) (vrs D++vrC x)):OrS w W' v' vf (D++ [x]) F:=by
 have hk:=h.k.size;refine⟨?_,(h.f.alloc o).kept hg ?_,(h.k.alloc hk o).grown hg (by simp;omega) (fun q hq=>(h.b.lt q hq).1)⟩
 ·rw[List.length_append,zqo];simpa[vrs] using ho
 ·exact zjw h.f h.b (by decide)
end
def OrdR (w:World) (r:List Sc×List Vr×List Int×Int) (e:Ending) (w':World):Prop:=
 ∃a1 c1 a2 c2 a3 c3,e=.returned (.tuple #[.slice a1 r.1.length c1,.slice a2 r.2.1.length c2,.slice a3 r.2.2.1.length c3,.int .i64 r.2.2.2])∧
  w'.ownsRow w.heap.size 55 3 (.slice a1 r.1.length c1) r.1.length (scs r.1)∧w'.ownsRow w.heap.size 42 7 (.slice a2 r.2.1.length c2) r.2.1.length (vrs r.2.1)∧w'.ownsRow w.heap.size 3 1 (.slice a3 r.2.2.1.length c3) r.2.2.1.length (ints r.2.2.1)∧Below w.heap.size w w'
theorem zlv (v u:Value) (S:List Sc) (V:List Vr) (w:World) (hs:SlR w v S.length (scs S)) (hv:SlR w u V.length (vrs V)) (hS:∀s∈S,s.1.length≤100000) (hV:∀x∈V,x.nm.length≤100000):
 Calls Tryz.prog 61 #[v,u] w (OrdR w (zju S V)):=by
 have HCK:=lhd (zlF v u S V w hs hv hS hV);obtain⟨a,cap,rfl,hc,hm⟩:=hs.shape;obtain⟨a2,cap2,rfl,hc2,hm2⟩:=hv.shape;have HS:=lhd hs;have HV:=lhd hv;clear hs hv hS hV hc hm hc2 hm2;by_cases h0:zbY S V=0
 rotate_left
 ·rw[show zju S V=([],[],[],zbY S V)by unfold zju;rw[if_pos h0]];have hb:(zbY S V==0)=false:=by rw[beq_eq_false_iff_ne];exact h0
  generalize zbY S V=ck at HCK hb⊢;clear h0;go_enter Tryz.func61,Tryz.ntmps61;go_wp2_with fail;refine HCK.out.mono ?_;rintro e w1 ⟨rfl,hb1⟩;have HB:=lhd hb1;clear hb1;go_wp2_with fail;refine bodyPost_ret (v:=.tuple #[.slice none 0 0,.slice none 0 0,.slice none 0 0,.int .i64 ck]) (by simp[results,Tryz.results61,go_sem]) rfl ?_;exact⟨_,_,_,_,_,_,rfl,World.ownsRow_nil _ _ _ _,World.ownsRow_nil _ _ _ _,World.ownsRow_nil _ _ _ _,HB.out⟩
 have HOF:=lhd (show zju S V=(scF S,(vrF S V).1,(vrF S V).2,0)by unfold zju;rw[if_neg (by simpa using h0)]);rw[HOF.out];rw[h0]at HCK;have hck:=zce.1 h0;have HF:=lhd (zdx hck.d);have HVS:=lhd (fun v hv=>(show-1≤v.sc∧v.sc<(S.length:Int)from⟨(zdB hck.d v hv).1,(zdB hck.d v hv).2.1⟩));obtain⟨l1,l2⟩:S.length≤32∧V.length≤128:=⟨hck.n,hck.m⟩;clear h0 hck;have HPO:=lhd (zlQ S HF.out (by omega) S.length);obtain⟨is,his,sz0,sz1,sz2⟩:=info_parts (P:=Tryz.prog) zmj;obtain⟨ii,hii,iz0,iz1,iz2⟩:=info_parts (P:=Tryz.prog) zf9;obtain⟨iv,hiv,vz0,vz1,vz2⟩:=info_parts (P:=Tryz.prog) zqj;go_enter Tryz.func61,Tryz.ntmps61;go_wp2_with fail;refine HCK.out.mono ?_;rintro e w1 ⟨rfl,hb1⟩;have HB1:=lhd hb1;clear hb1 HCK;go_wp2_with fail;refine(HPO.out (-1) _ w1 (by omega) (by omega) (HS.out.below HB1.out) (by omega)).mono ?_;rintro e w2 ⟨⟨vo,rfl,ho2⟩,hb2⟩;rw[zj9,show pre (parS S) S.length (S.length+1) (-1)=preS S from rfl]at ho2;have hol:((preS S).map fun i:Nat=>(i:Int)).length=S.length:=by rw[List.length_map,zke HF.out]
 have HOL:=lhd hol;have HON:=lhd (SlR.of_own ho2);obtain⟨oa,oc,rfl,-,-⟩:=(SlR.of_own ho2).shape;have HB2:=lhd (zem HB1.out hb2);clear ho2 hb2 hol HPO;rw[HOL.out]at HON⊢;go_wp2_with fail;go_loopw [10,11] (fun v i wr=>∃k:Nat,k≤S.length∧i=.int .i64 k∧(∃a c,v=.slice a k c)∧wr.ownsRow w2.heap.size 55 3 v k (scs ((scF S).take k))∧Below w2.heap.size w2 wr) (fun _ i _=>S.length-(intOf i).toNat)
 case atStart=>exact⟨0,Nat.zero_le _,rfl,⟨_,_,rfl⟩,World.ownsRow_made w2 #[] 0 (Nat.le_refl _) (Nat.zero_le _) rfl,(Below.refl _ _).alloc (Nat.le_refl _) _⟩
 case round=>
  obtain⟨k,hk,rfl,⟨ao,co,rfl⟩,ho,hb⟩:=hrel;have HO:=lhd ho;have HB:=lhd hb;clear ho hb;by_cases hlt:k<S.length
  ·have hw1:=zhO k (by omega);obtain⟨i,hi,hpi,hsi⟩:=zme HF.out hlt;have HON2:=lhd (HON.out.below HB.out);obtain⟨bo,oo,oc',hov,-,-,hoc⟩:=HON2.out.at (by omega);injection hov with hov _ hov2;subst hov hov2;have o0:wr.cell? ⟨bo,oo+k,none⟩=some (.int .i64 (i:Int)):=hoc k _ (by simp[ints,List.getElem?_map,hpi]);obtain⟨b,o,rfl,hcell⟩:=(HS.out.below (zem HB2.out HB.out)).scs hi;have d0:wr.cell? ⟨b,o+i*3,none⟩=some (.string (bsB S[i].1)):=hcell 0 _ rfl;have d1:wr.cell? ⟨b,o+i*3+1,none⟩=some (.int .i64 S[i].2.1):=hcell 1 _ rfl;have d2:wr.cell? ⟨b,o+i*3+2,none⟩=some (.int .i64 S[i].2.2):=hcell 2 _ rfl;have hsl:k<(scF S).length:=by rw[zmf HF.out];exact hlt
   have HTK:=lhd (show(scF S).take (k+1)=(scF S).take k++ [(S[i].1,S[i].2.1,pos (preS S) S[i].2.2)]by
    rw[List.take_succ_eq_append_getElem hsl];rw[List.getElem?_eq_getElem hsl]at hsi;rw[Option.some.inj hsi])
   have hff:=HF.out i hi;rw[zjL hi]at hff;have HPX:=lhd (fun(h:0≤S[i].2.2)=>zjZ HF.out hi h);have HPN:=lhd (fun(h:S[i].2.2<0)=>zj1 (S:=S) (p:=S[i].2.2) h);obtain⟨x0,hx0⟩:∃x,S[i].1=x:=⟨_,rfl⟩;obtain⟨x1,hx1⟩:∃x,S[i].2.1=x:=⟨_,rfl⟩;obtain⟨x2,hx2⟩:∃x,S[i].2.2=x:=⟨_,rfl⟩;rw[hx0]at d0 HTK;rw[hx1]at d1 HTK;rw[hx2]at d2 HTK HPX HPN hff;have hbxx:Below wr.heap.size wr (wr.alloc (.cells #[.string (bsB x0),.int .i64 x1,.int .i64 x2] 55)):=(Below.refl _ _).alloc (Nat.le_refl _) _;have X1:=lhd (zal.fresh wr #[.string (bsB x0),.int .i64 x1,.int .i64 x2] 55);have hO1:=HO.out.alloc (.cells #[.string (bsB x0),.int .i64 x1,.int .i64 x2] 55);have HNB:=lhd (show(Value.slice ao k co).ownBlock≠some wr.heap.size from fun h=>by have:=(HO.out.lt _ h).2;omega);have HZW:=lhd (show w2.heap.size≤wr.heap.size from HB.out.size);have HB3:=lhd (HB.out.alloc HB.out.size (.cells #[.string (bsB x0),.int .i64 x1,.int .i64 x2] 55));have HIX:=lhd (fun W (hW:Below w2.heap.size w2 W)=>zlJ _ ((preS S).map fun i:Nat=>(i:Int)) x2 W (by rw[HOL.out];exact HON.out.below hW));clear hcell hoc hpi hsi hx0 hx1 hx2 HON2 hsl hbxx;have HO1:=lhd hO1;clear hO1 HO;go_upto_region 10 with fail;generalize hg9:wr.heap.size=g at*;generalize wr.alloc (.cells #[.string (bsB x0),.int .i64 x1,.int .i64 x2] 55)=w3 at*;clear o0 d0 d1 d2;have c2:=X1.out.cell (j:=2) rfl;by_cases hx:0≤x2
   ·rw[HPX.out hx]at HIX;generalize pos (preS S) x2=px at*;have HI3:=lhd (HIX.out w3 HB3.out);have f2:=X1.out.free (j:=2) (by simp);have X2:=lhd (show zal (w3.setCell ⟨g,2,none⟩ (.int .i64 px)) g [.string (bsB x0),.int .i64 x1,.int .i64 px]from X1.out.set (j:=2) (by simp) (.int .i64 px));have HO2:=lhd (ownsRow_setCell_other (a:=⟨g,2,none⟩) HO1.out HNB.out (.int .i64 px));have HB4:=lhd (show Below w2.heap.size w2 (w3.setCell ⟨g,2,none⟩ (.int .i64 px))from HB3.out.setCell HZW.out _);clear HPX HPN HIX;go_wp2_with fail;refine HI3.out.mono ?_;rintro e w9 ⟨rfl,rfl⟩;go_upto_region 12 with fail;generalize w3.setCell ⟨g,2,none⟩ (.int .i64 px)=w4 at*;clear c2 f2 X1 HO1 HB3 HI3;have x0c:=(X2).out.cell (j:=0) rfl;have x1c:=(X2).out.cell (j:=1) rfl;have x2c:=(X2).out.cell (j:=2) rfl;have hwz:=(HB4).out.size;go_wp2_with (at_builtin;refine wpList_append_own _ rfl _ _ 22 rfl w2.heap.size 55 is (.agg #[.string ⟨#[]⟩,.int .i64 0,.int .i64 0]) 3 32 Tryz.underlying22 his sz0 sz1 sz2 rfl (by decide) _ _ _ rfl (World.ownsRow.alloc (by exact(HO2).out) _) ⟨(w4).heap.size,0,none⟩ 1 1 [.string (bsB x0),.int .i64 x1,.int .i64 px] rfl rfl (World.news_of_block (cs:=#[.string (bsB x0),.int .i64 x1,.int .i64 px]) (t:=55) (fr:=(0,0)) (by exact heap_alloc_new w4 _)) (by simp[Value.oneCell']) (by unfold maxLen;omega) (by omega) (by simp;omega) ?_)
    intro v7 w7 ho7 hg7 _;have hb7:Below w2.heap.size w2 w7:=((HB4).out.alloc hwz _).grown hg7 (by simp;omega) (fun q hq=>((HO2).out.lt q hq).1);obtain⟨a7,c7,rfl,-,-⟩:=(SlR.of_own ho7).shape
    have HO7:=lhd (show w7.ownsRow w2.heap.size 55 3 (.slice a7 (k+1) c7) (k+1) (scs ((scF S).take (k+1)))from by
     rw[HTK.out,zmv];exact ho7)
    have HB7:=lhd hb7;clear ho7 hg7 hb7 x0c x1c x2c;go_wp2_with fail;go_roundw;case rel=>exact⟨k+1,hlt,by go_num,⟨_,_,rfl⟩,HO7.out,HB7.out⟩
    case measure=>simp[intOf];omega
   ·rw[HPN.out (by omega)]at HTK;have hxb:¬(0:Int)≤x2:=hx;clear HPX HPN HIX;go_upto_region 12 with fail;clear c2;have x0c:=(X1).out.cell (j:=0) rfl;have x1c:=(X1).out.cell (j:=1) rfl;have x2c:=(X1).out.cell (j:=2) rfl;have hwz:=(HB3).out.size;go_wp2_with (at_builtin;refine wpList_append_own _ rfl _ _ 22 rfl w2.heap.size 55 is (.agg #[.string ⟨#[]⟩,.int .i64 0,.int .i64 0]) 3 32 Tryz.underlying22 his sz0 sz1 sz2 rfl (by decide) _ _ _ rfl (World.ownsRow.alloc (by exact(HO1).out) _) ⟨(w3).heap.size,0,none⟩ 1 1 [.string (bsB x0),.int .i64 x1,.int .i64 x2] rfl rfl (World.news_of_block (cs:=#[.string (bsB x0),.int .i64 x1,.int .i64 x2]) (t:=55) (fr:=(0,0)) (by exact heap_alloc_new w3 _)) (by simp[Value.oneCell']) (by unfold maxLen;omega) (by omega) (by simp;omega) ?_)
    intro v7 w7 ho7 hg7 _;have hb7:Below w2.heap.size w2 w7:=((HB3).out.alloc hwz _).grown hg7 (by simp;omega) (fun q hq=>((HO1).out.lt q hq).1);obtain⟨a7,c7,rfl,-,-⟩:=(SlR.of_own ho7).shape
    have HO7:=lhd (show w7.ownsRow w2.heap.size 55 3 (.slice a7 (k+1) c7) (k+1) (scs ((scF S).take (k+1)))from by
     rw[HTK.out,zmv];exact ho7)
    have HB7:=lhd hb7;clear ho7 hg7 hb7 x0c x1c x2c;go_wp2_with fail;go_roundw;case rel=>exact⟨k+1,hlt,by go_num,⟨_,_,rfl⟩,HO7.out,HB7.out⟩
    case measure=>simp[intOf];omega
  ·obtain rfl:k=S.length:=by omega
   have HAS:=lhd (show wr.ownsRow w.heap.size 55 3 (.slice ao (scF S).length co) (scF S).length (scs (scF S))by
    have h:=zjJ HO.out HB2.out.size;rw[List.take_of_length_le (by rw[zmf HF.out];omega)]at h;rw[zmf HF.out];exact h)
   have hsf:=zmf HF.out;have HSF:=lhd hsf;rw[hsf]at HAS;have HB5:=lhd (zem HB2.out HB.out);have HON5:=lhd (HON.out.below HB.out);generalize scF S=SF at*;clear hsf hlt hk HO HB HON HB2;obtain⟨w5,hw5⟩:∃w5,w5=wr:=⟨_,rfl⟩;subst hw5;go_wp2_with fail;go_loopw [13,14,15] (fun vb vf i wr=>∃k:Nat,k≤S.length+1∧i=.int .i64 ((k:Int)-1)∧(∃a c,vb=.slice a (numF [] (allL S V k)).1.length c)∧(∃a c,vf=.slice a (numF [] (allL S V k)).2.length c)∧OrS w5 wr vb vf (numF [] (allL S V k)).1 (numF [] (allL S V k)).2) (fun _ _ i _=>S.length+1-(intOf i+1).toNat)
   case atStart=>
    refine⟨0,Nat.zero_le _,rfl,⟨_,_,rfl⟩,⟨_,_,rfl⟩,?_⟩;rw[zaJ]
    have hf0:((w5.alloc (.cells #[] 42)).alloc (.cells #[] 3)).ownsRow w5.heap.size 3 1 (.slice (some ⟨w5.heap.size+1,0,none⟩) 0 0) 0 []:=by
     have h:((w5.alloc (.cells #[] 42)).alloc (.cells #[] 3)).ownsRow w5.heap.size 3 1 (.slice (some ⟨(w5.alloc (.cells #[] 42)).heap.size,0,none⟩) 0 0) 0 []:=World.ownsRow_made (w5.alloc (.cells #[] 42)) #[] 0 (by simp) (Nat.zero_le _) rfl;rwa [World.size_alloc]at h
    exact⟨(World.ownsRow_made w5 #[] 0 (Nat.le_refl _) (Nat.zero_le _) rfl).alloc _,hf0,((Below.refl _ _).alloc (Nat.le_refl _) _).alloc (by simp) _⟩
   case round=>
    obtain⟨k,hk,rfl,⟨ab,cb,rfl⟩,⟨af,cf,rfl⟩,hrs⟩:=hrel;have HRS:=lhd hrs;clear hrs;by_cases hlt:k<S.length+1
    ·have hlt2:(k:Int)-1<(S.length:Int):=by omega
     have hwk:IntKind.i64.wrap ((k:Int)-1+1)=(k:Int):=by rw[show(k:Int)-1+1=(k:Int)by omega];exact IntWalk.i64_in _ (by omega)
     go_upto_if 62 with fail
     go_cut [15,16]from 55 to 66 (fun i u wc=>i=.int .i64 ((k:Int)-1)∧u=.int .i64 (zjc (preS S) ((k:Int)-1))∧wc=wr)
     case first=>
      by_cases hk0:k=0
      ·have hb9:¬(0:Int)≤(k:Int)-1:=by omega
       have HOA:=lhd (show(-1:Int)=zjc (preS S) ((k:Int)-1)by unfold zjc;rw[if_pos (by omega)]);clear hk0;go_wp2_with fail;go_meet
       case rel=>exact⟨rfl,by rw[HOA.out],rfl⟩
      ·obtain⟨j,hj⟩:∃j,j+1=k:=⟨k-1,by omega⟩;have hjj:(k:Int)-1=(j:Int):=by omega
       have hjl:j<(preS S).length:=by rw[zke HF.out];omega
       have HOA:=lhd (show((preS S)[j]:Int)=zjc (preS S) (j:Int)by
        unfold zjc;rw[if_neg (by omega),Int.toNat_natCast];simp[List.getD,List.getElem?_eq_getElem hjl])
       obtain⟨bo,oo,oc',hov,-,-,hoc⟩:=(HON5.out.below HRS.out.k).at (by omega);injection hov with hov _ hov2;subst hov hov2;have o0:wr.cell? ⟨bo,oo+j,none⟩=some (.int .i64 ((preS S)[j]:Int)):=hoc j _ (by simp[ints,List.getElem?_map,List.getElem?_eq_getElem hjl]);have hjs:j<S.length:=by omega
       clear hoc hk0 hj;have hb9:(0:Int)≤(k:Int)-1:=by omega
       generalize (preS S)[j]=pj at*;go_wp2_with fail;go_meet
       case rel=>exact⟨by rw[hjj],by rw[hjj,HOA.out],rfl⟩
     case rest=>
      obtain⟨rfl,rfl,rfl⟩:=hcut;go_wp2_with fail;go_loopw [13,14,17] (fun vb vf i wr=>∃m:Nat,m≤V.length∧i=.int .i64 m∧(∃a c,vb=.slice a (numF [] (allL S V k++blkL S V ((k:Int)-1) m)).1.length c)∧(∃a c,vf=.slice a (numF [] (allL S V k++blkL S V ((k:Int)-1) m)).2.length c)∧OrS w5 wr vb vf (numF [] (allL S V k++blkL S V ((k:Int)-1) m)).1 (numF [] (allL S V k++blkL S V ((k:Int)-1) m)).2) (fun _ _ i _=>V.length-(intOf i).toNat)
      case atStart=>
       refine⟨0,Nat.zero_le _,rfl,?_⟩;rw[zbl,List.append_nil];exact⟨⟨_,_,rfl⟩,⟨_,_,rfl⟩,HRS.out⟩
      case round=>
       clear HRS;obtain⟨m,hm,rfl,⟨ab,cb,rfl⟩,⟨af,cf,rfl⟩,hrs⟩:=hrel;have HRS:=lhd hrs;clear hrs;by_cases hmt:m<V.length
       ·have hwm:=zhO m (by omega);have hlen:=zaH HF.out HVS.out (show k≤S.length by omega) m;obtain⟨hl1,hl2⟩:=zio (allL S V k++blkL S V ((k:Int)-1) m) [];rw[List.length_nil,Nat.zero_add]at hl2;have HBL:=lhd (zem HB5.out HRS.out.k);obtain⟨b,o,rfl,hcell⟩:=(HV.out.below HBL.out).vrs hmt;have d0:wr.cell? ⟨b,o+m*7,none⟩=some (.string (bsB V[m].nm)):=hcell 0 _ rfl;have d1:wr.cell? ⟨b,o+m*7+1,none⟩=some (.int .i64 V[m].ty):=hcell 1 _ rfl;have d2:wr.cell? ⟨b,o+m*7+2,none⟩=some (.int .i64 V[m].sc):=hcell 2 _ rfl;have d3:wr.cell? ⟨b,o+m*7+3,none⟩=some (.int .i64 V[m].sg):=hcell 3 _ rfl;have d4:wr.cell? ⟨b,o+m*7+4,none⟩=some (.bool V[m].rg):=hcell 4 _ rfl;have d5:wr.cell? ⟨b,o+m*7+5,none⟩=some (.int .i64 V[m].mb):=hcell 5 _ rfl;have d6:wr.cell? ⟨b,o+m*7+6,none⟩=some (.int .i64 V[m].lb):=hcell 6 _ rfl;have HBY:=lhd (fun h=>zbk (S:=S) (i:=(k:Int)-1) hmt h);have HBN:=lhd (fun h=>zbj (S:=S) (i:=(k:Int)-1) hmt h);clear hcell;generalize blkL S V ((k:Int)-1) m=BL at*;generalize zjc (preS S) ((k:Int)-1)=od at*;generalize V[m]=y at*;obtain⟨nm,ty,sc,sg,rg,mb,lb⟩:=y;dsimp only at d0 d1 d2 d3 d4 d5 d6 HBY HBN;by_cases hsc:sc=od
        ·subst hsc;have HYES:=lhd (HBY.out rfl)
         have HNI:=lhd (fun(h:sg∈(numF [] (allL S V k++BL)).2)=>show numF [] (allL S V k++(BL++ [⟨nm,ty,(k:Int)-1,sg,rg,mb,lb⟩]))=((numF [] (allL S V k++BL)).1++ [⟨nm,ty,(k:Int)-1,((numF [] (allL S V k++BL)).2.idxOf sg:Nat),rg,mb,lb⟩],(numF [] (allL S V k++BL)).2)by
          rw[←List.append_assoc];exact zir (x:=⟨nm,ty,(k:Int)-1,sg,rg,mb,lb⟩) h)
         have HNN:=lhd (fun(h:sg∉(numF [] (allL S V k++BL)).2)=>show numF [] (allL S V k++(BL++ [⟨nm,ty,(k:Int)-1,sg,rg,mb,lb⟩]))=((numF [] (allL S V k++BL)).1++ [⟨nm,ty,(k:Int)-1,((numF [] (allL S V k++BL)).2.length:Nat),rg,mb,lb⟩],(numF [] (allL S V k++BL)).2++ [sg])by
          rw[←List.append_assoc];exact zis (x:=⟨nm,ty,(k:Int)-1,sg,rg,mb,lb⟩) h)
         have hDl:(numF [] (allL S V k++BL)).1.length≤128:=by omega
         have hFl:(numF [] (allL S V k++BL)).2.length≤128:=by omega
         clear hl1 hl2 hlen;generalize (numF [] (allL S V k++BL)).1=D at*;generalize (numF [] (allL S V k++BL)).2=F at*;have X1:=lhd (zal.fresh wr #[.string (bsB nm),.int .i64 ty,.int .i64 sc,.int .i64 sg,.bool rg,.int .i64 mb,.int .i64 lb] 42);have HR1:=lhd (HRS.out.alloc (.cells #[.string (bsB nm),.int .i64 ty,.int .i64 sc,.int .i64 sg,.bool rg,.int .i64 mb,.int .i64 lb] 42));have HNB:=lhd (show(Value.slice ab D.length cb).ownBlock≠some wr.heap.size from fun h=>by have:=(HRS.out.b.lt _ h).2;omega);have HNF:=lhd (show(Value.slice af F.length cf).ownBlock≠some wr.heap.size from fun h=>by have:=(HRS.out.f.lt _ h).2;omega);have HGW:=lhd (show w5.heap.size≤wr.heap.size∧wr.heap.size<(wr.alloc (.cells #[.string (bsB nm),.int .i64 ty,.int .i64 sc,.int .i64 sg,.bool rg,.int .i64 mb,.int .i64 lb] 42)).heap.size from⟨HRS.out.k.size,by simp⟩);have HT1:=lhd (VBx.new wr #[.string (bsB nm),.int .i64 ty,.int .i64 sc,.int .i64 sg,.bool rg,.int .i64 mb,.int .i64 lb]);clear HBY HBN HRS HBL;go_upto_region 25 with fail;generalize wr.heap.size=g at*;generalize wr.alloc (.cells #[.string (bsB nm),.int .i64 ty,.int .i64 sc,.int .i64 sg,.bool rg,.int .i64 mb,.int .i64 lb] 42)=W1 at*;clear d0 d1 d2 d3 d4 d5 d6;have c2:=X1.out.cell (j:=2) rfl;have f2:=X1.out.free (j:=2) (by simp);have X2:=lhd (show zal (W1.setCell ⟨g,2,none⟩ (.int .i64 ((k:Int)-1))) g [.string (bsB nm),.int .i64 ty,.int .i64 ((k:Int)-1),.int .i64 sg,.bool rg,.int .i64 mb,.int .i64 lb]from X1.out.set (j:=2) (by simp) (.int .i64 ((k:Int)-1)));have HR2:=lhd (HR1.out.box HGW.out.1 HNB.out HNF.out 2 (.int .i64 ((k:Int)-1)));have HZ2:=lhd (show g<(W1.setCell ⟨g,2,none⟩ (.int .i64 ((k:Int)-1))).heap.size by rw[World.size_setCell];exact HGW.out.2);have HT2:=lhd (HT1.out.set g 2 (.int .i64 ((k:Int)-1)));go_upto_region 26 with fail;generalize W1.setCell ⟨g,2,none⟩ (.int .i64 ((k:Int)-1))=W2 at*;clear c2 f2 X1 HR1 HT1;have HIX:=lhd (zlJ _ F sg W2 (SlR.of_own HR2.out.f));have c3:=X2.out.cell (j:=3) rfl;have f3:=X2.out.free (j:=3) (by simp);by_cases hin:sg∈F
         ·have HNU:=lhd (HNI.out hin);rw[zgp hin]at HIX;have hi0:¬((F.idxOf sg:Nat):Int)<0:=by omega
          have X3:=lhd (show zal (W2.setCell ⟨g,3,none⟩ (.int .i64 ((F.idxOf sg:Nat):Int))) g [.string (bsB nm),.int .i64 ty,.int .i64 ((k:Int)-1),.int .i64 ((F.idxOf sg:Nat):Int),.bool rg,.int .i64 mb,.int .i64 lb]from X2.out.set (j:=3) (by simp) _);have HR3:=lhd (HR2.out.box HGW.out.1 HNB.out HNF.out 3 (.int .i64 ((F.idxOf sg:Nat):Int)));clear HNI HNN hin;generalize F.idxOf sg=ix at*;go_wp2_with fail;refine HIX.out.mono ?_;rintro e w9 ⟨rfl,rfl⟩;go_wp2_with fail;refine HIX.out.mono ?_;rintro e w9 ⟨rfl,rfl⟩;go_upto_region 29 with fail;generalize W2.setCell ⟨g,3,none⟩ (.int .i64 (ix:Int))=W3 at*;clear c3 f3 HIX X2 HR2;have y0:=(X3).out.cell (j:=0) rfl;have y1:=(X3).out.cell (j:=1) rfl;have y2:=(X3).out.cell (j:=2) rfl;have y3:=(X3).out.cell (j:=3) rfl;have y4:=(X3).out.cell (j:=4) rfl;have y5:=(X3).out.cell (j:=5) rfl;have y6:=(X3).out.cell (j:=6) rfl;have hwz:=(HR3).out.k.size;go_wp2_with (at_builtin;refine wpList_append_own _ rfl _ _ 23 rfl w5.heap.size 42 iv (.agg #[.string ⟨#[]⟩,.int .i64 0,.int .i64 0,.int .i64 0,.bool false,.int .i64 0,.int .i64 0]) 7 64 Tryz.underlying23 hiv vz0 vz1 vz2 rfl (by decide) _ _ _ rfl (World.ownsRow.alloc (by exact(HR3).out.b) _) ⟨(W3).heap.size,0,none⟩ 1 1 [.string (bsB nm),.int .i64 ty,.int .i64 ((k:Int)-1),.int .i64 (ix:Int),.bool rg,.int .i64 mb,.int .i64 lb] rfl rfl (World.news_of_block (cs:=#[.string (bsB nm),.int .i64 ty,.int .i64 ((k:Int)-1),.int .i64 (ix:Int),.bool rg,.int .i64 mb,.int .i64 lb]) (t:=42) (fr:=(0,0)) (by exact heap_alloc_new W3 _)) (by simp[Value.oneCell']) (by unfold maxLen;omega) (by omega) (by simp;omega) ?_)
          intro v7 w7 ho7 hg7 _;have h9:=(HR3).out.addB (x:=⟨nm,ty,(k:Int)-1,(ix:Int),rg,mb,lb⟩) hg7 ho7;have ho8:=h9.b;obtain⟨a7,c7,rfl,-,-⟩:=(SlR.of_own ho7).shape;have HRN:=lhd h9;clear ho7 hg7 h9 ho8 y0 y1 y2 y3 y4 y5 y6;go_wp2_with fail;go_roundw
          case rel=>
           refine⟨m+1,hmt,by go_num,?_⟩;rw[HYES.out,HNU.out];exact⟨⟨_,_,by first|rfl|(dsimp only;rw[List.length_append];rfl)⟩,⟨_,_,by first|rfl|(dsimp only;rw[List.length_append];rfl)⟩,HRN.out⟩
          case measure=>simp[intOf];omega
         ·have HNU:=lhd (HNN.out hin);rw[zgr hin]at HIX;have HSX:=lhd (zgs hin);clear HNI HNN hin;have hwz2:=HR2.out.k.size;go_wp2_with fail;refine HIX.out.mono ?_;rintro e w9 ⟨rfl,rfl⟩;go_wp2_with (at_builtin;refine wpList_append_own _ rfl _ _ 38 rfl w5.heap.size 3 ii (.int .i64 0) 1 8 Tryz.underlying38 hii iz0 iz1 iz2 rfl (by decide) _ _ _ rfl (World.ownsRow.alloc (by exact HR2.out.f) _) ⟨W2.heap.size,0,none⟩ 1 1 [.int .i64 sg] rfl rfl (World.news_of_block (cs:=#[.int .i64 sg]) (t:=3) (fr:=(0,0)) (by exact heap_alloc_new W2 _)) (by simp[Value.oneCell']) (by unfold maxLen;omega) (by omega) (by simp;omega) ?_)
          intro v6 W6 ho6 hg6 _;have h9:=HR2.out.addF hg6 ho6;have hbl:Below W2.heap.size W2 (W2.alloc (.cells #[.int .i64 sg] 3)):=(Below.refl _ _).alloc (Nat.le_refl _) _;have X6:=lhd (zal.grown (X2.out.below hbl HZ2.out) hg6 (Nat.lt_of_lt_of_le HZ2.out hbl.size) (Ne.symm HNF.out));obtain⟨a6,c6,rfl,-,-⟩:=(SlR.of_own ho6).shape;have HR6:=lhd h9;have ht6:=(HT2.out.alloc (.cells #[.int .i64 sg] 3)).grown hg6 HNF.out;have HN6:=lhd (show(Value.slice a6 (F.length+1) c6).ownBlock≠some g from ht6.ne h9.f (by decide));clear ho6 hg6 h9 hbl ht6 c3 f3 HIX X2 HR2 HT2 HNF HZ2;have c3:=X6.out.cell (j:=3) rfl;have f3:=X6.out.free (j:=3) (by simp);have hix:=zlJ _ (F++ [sg]) sg W6 (SlR.of_own HR6.out.f);rw[HSX.out]at hix;have HIX:=lhd hix;have X3:=lhd (show zal (W6.setCell ⟨g,3,none⟩ (.int .i64 ((F.length:Nat):Int))) g [.string (bsB nm),.int .i64 ty,.int .i64 ((k:Int)-1),.int .i64 ((F.length:Nat):Int),.bool rg,.int .i64 mb,.int .i64 lb]from X6.out.set (j:=3) (by simp) _);have HR3:=lhd (HR6.out.box HGW.out.1 HNB.out HN6.out 3 (.int .i64 ((F.length:Nat):Int)));clear hix;go_wp2_with fail;refine HIX.out.mono ?_;rintro e w9 ⟨rfl,rfl⟩;go_upto_region 29 with fail;generalize W6.setCell ⟨g,3,none⟩ (.int .i64 ((F.length:Nat):Int))=W3 at*;clear c3 f3 HIX X6 HR6;have y0:=(X3).out.cell (j:=0) rfl;have y1:=(X3).out.cell (j:=1) rfl;have y2:=(X3).out.cell (j:=2) rfl;have y3:=(X3).out.cell (j:=3) rfl;have y4:=(X3).out.cell (j:=4) rfl;have y5:=(X3).out.cell (j:=5) rfl;have y6:=(X3).out.cell (j:=6) rfl;have hwz:=(HR3).out.k.size;go_wp2_with (at_builtin;refine wpList_append_own _ rfl _ _ 23 rfl w5.heap.size 42 iv (.agg #[.string ⟨#[]⟩,.int .i64 0,.int .i64 0,.int .i64 0,.bool false,.int .i64 0,.int .i64 0]) 7 64 Tryz.underlying23 hiv vz0 vz1 vz2 rfl (by decide) _ _ _ rfl (World.ownsRow.alloc (by exact(HR3).out.b) _) ⟨(W3).heap.size,0,none⟩ 1 1 [.string (bsB nm),.int .i64 ty,.int .i64 ((k:Int)-1),.int .i64 ((F.length:Nat):Int),.bool rg,.int .i64 mb,.int .i64 lb] rfl rfl (World.news_of_block (cs:=#[.string (bsB nm),.int .i64 ty,.int .i64 ((k:Int)-1),.int .i64 ((F.length:Nat):Int),.bool rg,.int .i64 mb,.int .i64 lb]) (t:=42) (fr:=(0,0)) (by exact heap_alloc_new W3 _)) (by simp[Value.oneCell']) (by unfold maxLen;omega) (by omega) (by simp;omega) ?_)
          intro v7 w7 ho7 hg7 _;have h9:=(HR3).out.addB (x:=⟨nm,ty,(k:Int)-1,((F.length:Nat):Int),rg,mb,lb⟩) hg7 ho7;have ho8:=h9.b;obtain⟨a7,c7,rfl,-,-⟩:=(SlR.of_own ho7).shape;have HRN:=lhd h9;clear ho7 hg7 h9 ho8 y0 y1 y2 y3 y4 y5 y6;go_wp2_with fail;go_roundw
          case rel=>
           refine⟨m+1,hmt,by go_num,?_⟩;rw[HYES.out,HNU.out];exact⟨⟨_,_,by first|rfl|(dsimp only;rw[List.length_append];rfl)⟩,⟨_,_,by first|rfl|(dsimp only;rw[List.length_append];rfl)⟩,HRN.out⟩
          case measure=>simp[intOf];omega
        ·have HYES:=lhd (HBN.out hsc);have hbb:(sc==od)=false:=by rw[beq_eq_false_iff_ne];exact hsc
         clear HBY HBN hsc;go_wp2_with fail;go_roundw
         case rel=>
          refine⟨m+1,hmt,by go_num,?_⟩;rw[HYES.out];exact⟨⟨_,_,rfl⟩,⟨_,_,rfl⟩,HRS.out⟩
         case measure=>simp[intOf];omega
       ·obtain rfl:m=V.length:=by omega
        have HAK:=lhd (zaI (V:=V) hlt);rw[←HAK.out]at HRS⊢;go_wp2_with fail;go_roundw;case rel=>exact⟨k+1,hlt,by go_num,⟨_,_,rfl⟩,⟨_,_,rfl⟩,HRS.out⟩
        case measure=>simp[intOf];omega
    ·obtain rfl:k=S.length+1:=by omega
     have hge:¬((S.length+1:Nat):Int)-1<(S.length:Int):=by omega
     have HVR:=lhd (show numF [] (allL S V (S.length+1))=vrF S V by rw[zaG HF.out HVS.out];rfl);rw[HVR.out]at HRS⊢;go_wp2_with fail;refine bodyPost_ret (v:=.tuple #[.slice ao S.length co,.slice ab (vrF S V).1.length cb,.slice af (vrF S V).2.length cf,.int .i64 0]) (by simp[results,Tryz.results61,go_sem]) rfl ?_;refine⟨ao,co,ab,cb,af,cf,?_,?_,zjJ HRS.out.b HB5.out.size,zjJ HRS.out.f HB5.out.size,zem HB5.out HRS.out.k⟩
     ·show _=Ending.returned (.tuple #[.slice ao SF.length co,_,_,_]);rw[HSF.out]
     ·show wr.ownsRow w.heap.size 55 3 (.slice ao SF.length co) SF.length (scs SF);rw[HSF.out];exact zba HAS.out HRS.out.k
end Go.Proofs.YtbiadennhnokhaaGreatDoor
