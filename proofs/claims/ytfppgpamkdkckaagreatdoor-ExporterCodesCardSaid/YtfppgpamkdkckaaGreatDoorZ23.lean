import Derived.Test.YtfppgpamkdkckaaGreatDoorZ00
import Derived.Lib.SlicesCompact
import Derived.Test.YtfppgpamkdkckaaGreatDoorZ15
import Derived.Test.YtfppgpamkdkckaaGreatDoorZ16
import Derived.Test.YtfppgpamkdkckaaGreatDoorZ18
import Derived.Test.YtfppgpamkdkckaaGreatDoorZ22
set_option maxRecDepth 100000
set_option maxHeartbeats 16000000
namespace Go.Proofs.YtfppgpamkdkckaaGreatDoor
open Go.RowKit Go.WideMaps Go.Shelf
attribute [local go_sem] Oper.semAt_some
set_option linter.unusedSimpArgs false
theorem zlG {w:World} {B e size n:Nat} {v:Value} {xs:List Value} (h:w.ownsRow B e size v (n+1) xs):∃g cap,v=.slice (some ⟨g,0,none⟩) (n+1) cap:=by
 rcases h.2 with⟨-,h0⟩|⟨g,cap,cur,e0,-⟩
 ·omega
 ·exact⟨g,cap,e0⟩
theorem ztd {D R:List Vr} (v:Vr) (n:Int):(vrs (D++v::R)).set (D.length*7+2) (.int .i64 n)=vrs (D++{v with sc:=n}::R):=by
 have hl:(vrs D).length=D.length*7:=by rw[zta,Nat.mul_comm]
 rw[zs7,zs7,zs9,zs9,←hl];simp only[vrC,List.cons_append,List.nil_append];rw[List.set_append_right _ _ (by omega),Nat.add_sub_cancel_left];simp only[List.set_cons_succ,List.set_cons_zero]
theorem SO.putSc {base g n c:Nat} {w:World} {X Z:List Vr} {y:Vr} (h:SO base g n c w (X++y::Z)) (q:Int):SO base g n c (w.setCell ⟨g,X.length*7+2,none⟩ (.int .i64 q)) (X++{y with sc:=q}::Z):=by
 have h1:=zlE h (X.length*7+2) (.int .i64 q);rwa [ztd]at h1
def zam (r:List Sc×List Vr×List Int×Int) (w:World) (e:Ending) (w':World):Prop:=
 ∃v1 v2 v3,e=.returned (.tuple #[v1,v2,v3,.int .i64 r.2.2.2])∧w'.ownsRow w.heap.size 66 3 v1 r.1.length (scs r.1)∧w'.ownsRow w.heap.size 55 7 v2 r.2.1.length (vrs r.2.1)∧
  w'.ownsRow w.heap.size 3 1 v3 r.2.2.1.length (ints r.2.2.1)∧Below w.heap.size w w'
theorem zle (v v2:Value) (S:List Sc) (V:List Vr) (w:World) (hs:SlR w v S.length (scs S)) (hv:SlR w v2 V.length (vrs V)) (hl:S.length≤1000∧V.length≤1000) (hn:(∀s∈S,s.1.length≤100000)∧∀x∈V,x.nm.length≤100000) (he:zb6 S V≠0):
 Calls Tryz.prog 154 #[v,v2] w (zam (zll S V) w):=by
 obtain⟨a,cap,rfl,-,-⟩:=hs.shape;obtain⟨a2,cap2,rfl,-,-⟩:=hv.shape;have hal:Below w.heap.size w (w.alloc (.cells #[.slice a S.length cap] 27)):=(Below.refl _ _).alloc (Nat.le_refl _) _;have HC:=lhd (zgA _ _ S V _ (hs.below hal) (hv.below hal) hl hn);have HQ:=lhd (show zll S V=([],[],[],zb6 S V)by unfold zll;rw[if_pos he]);generalize zll S V=O at*;generalize zb6 S V=q at*;have hq:(q==0)=false:=by simpa using he
 have hq2:(q !=0)=true:=by simpa using he
 clear hs hv he;go_enter Tryz.func154,Tryz.ntmps154;go_wp2_with fail;refine HC.out.mono ?_;rintro e w1 ⟨rfl,hb⟩;have HB:=lhd (zfg hb);clear hb HC;go_wp2_with fail;refine bodyPost_ret (v:=.tuple #[.slice none 0 0,.slice none 0 0,.slice none 0 0,.int .i64 q]) (by simp[results,Tryz.results154,go_sem]) rfl ?_;rw[HQ.out];exact⟨_,_,_,rfl,World.ownsRow_nil _ _ _ _,World.ownsRow_nil _ _ _ _,World.ownsRow_nil _ _ _ _,HB.out⟩
theorem zlh (v v2:Value) (S:List Sc) (V:List Vr) (w:World) (hs:SlR w v S.length (scs S)) (hv:SlR w v2 V.length (vrs V)) (hl:S.length≤1000∧V.length≤1000) (hn:(∀s∈S,s.1.length≤100000)∧∀x∈V,x.nm.length≤100000)
 (hsg:∀x∈V,(Lit.int .i64 x.sg).wf=true) (he:zb6 S V=0):Calls Tryz.prog 154 #[v,v2] w (zam (zll S V) w):=by
 obtain⟨i0,hi0,iz0,iz1,iz2⟩:=info_parts (P:=Tryz.prog) znM;obtain⟨a,cap,rfl,-,-⟩:=hs.shape;obtain⟨a2,cap2,rfl,-,-⟩:=hv.shape;have hal:Below w.heap.size w (w.alloc (.cells #[.slice a S.length cap] 27)):=(Below.refl _ _).alloc (Nat.le_refl _) _;have HC:=lhd (zgA _ _ S V _ (hs.below hal) (hv.below hal) hl hn);have HQ:=lhd (show zll S V=(scF S,(vrF S V).1,(vrF S V).2,0)by unfold zll;rw[if_neg (by simp[he])]);have HK:=lhd (zce.1 he);rw[he]at HC;generalize zll S V=O at*;have HS:=lhd hs;have HV:=lhd hv;have HSG:=lhd hsg;have HL:=lhd hl;clear hs hv he hsg hn hl;have hmm:= @run_makeMap Tryz.prog;have h1:=heap_alloc_new w (.cells #[.slice a S.length cap] 27);refine(callsIn_wide (n:=6)).1 ?_;refine callsIn_of_wp_marks Tryz.func154 rfl trivial ?_ rfl;refine wpIn_wide.2 ?_;simp only[Tryz.ntmps154,List.size_toArray,List.length_cons,List.length_nil,Nat.reduceAdd,Nat.reduceSub,Array.replicate_succ,Array.replicate_zero,List.push_toArray,List.append_toArray,List.nil_append,List.cons_append];have H1:=lhd h1;have HAL:=lhd hal;clear h1 hal;go_wp2_with fail;refine HC.out.mono ?_;rintro e w1 ⟨rfl,hb⟩;have HB1:=lhd hb;have hz1:w.heap.size<w1.heap.size:=by have:=hb.size;simp at this;omega
 obtain⟨c2,-⟩:=box1 hb
 have hbs1:w1.heap[w.heap.size]? =some (.cells #[.slice a S.length cap] 27 (0,0)):=by
  rw[hb.block _ (by simp)];exact H1.out
 have ba1:Below w1.heap.size w1 (w1.alloc (.cells #[.slice none 0 0] 27)):=(Below.refl _ _).alloc (Nat.le_refl _) _;have ba2:Below w1.heap.size w1 ((w1.alloc (.cells #[.slice none 0 0] 27)).alloc (.map #[] 0)):=ba1.alloc (by simp) _
 have hbo2:((w1.alloc (.cells #[.slice none 0 0] 27)).alloc (.map #[] 0)).heap[w1.heap.size]? =some (.cells #[.slice none 0 0] 27 (0,0)):=
  (Same0.of_below ((Below.refl (w1.alloc (.cells #[.slice none 0 0] 27)).heap.size (w1.alloc (.cells #[.slice none 0 0] 27))).alloc (Nat.le_refl _) (.map #[] 0))).cells _ _ _ _ (heap_alloc_new w1 (.cells #[.slice none 0 0] 27))
 have HBF:=lhd (fun(w2:World) (hg:((w1.alloc (.cells #[.slice none 0 0] 27)).alloc (.map #[] 0)).grownBy w2 (some (w1.heap.size+1)))=>
  (show w2.heap[w.heap.size]? =some (.cells #[.slice a S.length cap] 27 (0,0))∧w2.heap[w1.heap.size]? =some (.cells #[.slice none 0 0] 27 (0,0))∧w1.heap.size+1<w2.heap.size∧Below w.heap.size w w2 from
    ⟨(hg.block _ (by simp;omega) (by intro q;injection q with q;omega)).trans ((Same0.of_below ba2).cells _ _ _ _ hbs1),(hg.block _ (by simp;omega) (by intro q;injection q with q;omega)).trans hbo2,by have:=hg.size;simp at this;omega,
     ((zfg HB1.out).trans (ba2.mono (by omega))).grown hg (by simp;omega) (fun j hj=>by injection hj with hj;omega)⟩))
 clear hb HC hbs1 ba1 ba2 hbo2
 have HM0:=lhd (show KMap (zhd (P:=Tryz.prog) (K:=3) Tryz.underlying3) ((w1.alloc (.cells #[.slice none 0 0] 27)).alloc (.map #[] 0)) (w1.heap.size+1) 0 (fun _=>none)by
  have:=KMap.made (zhd (P:=Tryz.prog) (K:=3) Tryz.underlying3) (w1.alloc (.cells #[.slice none 0 0] 27));rwa [World.size_alloc]at this)
 go_wp2_with (refine ztP _ rfl _ _ _ 219 rfl 3 Tryz.underlying219 (w1.heap.size+1) 0 _ rfl HM0.out (by decide) (-1) (.int .i64 (-1)) rfl rfl (ztv (n:= -1) (by decide) (by decide)) ?_;intro w2 hm2 hg2;have HM2:=lhd (hm2.ext (zjV (preS S)));obtain⟨g1,g2,g3,g4⟩:=HBF.out w2 hg2;have HG2:=lhd (And.intro g1 (And.intro g2 g4));have c2':=(zkV g1).1;have hz2:w.heap.size<w2.heap.size:=(by omega);clear hm2 hg2 c2 g1 g2 g4)
 clear hmm;refine(zgF _ _ _ _ _).mono ?_;rintro e w3 ⟨rfl,rfl⟩;go_wp2_with fail;obtain⟨v,hv⟩:∃v,Value.slice a S.length cap=v:=⟨_,rfl⟩;rw[hv]at HS HG2 c2'⊢;obtain⟨b9,hb9⟩:∃b9,w1.heap.size=b9:=⟨_,rfl⟩;rw[hb9]at HG2 HM2 g3 hz1⊢;have hq:=heap_alloc_new w2 (.cells #[.map (some (b9+1))] 219);have k1:Below w2.heap.size w2 (w2.alloc (.cells #[.map (some (b9+1))] 219)):=(Below.refl _ _).alloc (Nat.le_refl _) _;have e1:(w2.alloc (.cells #[.map (some (b9+1))] 219)).heap.size=w2.heap.size+1:=by simp
 obtain⟨W0,hW0⟩:∃X,((w2.alloc (.cells #[.map (some (b9+1))] 219)).alloc (.cells #[v] 27)).alloc (.cells #[.int .i64 (-1)] 3)=X:=⟨_,rfl⟩;have hs0:W0.heap.size=w2.heap.size+3:=by rw[←hW0];simp
 rw[hW0];generalize w2.alloc (.cells #[.map (some (b9+1))] 219)=x1 at*;have h2:=heap_alloc_new x1 (.cells #[v] 27);have k2:Below x1.heap.size x1 (x1.alloc (.cells #[v] 27)):=(Below.refl _ _).alloc (Nat.le_refl _) _;have e2:(x1.alloc (.cells #[v] 27)).heap.size=w2.heap.size+2:=by simp[e1]
 generalize x1.alloc (.cells #[v] 27)=x2 at*;have h3:=heap_alloc_new x2 (.cells #[.int .i64 (-1)] 3);have k3:Below x2.heap.size x2 (x2.alloc (.cells #[.int .i64 (-1)] 3)):=(Below.refl _ _).alloc (Nat.le_refl _) _;rw[hW0]at h3 k3;rw[e1]at h2;rw[e2]at h3;have bb:Below w2.heap.size w2 W0:=zfj (zfj k1 k2) k3
 have hI0:OrI w v b9 w2.heap.size S 0 0 (.slice none 0 0) W0:=
  ⟨(Same0.of_below bb).cells _ _ _ _ HG2.out.1,(Same0.of_below bb).cells _ _ _ _ HG2.out.2.1,(Same0.of_below k3).cells _ _ _ _ ((Same0.of_below k2).cells _ _ _ _ hq),HM2.out.below bb HM2.out.lt,World.ownsRow_nil _ _ _ _,HG2.out.2.2.trans (bb.mono HG2.out.2.2.size),hz1,g3⟩
 have q2:=(Same0.of_below k3).cells _ _ _ _ h2;have HF:=lhd (zd0 HK.out.d);have hSl:S.length≤32:=HK.out.n;obtain⟨bq,hbq⟩:∃bq,w2.heap.size=bq:=⟨_,rfl⟩;rw[hbq]at hI0 hs0 h3 q2 g3⊢;have HPL:=lhd (zme HF.out);clear k1 k2 k3 e1 e2 hW0 hq h2 HM0 HBF H1 HAL HB1 HM2 hz2 c2' x1 x2;refine(wpIn_wide (n:=6)).1 ?_
 refine zmW rfl (by decide) (gf:=273) (lb:=#[.pointer (some ⟨bq+1,0,none⟩),.pointer (some ⟨bq+2,0,none⟩)]) rfl trivial (enters_of Tryz.func273 (by kernel_rfl) rfl)
  (encs:=ordE (preS S)) (Kp:=KpO w.heap.size) (N:=(preS S).length) (T:=5)
  (fun l J W hW hJ hY h0=>?iter)
  KpO.trans (fun _ _ h=>KpO.same0 h) (fun _=>rfl)
  (fun k W=>∃vo,OrI w v b9 bq S k k vo W) (fun k W V ⟨vo,h⟩ ht=>⟨vo,h.turn (by omega) ht⟩) ⟨_,hI0⟩ ?round ?done
 case iter=>
  exact zl7 (6-1) (by decide) l (bq+1) (bq+2) S v w W J HF.out (by omega) HS.out (Same0.trans (Same0.of_below (HG2.out.2.2.trans (bb.mono HG2.out.2.2.size))) (Same0.of_below hW)) hY ((Same0.of_below hW).cells _ _ _ _ q2) ((Same0.of_below hW).cells _ _ _ _ h3) h0
 case done=>
  rintro D W hD ⟨vo,h⟩ hDd;have HI:=lhd h;have HD:=lhd (And.intro hD hDd);have hln:(scF S).length=(preS S).length:=by rw[HPL.out,znI HF.out]
  have HOU:=lhd (show W.ownsRow w.heap.size 66 3 vo (scF S).length (scs (scF S))by
   have:=h.o;rw[←hln,List.take_of_length_le (Nat.le_refl _)]at this;exact this)
  have hVl:V.length≤128:=HK.out.m;have HVV:=lhd (zcq _ V W (HV.out.below h.b) (by omega));obtain⟨co,-⟩:=zkV h.bo;obtain⟨cn,-⟩:=zkV h.bn;clear hD hDd hln h hb9 hbq HG2 hI0 q2 h3;go_wp2_with fail;refine HVV.out.mono ?_;rintro e w5 ⟨vl,rfl,hov,hb5⟩;have HOV:=lhd hov;have HB5:=lhd hb5
  have hvs:∃va vc,vl=.slice va V.length vc:=by
   obtain⟨va,vc,e,-,-⟩:=(SlR.of_own hov).shape;exact⟨va,vc,e⟩
  obtain⟨va,vc,rfl⟩:=hvs;have HSV:=lhd (zd2 HK.out.d)
  have HNW:=lhd (fun(x:Vr) (hx:x∈V)=>(show nowF (preS S) (preS S).length x.sc=some (.int .i64 (pos (preS S) x.sc))by
   unfold nowF;obtain⟨y1,y2,-⟩:=HSV.out x hx;rw[if_pos];by_cases h0:x.sc= -1
   ·exact .inl h0
   ·refine .inr ⟨by omega,?_⟩;rw[List.take_of_length_le (Nat.le_refl _)];exact(zmf HF.out).2 (by omega)))
  have HV1:=lhd (show(vr1 S V).length=V.length by simp[vr1]);clear hov hb5 co cn HVV;go_wp2_with fail;go_loopw [48] (fun i wr=>∃k:Nat,k≤V.length∧i=.int .i64 k∧wr.ownsRow W.heap.size 55 7 (.slice va V.length vc) V.length (vrs ((vr1 S V).take k++V.drop k))∧Below W.heap.size W wr) (fun i _=>V.length-(intOf i).toNat)
  case atStart=>exact⟨0,Nat.zero_le _,rfl,HOV.out,HB5.out⟩
  case round=>
   obtain⟨k,hk,rfl,ho,hb⟩:=hrel;have HO:=lhd ho;have HB:=lhd hb;clear ho hb;by_cases hlt:k<V.length
   ·have hzz:=(HI.out.below HB.out);have cn:=(zkV hzz.bn).1;have HMM:=lhd hzz.m;have hk1:((vr1 S V).take k).length=k:=by rw[List.length_take,HV1.out];omega
    have hvk:(vr1 S V)[k]'(by rw[HV1.out];exact hlt)={V[k]with sc:=pos (preS S) V[k].sc}:=by simp[vr1]
    have hog:wr.ownsRow W.heap.size 55 7 (.slice va V.length vc) V.length (vrs ((vr1 S V).take k++V[k]::V.drop (k+1))):=by
     have:=HO.out;rwa [List.drop_eq_getElem_cons hlt]at this
    rcases hog.2 with⟨-,h0⟩|⟨g,cap',cur,e0,-⟩
    ·omega
    injection e0 with e0 _ e1;subst e0 e1;have hso:SO W.heap.size g V.length vc wr ((vr1 S V).take k++V[k]::V.drop (k+1)):=hog;have d2:=hso.at.2.2.1;have f2:=zlw hog (k*7+2);rw[hk1]at d2;have HPS:=lhd (hso.putSc (pos (preS S) V[k].sc));rw[hk1]at HPS;have HNK:=lhd (HNW.out V[k] (List.getElem_mem hlt));have hsc:=HSV.out V[k] (List.getElem_mem hlt);have hwp:(Lit.int .i64 V[k].sc).wf=true:=ztv (by omega) (by omega)
    have HTK:=lhd (show(vr1 S V).take (k+1)++V.drop (k+1)=(vr1 S V).take k++{V[k]with sc:=pos (preS S) V[k].sc}::V.drop (k+1)by
     rw[List.take_succ_eq_append_getElem (by rw[HV1.out];exact hlt),hvk];simp)
    have HGL:=lhd (hso.lo);generalize hxx:V[k]=x at*;clear hso hog hk1 hvk hzz hxx hsc;obtain⟨sc,hsc⟩:∃sc,x.sc=sc:=⟨_,rfl⟩;obtain⟨pp,hpp⟩:∃pp,pos (preS S) sc=pp:=⟨_,rfl⟩;rw[hsc]at d2 HNK hwp HPS HTK;rw[hpp]at HNK HPS HTK
    have hlk:(Instr.lookup 219 (.map (some (b9+1))) (.int .i64 sc) false).run Tryz.prog wr.drew=.ok (.int .i64 pp) wr.drew:=by
     have:=(HMM.out.same (w':=wr.drew) rfl).look1 (t:=219) Tryz.underlying219 (zt7 _) sc hwp;rw[HNK.out]at this;exact this
    have hlk2:(Instr.lookup 219 (.map (some (b9+1))) (.int .i64 sc) false).run Tryz.prog wr=.ok (.int .i64 pp) wr:=by
     have:=HMM.out.look1 (t:=219) Tryz.underlying219 (zt7 _) sc hwp;rw[HNK.out]at this;exact this
    clear hsc hpp;go_wp2_with fail;go_region
    clear hlk hlk2 cn d2 f2;go_wp2_with fail;go_roundw;case rel=>exact⟨k+1,hlt,by go_num,by rw[HTK.out];exact HPS.out,(HB.out.setCell (p:=⟨g,k*7+2,none⟩) HGL.out.1 _).drew⟩
    case measure=>simp[intOf];omega
   ·obtain rfl:k=V.length:=by omega
    have hso:wr.ownsRow W.heap.size 55 7 (.slice va V.length vc) (vr1 S V).length (vrs (vr1 S V)):=by
     have:=HO.out;rw[List.drop_length,List.append_nil,List.take_of_length_le (by rw[HV1.out];exact Nat.le_refl _)]at this;rw[HV1.out];exact this
    have HSO:=lhd (zgH W.heap.size _ (vr1 S V) wr hso (by rw[HV1.out];omega));clear hlt hso;go_wp2_with fail;refine HSO.out.mono ?_;rintro e w6 ⟨rfl,ho6,hb6⟩
    have HNB:=lhd (zgD W.heap.size _ (zhk vk (vr1 S V)) w6 (by have:=HB.out.size;have:=hb6.size;omega) (by rw[zhn];exact ho6) (by rw[zhn,HV1.out];omega) (fun x hx=>by
     rw[zho]at hx;obtain⟨y,hy,rfl⟩:=List.mem_map.1 hx;exact HSG.out y hy))
    have HB6:=lhd (HB.out.trans hb6);clear ho6 hb6 HSO;go_wp2_with fail;refine HNB.out.mono ?_;rintro e w7 ⟨vf,rfl,ho7,hf7,hb7⟩;have HB7:=lhd (HB6.out.trans hb7);have HO7:=lhd ho7;have HF7:=lhd hf7;have co7:=(zkV (HI.out.below HB7.out).bo).1;have HOU7:=lhd (zlD HOU.out (Same0.of_below HB7.out));have HD7:=lhd (show w7.heap[D]? =some (.deferred (some []))by rw[HB7.out.block D (Array.getElem?_eq_some_iff.1 HD.out.2).1];exact HD.out.2);obtain⟨fa,fc,rfl,-,-⟩:=(SlR.of_own hf7).shape;obtain⟨oa,oc,rfl,-,-⟩:=(SlR.of_own HOU.out).shape;clear ho7 hf7 hb7 HNB;go_wp2_with fail;refine⟨by simp,.inl ⟨_,_,rfl,run_takeDeferred HD7.out,?_⟩⟩;have hwz:w.heap.size≤W.heap.size:=HI.out.b.size;have r1:=ownsRow_putObj HOU7.out (.deferred none) HD7.out rfl;have r2:=ownsRow_putObj (zlI HO7.out hwz) (.deferred none) HD7.out rfl;have r3:=ownsRow_putObj (zlI HF7.out hwz) (.deferred none) HD7.out rfl
    have hvl:(vrF S V).1.length=V.length:=by
     have:(numF [] (vr2 S V)).1.length=(vr2 S V).length:=by
      have:=congrArg List.length (zka (fun _:Vr=>(0:Int)) (fun _ _=>rfl) (vr2 S V) []);simpa using this
     show(numF [] (vr2 S V)).1.length=V.length;rw[this];unfold vr2;rw[zhn,HV1.out]
    rw[zhn,HV1.out]at r2;refine⟨.tuple #[.slice oa (scF S).length oc,.slice va V.length vc,.slice fa (numF [] (zhk vk (vr1 S V))).2.length fc,.int .i64 0],by simp[results,Tryz.results154,go_sem],?_⟩;rw[HQ.out];refine⟨_,_,_,rfl,r1,?_,r3,(HI.out.b.trans (HB7.out.mono hwz)).trans (belowK_b (w:=W0) (by have:=HI.out.z;omega) _ D _ _ HD.out.1 HD7.out rfl rfl)⟩;show World.ownsRow _ _ _ _ _ (vrF S V).1.length (vrs (vrF S V).1);rw[hvl];exact r2
 case round=>
  intro l k W hlW ⟨vo,h⟩ hk;have HND:=lhd (zmg HF.out);obtain⟨m,hm⟩:∃m,(preS S)[k]=m:=⟨_,rfl⟩;have hmS:m<S.length:=by rw[←hm];exact(zmf HF.out).1 (List.getElem_mem hk)
  have HEN:=lhd (show ordE (preS S) k=#[.int .i64 (m:Int)]by
   unfold ordE;rw[List.getD,List.getElem?_eq_getElem hk,hm];rfl)
  have hps:parS S m=S[m].2.2:=by simp[parS,List.getD,hmS]
  have hsx:(scF S)[k]? =some (S[m].1,S[m].2.1,pos (preS S) S[m].2.2):=by
   have hk2:k<(scF S).length:=by rw[znI HF.out,←HPL.out];exact hk
   rw[List.getElem?_eq_getElem hk2,znG hk2 hk,hm,←hps];simp[List.getD,hmS]
  have hpk:=zlY (S:=S) hk;rw[hm,hps]at hpk;have HPW:=lhd (HF.out m hmS);rw[hps]at HPW;have hkl:k<100:=by have:=HPL.out;omega
  have HM:=lhd (fun(W1 W2:World) (vo:Value) (h:OrI w v b9 bq S k k vo W1) (hm4:KMap (zhd (P:=Tryz.prog) (K:=3) Tryz.underlying3) W2 (b9+1) (k+1+1) (fun y=>if y=(m:Int)then some (.int .i64 (k:Int))else nowF (preS S) k y)) (hg4:W1.grownBy W2 (some (b9+1)))=>h.setM HND.out hk (by rw[hm];exact hm4) hg4);have HCL:=lhd (fun(X:World) (hX:Same0 w X)=>(HS.out.same0 hX));rw[HEN.out];clear HEN hm;subst hv;have HI:=lhd h;clear h hb9 hbq HG2 hI0 q2 h3;gi_wp2
  refine⟨KeepsFrom.refl _ _,⟨Nat.le_refl _,fun _ _ _ _ _ h=>h⟩,?_⟩;intro W1 hs1 ht1;have H1:=lhd (HI.out.turn (by omega) ht1);clear hs1 ht1 HI;obtain⟨ct,-⟩:=zkV H1.out.bs;obtain⟨co,-⟩:=zkV H1.out.bo;obtain⟨cn,-⟩:=zkV H1.out.bn;obtain⟨ao,capo,rfl,-,-⟩:=(SlR.of_own H1.out.o).shape;obtain⟨bS,oS,rfl,hcell⟩:=(HCL.out _ (Same0.of_below H1.out.b)).scs hmS;obtain⟨x,hx⟩:∃x,S[m]=x:=⟨_,rfl⟩
  have HSC:=lhd (fun(X:World) (hX:Same0 w X) (j:Nat) (u:Value) (hu:(scC x)[j]? =some u)=>(show X.cell? ⟨bS,oS+m*3+j,none⟩=some u by
   obtain⟨b',o',e',hc'⟩:=(HCL.out X hX).scs hmS;injection e' with e';injection e' with e1 e2 _;subst e1 e2;exact hc' j u (by rw[hx];exact hu)))
  rw[hx]at hsx hpk HPW;clear hcell hx hps;obtain⟨nm,ty,pa⟩:=x;dsimp only at hsx hpk HPW;have HSX:=lhd hsx;have HPK:=lhd (show nowF (preS S) (k+1) pa=some (.int .i64 (pos (preS S) pa))by unfold nowF;rw[if_pos hpk]);have hwm:(Lit.int .i64 (m:Int)).wf=true:=ztv (by omega) (by omega);have hwp:(Lit.int .i64 pa).wf=true:=ztv (by have:=HPW.out;omega) (by have:=HPW.out;omega);generalize pos (preS S) pa=pp at*;clear hsx hpk;have hbz:=H1.out.b.size;have H6X:=lhd (fun(X Y:World) (h:OrI w (.slice (some ⟨bS,oS,none⟩) S.length cap) b9 bq S k (k+1) (.slice ao k capo) X) (hg:X.grownBy Y (.slice ao k capo:Value).ownBlock)=>h.keepBo hg)
  gi_wp2_with (first
   |(gi_at_builtin;refine wpListIn_append_own _ rfl _ _ 27 rfl w.heap.size 66 i0 (.agg #[.string ⟨#[]⟩,.int .i64 0,.int .i64 0]) 3 32 Tryz.underlying27 hi0 iz0 iz1 iz2 rfl (by decide) _ _ _ rfl H5.out.o ⟨w4.heap.size+1,0,none⟩ 1 1 [.string (bsB nm),.int .i64 ty,.int .i64 pp] rfl rfl HN5.out (by simp[Value.oneCell']) (by unfold maxLen;omega) (by omega) (by simp;omega) ?_;rintro v' w6 ho6 hg6-;obtain⟨g6,cap6,rfl⟩:=zlG ho6;have H6:=lhd (H5.out.add HSX.out ho6 hg6);have HG6:=lhd hg6;have co6:=(zkV (H6X.out _ _ H5.out hg6)).1;have fo6:=(zkV (H6X.out _ _ H5.out hg6)).2;clear ho6 hg6)
   |(refine ztO _ rfl _ _ _ 219 rfl 3 Tryz.underlying219 (b9+1) (k+1) _ rfl H1.out.m (by unfold maxLen;omega) (m:Int) (.int .i64 (k:Int)) rfl rfl hwm ?_;intro w4 hm4 hg4;have H4:=lhd (HM.out _ _ _ H1.out hm4 hg4);have ct4:=(zkV H4.out.bs).1;have co4:=(zkV H4.out.bo).1;have cn4:=(zkV H4.out.bn).1;have zq:bq<w4.heap.size:=zbU cn4;have z9:b9<w4.heap.size:=zbU co4;have d0:w4.cell? ⟨bS,oS+m*3,none⟩=some (.string (bsB nm)):=(HSC.out _ (Same0.of_below H4.out.b) 0 _ rfl);have d1:w4.cell? ⟨bS,oS+m*3+1,none⟩=some (.int .i64 ty):=(HSC.out _ (Same0.of_below H4.out.b) 1 _ rfl);have d2:w4.cell? ⟨bS,oS+m*3+2,none⟩=some (.int .i64 pa):=(HSC.out _ (Same0.of_below H4.out.b) 2 _ rfl);have hlk:(Instr.lookup 219 (.map (some (b9+1))) (.int .i64 pa) false).run Tryz.prog (w4.alloc (.cells #[.string (bsB nm),.int .i64 ty,.int .i64 pa] 66))=.ok (.int .i64 pp) (w4.alloc (.cells #[.string (bsB nm),.int .i64 ty,.int .i64 pa] 66)):=(by have:=(H4.out.m.below ((Below.refl w4.heap.size w4).alloc (Nat.le_refl _) (.cells #[.string (bsB nm),.int .i64 ty,.int .i64 pa] 66)) H4.out.m.lt).look1 (t:=219) Tryz.underlying219 (zt7 _) pa hwp;rw[HPK.out]at this;exact this);have HG4:=lhd hg4;have hN5:=heap_alloc_new (w4.alloc (.cells #[.string (bsB nm),.int .i64 ty,.int .i64 pp] 66)) (.cells #[.string (bsB nm),.int .i64 ty,.int .i64 pp] 66);rw[World.size_alloc]at hN5;have HN5:=lhd (World.news_of_block (cs:=#[.string (bsB nm),.int .i64 ty,.int .i64 pp]) (t:=66) (fr:=(0,0)) hN5);have H5:=lhd (H4.out.below (((Below.refl w4.heap.size w4).alloc (Nat.le_refl _) (.cells #[.string (bsB nm),.int .i64 ty,.int .i64 pp] 66)).alloc (by simp) (.cells #[.string (bsB nm),.int .i64 ty,.int .i64 pp] 66)));clear hm4 hg4 ct co cn hN5))
  have hz9:=H1.out.z.1;have ha1:=(KeepsOthers.alloc w4 (.cells #[.string (bsB nm),.int .i64 ty,.int .i64 pp] 66)).trans (KeepsOthers.alloc _ (.cells #[.string (bsB nm),.int .i64 ty,.int .i64 pp] 66));have ha2:Below w4.heap.size w4 ((w4.alloc (.cells #[.string (bsB nm),.int .i64 ty,.int .i64 pp] 66)).alloc (.cells #[.string (bsB nm),.int .i64 ty,.int .i64 pp] 66)):=((Below.refl w4.heap.size w4).alloc (Nat.le_refl _) _).alloc (by simp) _;refine⟨?_,?_,⟨_,H6.out⟩⟩
  ·exact((KeepsFrom.of_grownBy HG4.out (fun j ej=>by injection ej with ej;omega)).trans (ha1.from _)).trans ((H5.out.others HG6.out).from _)
  ·refine KpO.trans (B:=w4) ⟨HG4.out.size,fun b C T fr hb hc=>?_⟩ (KpO.trans (KpO.same0 (Same0.of_below ha2)) (H5.out.kp HG6.out));rw[HG4.out.block b (Array.getElem?_eq_some_iff.1 hc).1 (fun q=>by injection q with q;omega)];exact hc
theorem zgr (v v2:Value) (S:List Sc) (V:List Vr) (w:World) (hs:SlR w v S.length (scs S)) (hv:SlR w v2 V.length (vrs V)) (hl:S.length≤1000∧V.length≤1000) (hn:(∀s∈S,s.1.length≤100000)∧∀x∈V,x.nm.length≤100000)
 (hsg:∀x∈V,(Lit.int .i64 x.sg).wf=true):Calls Tryz.prog 154 #[v,v2] w (zam (zll S V) w):=by
 by_cases he:zb6 S V=0
 ·exact zlh v v2 S V w hs hv hl hn hsg he
 ·exact zle v v2 S V w hs hv hl hn he
open Go.RowKit
def digL:Nat→Int→Bs
 |0,_=> []
 |k+1,m=>byE m::digL k (m/94)
def zac (n:Int) (k:Nat) (c m:Int):Prop:=(k=1∧c=94∧m=n)∨(k=2∧c=8836∧m=n-94∧94≤n)∨(k=3∧c=830584∧m=n-94-8836∧8930≤n)∨(k=4∧c=78074896∧839514≤n)
theorem zc0 {n c m:Int} {k:Nat} (h:zac n k c m) (h3:k≤3) (h0:0≤m) (hc:m<c):zcG n=digL k m:=by
 unfold zcG;rcases h with⟨rfl,rfl,rfl⟩|⟨rfl,rfl,rfl,h⟩|⟨rfl,rfl,rfl,h⟩|⟨rfl,_,_⟩
 ·rw[if_neg (by omega),if_pos hc];rfl
 ·rw[if_neg (by omega),if_neg (by omega),if_pos hc];rfl
 ·rw[if_neg (by omega),if_neg (by omega),if_neg (by omega),if_pos hc];rfl
 ·omega
theorem zcT {n c m:Int} {k:Nat} (h:zac n k c m) (h3:k≤3) (hc:c≤m):zac n (k+1) (c*94) (m-c):=by
 unfold zac;rcases h with⟨rfl,rfl,rfl⟩|⟨rfl,rfl,rfl,h⟩|⟨rfl,rfl,rfl,h⟩|⟨rfl,_,_⟩
 ·exact .inr (.inl ⟨rfl,rfl,rfl,by omega⟩)
 ·exact .inr (.inr (.inl ⟨rfl,rfl,rfl,by omega⟩))
 ·exact .inr (.inr (.inr ⟨rfl,rfl,by omega⟩))
 ·omega
theorem zcW {n c m:Int} {k:Nat} (h:zac n k c m) (hk:3<k∨m<0):zcG n=[]:=by
 unfold zcG;rcases h with⟨rfl,rfl,rfl⟩|⟨rfl,rfl,rfl,h⟩|⟨rfl,rfl,rfl,h⟩|⟨rfl,_,h⟩
 ·rw[if_pos (by omega)]
 ·omega
 ·omega
 ·rw[if_neg (by omega),if_neg (by omega),if_neg (by omega),if_neg (by omega)]
theorem zcP {n c m:Int} {k:Nat} (h:zac n k c m):1≤k∧k≤4∧94≤c∧c≤78074896:=by
 rcases h with⟨rfl,rfl,rfl⟩|⟨rfl,rfl,rfl,h⟩|⟨rfl,rfl,rfl,h⟩|⟨rfl,rfl,h⟩<;>omega
theorem zbB (n:Int):((byE n).toNat:Int)=33+n % 94:=by
 have h1:0≤n % 94:=by omega
 have h2:n % 94<94:=by omega
 unfold byE;rw[UInt8.toNat_ofNat'];omega
theorem zeY (n:Int) (w:World) (hn:n≤9223372036854775807):Calls Tryz.prog 11 #[.int .i64 n] w fun e w'=>e=.returned (.string (bsB (zcG n)))∧Below w.heap.size w w':=by
 obtain⟨i0,hi,iz0,iz1,iz2⟩:=info_parts (P:=Tryz.prog) zro;go_enter Tryz.func11,Tryz.ntmps11;go_wp2_with fail;go_loopw [0,3,4] (fun vm vc vk wr=>∃(k:Nat) (c m:Int),vm=.int .i64 m∧vc=.int .i64 c∧vk=.int .i64 k∧m≤9223372036854775807∧zac n k c m∧w=wr) (fun _ _ vk _=>5-(intOf vk).toNat)
 case atStart=>exact⟨1,94,n,rfl,rfl,rfl,hn,.inl ⟨rfl,rfl,rfl⟩,rfl⟩
 case round=>
  obtain⟨k,c,m,rfl,rfl,rfl,hmx,hat,rfl⟩:=hrel;have hbd:=zcP hat;have HAT:=lhd hat;clear hat;by_cases hk:3<k
  ·have HE:=lhd (zcW HAT.out (.inl hk));have hd:decide ((k:Int)≤3)=false:=by rw[decide_eq_false_iff_not];omega
   clear hk;go_wp2_with fail;go_ret;exact⟨by rw[HE.out];rfl,Below.refl _ _⟩
  have hd:decide ((k:Int)≤3)=true:=by rw[decide_eq_true_iff];omega
  by_cases hm:m<0
  ·have HE:=lhd (zcW HAT.out (.inr hm));have hd2:decide ((0:Int)≤m)=false:=by rw[decide_eq_false_iff_not];omega
   clear hm hk;go_wp2_with fail;go_ret;exact⟨by rw[HE.out];rfl,Below.refl _ _⟩
  have hd2:decide ((0:Int)≤m)=true:=by rw[decide_eq_true_iff];omega
  by_cases hcm:c≤m
  ·have HN:=lhd (zcT HAT.out (by omega) hcm);have hd3:decide (c≤m)=true:=by rw[decide_eq_true_iff];omega
   have hw1:IntKind.i64.wrap (m-c)=m-c:=IntWalk.i64_in _ (by omega);have hw2:IntKind.i64.wrap (c*94)=c*94:=IntWalk.i64_in _ (by omega);have hw3:=zjk k (by omega);clear hcm hm hk;go_wp2_with fail;go_roundw;case rel=>exact⟨k+1,c*94,m-c,by go_num,by go_num,by go_num,by omega,HN.out,by first|trivial|rfl⟩
   case measure=>simp[intOf];omega
  have HE:=lhd (zc0 HAT.out (by omega) (by omega) (by omega));have hd3:decide (c≤m)=false:=by rw[decide_eq_false_iff_not];omega
  have hk3:k≤3:=by omega
  have hm0:0≤m:=by omega
  clear hcm hm hk HAT;go_wp2_with fail;go_loopw [0,5,23] (fun vm vo vj wr=>∃(j:Nat) (x:Int) (u:Bs),j≤k∧vm=.int .i64 x∧vj=.int .i64 j∧0≤x∧x≤m∧u.length=j∧u++digL (k-j) x=zcG n∧wr.ownsRow w.heap.size 5 1 vo u.length (bys u)∧Below w.heap.size w wr) (fun _ _ vj _=>k-(intOf vj).toNat)
  case atStart=>exact⟨0,m,[],Nat.zero_le _,rfl,rfl,hm0,Int.le_refl _,rfl,by rw[HE.out];rfl,World.ownsRow_nil _ _ _ _,Below.refl _ _⟩
  case round=>
   obtain⟨j,x,u,hj,rfl,rfl,hx0,hxm,hu,hq,hown,hb⟩:=hrel;obtain⟨ao,co,rfl,-,-⟩:=(SlR.of_own hown).shape;have HO:=lhd hown;have HB:=lhd hb;have HQ:=lhd hq;have HU:=lhd hu;clear hown hb hq hu;by_cases hlt:j<k
   ·have hji:decide ((j:Int)<(k:Int))=true:=by rw[decide_eq_true_iff];omega
    have hby:((byE x).toNat:Int)=33+x % 94:=zbB x;have HBY:=lhd hby;have HC:=lhd (World.news_of_block (w:=wr.alloc (.cells #[.int .u8 (33+x % 94)] 5)) (cs:=#[.int .u8 (33+x % 94)]) (t:=5) (fr:=(0,0)) (by exact heap_alloc_new _ _));have HO3:=lhd (zlx HO.out ((Below.refl wr.heap.size wr).alloc (Nat.le_refl _) (.cells #[.int .u8 (33+x % 94)] 5)));have HB3:=lhd (HB.out.alloc HB.out.size (.cells #[.int .u8 (33+x % 94)] 5));have HSZ:=lhd HB.out.size;have hul:u.length≤3:=by have:=HU.out;omega
    have hwj:=zjk j (by omega)
    have HQ2:=lhd (show(u++ [byE x])++digL (k-(j+1)) (x/94)=zcG n by
     have:=HQ.out;rw[show k-j=(k-(j+1))+1 by omega,digL]at this;rw[←this,List.append_assoc];rfl)
    clear hby;go_wp2_with (at_builtin;refine wpList_append_own_at _ rfl _ _ 62 rfl w.heap.size 5 i0 (.int .u8 0) 1 1 Tryz.underlying62 hi iz0 iz1 iz2 rfl (by decide) _ _ _ rfl HO3.out ⟨wr.heap.size,0,none⟩ 1 1 [.int .u8 (33+x % 94)] rfl rfl HC.out (by simp[Value.oneCell']) (by unfold maxLen;omega) (by omega) (by have:=HSZ.out;simp;omega) ?_)
    intro v8 w8 ho8 hg8 _ _
    have HO8:=lhd (show w8.ownsRow w.heap.size 5 1 v8 (u++ [byE x]).length (bys (u++ [byE x]))by
     rw[List.length_append];have:bys (u++ [byE x])=bys u++ [.int .u8 (33+x % 94)]:=by rw[←HBY.out];simp[bys,zbE]
     rw[this];exact ho8)
    have HB8:=lhd (HB3.out.grown hg8 (by have:=HSZ.out;simp;omega) (fun q hq=>(HO3.out.lt q hq).1));clear ho8 hg8;go_wp2_with fail;go_roundw;case rel=>exact⟨j+1,x/94,u++ [byE x],hlt,by go_num,by go_num,by omega,by omega,by rw[List.length_append,HU.out];rfl,HQ2.out,HO8.out,HB8.out⟩
    case measure=>simp[intOf];omega
   ·obtain rfl:j=k:=by omega
    have HCV:=zdo _ _ _ _ _ HO.out rfl;have HR:=lhd (show u=zcG n by have:=HQ.out;rwa [Nat.sub_self,digL,List.append_nil]at this);go_wp2_with fail;go_ret;exact⟨by rw[HR.out];rfl,HB.out⟩
attribute [local go_sem] Oper.semAt_some
structure Kq (B:Nat) (W V:World):Prop where
 b:Below B W V
 c:∀(b:Nat) (C:Array Value) (T:TypeId) (fr:Nat×Nat),T≠47→T≠43→W.heap[b]? =some (.cells C T fr)→V.heap[b]? =some (.cells C T fr)
 m:∀(b:Nat) (o:Obj),o.isCells=false→keepO o=true→W.heap[b]? =some o→V.heap[b]? =some o
theorem Kq.trans {B:Nat} {X Y Z:World} (h:Kq B X Y) (k:Kq B Y Z):Kq B X Z:=
 ⟨h.b.trans k.b,fun b _ _ _ h1 h2 hb=>k.c b _ _ _ h1 h2 (h.c b _ _ _ h1 h2 hb),fun b o h1 h2 hb=>k.m b o h1 h2 (h.m b o h1 h2 hb)⟩
theorem Kq.same1 {B N:Nat} {W V:World} (h:Same1 N W V) (hB:B≤N):Kq B W V:=
 ⟨h.b.mono hB,fun b _ _ _ _ _ hb=>h.keep b _ rfl hb,fun b o _ h2 hb=>h.keep b o h2 hb⟩
theorem Kq.below {B:Nat} {W V:World} (h:Below W.heap.size W V) (hB:B≤W.heap.size):Kq B W V:=
 ⟨h.mono hB,fun b _ _ _ _ _ hb=>(h.block b (Array.getElem?_eq_some_iff.1 hb).1).trans hb,fun b _ _ _ hb=>(h.block b (Array.getElem?_eq_some_iff.1 hb).1).trans hb⟩
theorem Kq.kmap {P:Program} {K:TypeId} {κ:Type} {E:KeyEnc P K κ} {B:Nat} {W V:World} {b n:Nat} {f:κ→Option Value} (h:Kq B W V) (hm:KMap E W b n f):KMap E V b n f:=by
 obtain⟨D,⟨es,clock,h1,h2⟩,hf⟩:=hm;exact⟨D,⟨es,clock,h.m b _ rfl rfl h1,h2⟩,hf⟩
def rcV (r:Rc):Value:=.agg #[.int .i64 r.1,.int .i64 r.2.1,.string (bsB r.2.2.1),.string (bsB r.2.2.2)]
theorem zri {B:Nat} {W:World} {b:Nat} {x:Bool} {C:Array Value} (hb:W.heap[b]? =some (.cells C 4 (0,0))) (hB:B≤b):TurnM B 4 W (W.setCell ⟨b,0,none⟩ (.bool x)):=
 .of (TurnJ.setCell hb hB 0 (.bool x))
theorem zoB {W:World} {b:Nat} {x y:Value} {T:TypeId} (hb:W.heap[b]? =some (.cells #[x] T (0,0))):(W.setCell ⟨b,0,none⟩ y).heap[b]? =some (.cells #[y] T (0,0)):=by
 have hlt:=(Array.getElem?_eq_some_iff.1 hb).1;show(W.heap.modify b _)[b]? =_;rw[Array.getElem?_modify,if_pos rfl,hb];rfl
theorem zoD {B:Nat} {W:World} {b:Nat} {x:Value} {T:TypeId} (hb:W.heap[b]? =some (.cells #[x] T (0,0))) (hB:B≤b):Kq B W (W.setCell ⟨b,0,none⟩ x):=by
 have key:∀i,(W.setCell ⟨b,0,none⟩ x).heap[i]? =W.heap[i]? :=fun i=>by
  by_cases h:i=b
  ·subst h;rw[zoB hb,hb]
  ·exact Below.heap_setCell _ _ _ _ h
 exact⟨(Below.refl _ _).setCell (p:=⟨b,0,none⟩) hB x,fun i _ _ _ _ _ h=>by rw[key];exact h,fun i _ _ _ h=>by rw[key];exact h⟩
theorem zmC (n:Nat) (hn:2≤n) (lp okb yb:Nat) (r:Rc) (B0:Nat) (W:World) (J:Nat→World→Prop) (k:Nat)
 (hJ:∀k X Y,J k X→TurnM B0 4 X Y→J k Y)
 (hY:∀W1,J k W1→YieldAt Fence.wide (n-1) Tryz.prog lp #[rcV r] W1 fun e W'=>e=.returned (.bool true)∧J (k+1) W'∧Kq B0 W1 W')
 (hB:B0≤okb) (hBW:B0≤W.heap.size) (ho:W.heap[okb]? =some (.cells #[.bool true] 4 (0,0))) (hy:W.heap[yb]? =some (.cells #[.func (.yield lp) #[] #[]] 134 (0,0))) (h0:J k W):
 CallsIn Fence.wide n Tryz.prog 82 #[rcV r,.pointer (some ⟨okb,0,none⟩),.pointer (some ⟨yb,0,none⟩)] W fun e W'=>e=.returned (.tuple #[])∧J (k+1) W'∧Kq B0 W W':=by
 have hro:Fence.wide.round=none:=rfl;have hal:Below W.heap.size W (W.alloc (.cells #[.int .i64 r.1,.int .i64 r.2.1,.string (bsB r.2.2.1),.string (bsB r.2.2.2)] 47)):=(Below.refl _ _).alloc (Nat.le_refl _) _;have HJ1:=lhd (hJ k _ _ h0 (.below hBW hal));have HK1:=lhd (Kq.below hal hBW);have ho1:=HK1.out.c _ _ _ _ (by decide) (by decide) ho;have hy1:=HK1.out.c _ _ _ _ (by decide) (by decide) hy;obtain⟨co,fo⟩:=zkV ho1;obtain⟨cy,-⟩:=zkV hy1;obtain⟨fn,tmps,assign,body,hyy,hR⟩:=hY _ HJ1.out;have HR:=lhd hR;have HO1:=lhd ho1;unfold rcV at*;clear hY hal ho hy hR h0 ho1 hy1;refine callsIn_of_wp Tryz.func82 rfl trivial ?_ hro;simp only[Tryz.ntmps82,List.size_toArray,List.length_cons,List.length_nil,Nat.reduceAdd,Nat.reduceSub,Array.replicate_succ,Array.replicate_zero,List.push_toArray,List.append_toArray,List.nil_append,List.cons_append];have h1n:1≤n:=by omega
 gi_wp2
 refine HR.out.mono ?_;rintro e W3 ⟨rfl,hj3,hk3⟩;have ho3:=hk3.c _ _ _ _ (by decide) (by decide) HO1.out;obtain⟨co3,fo3⟩:=zkV ho3;have HE:=lhd (And.intro (hJ _ _ _ hj3 (zri (x:=true) ho3 hB)) ((HK1.out.trans hk3).trans (zoD ho3 hB)));clear hj3 hk3 hyy co fo cy ho3;gi_wp2
 go_end0
 exact⟨rfl,HE.out⟩
structure Kc (B:Nat) (W V:World):Prop where
 b:Below B W V
 c:∀(b:Nat) (C:Array Value) (T:TypeId) (fr:Nat×Nat),T≠47→T≠43→W.heap[b]? =some (.cells C T fr)→V.heap[b]? =some (.cells C T fr)
theorem Kc.trans {B:Nat} {X Y Z:World} (h:Kc B X Y) (k:Kc B Y Z):Kc B X Z:=⟨h.b.trans k.b,fun b _ _ _ h1 h2 hb=>k.c b _ _ _ h1 h2 (h.c b _ _ _ h1 h2 hb)⟩
theorem Kq.kc {B:Nat} {W V:World} (h:Kq B W V):Kc B W V:=⟨h.b,h.c⟩
theorem Kc.below {B:Nat} {W V:World} (h:Below W.heap.size W V) (hB:B≤W.heap.size):Kc B W V:=(Kq.below h hB).kc
noncomputable abbrev encI:=zhd (P:=Tryz.prog) (K:=3) Tryz.underlying3
theorem ziP {B:Nat} {W V:World} {mb n:Nat} {f:Int→Option Value} (hm:KMap encI W mb n f) (hg:W.grownBy V (some mb)) (hB:B≤mb):Kc B W V∧TurnM B 4 W V:=by
 have hne:∀(b:Nat) (o:Obj),W.heap[b]? =some o→(∀e c,o≠ .map e c)→b≠mb:=fun b o hb ho e=>by
  subst e;obtain⟨D,⟨es,clock,h1,-⟩,-⟩:=hm;rw[h1]at hb;injection hb with hb;exact ho es clock hb.symm
 have hbl:∀(b:Nat) (o:Obj),W.heap[b]? =some o→b≠mb→V.heap[b]? =some o:=fun b o hb hn=>(hg.block b (Array.getElem?_eq_some_iff.1 hb).1 (fun e=>hn (by injection e))).trans hb;have hbw:Below B W V:=((Below.refl B W).grown hg (Nat.le_of_lt (Nat.lt_of_le_of_lt hB hm.lt)) (fun k hk=>by injection hk with hk;omega));refine⟨⟨hbw,fun b C T fr _ _ hb=>hbl b _ hb (hne b _ hb (fun _ _ h=>by cases h))⟩,⟨⟨hbw.os,hbw.tape,hbw.output,hbw.size,fun b hb=>hbw.block b hb,fun b C T fr _ hb=>hbl b _ hb (hne b _ hb (fun _ _ h=>by cases h))⟩,fun b o ho hb=>hbl b _ hb (hne b _ hb (fun _ _ h=>by subst h;cases ho))⟩⟩
structure MB (W:World) (lp yb okb gb pb mb:Nat):Prop where
 y:W.heap[yb]? =some (.cells #[.func (.yield lp) #[] #[]] 134 (0,0))
 o:W.heap[okb]? =some (.cells #[.bool true] 4 (0,0))
 g:W.heap[gb]? =some (.cells #[.map (some mb)] 135 (0,0))
 p:W.heap[pb]? =some (.cells #[.func (.func 82) #[] #[.pointer (some ⟨okb,0,none⟩),.pointer (some ⟨yb,0,none⟩)]] 136 (0,0))
theorem MB.kc {B:Nat} {W V:World} {lp yb okb gb pb mb:Nat} (h:MB W lp yb okb gb pb mb) (k:Kc B W V):MB V lp yb okb gb pb mb:=
 ⟨k.c _ _ _ _ (by decide) (by decide) h.y,k.c _ _ _ _ (by decide) (by decide) h.o,k.c _ _ _ _ (by decide) (by decide) h.g,k.c _ _ _ _ (by decide) (by decide) h.p⟩
theorem zb4 (n:Nat) (hn:2≤n) (lp yb okb gb pb mb:Nat) (i:Nat) (v:Bs) (B0:Nat) (W:World) (J:Nat→World→Prop) (k cnt:Nat) (f:Int→Option Value)
 (hJ:∀k X Y,J k X→TurnM B0 4 X Y→J k Y)
 (hY:∀W1,J k W1→YieldAt Fence.wide (n-1) Tryz.prog lp #[rcV (1,0,zcG i,v)] W1 fun e W'=>e=.returned (.bool true)∧J (k+1) W'∧Kq B0 W1 W')
 (hB:B0≤okb∧B0≤mb) (hi:i≤1000) (hc:cnt≤1000000) (hb:MB W lp yb okb gb pb mb) (hm:KMap encI W mb cnt f) (h0:J k W):
 Calls Tryz.prog 83 #[.int .i64 i,.string (bsB v),.pointer (some ⟨gb,0,none⟩),.pointer (some ⟨pb,0,none⟩)] W fun e W'=>e=.returned (.tuple #[])∧J (k+1) W'∧Kc B0 W W'∧KMap encI W' mb (cnt+1) (fun y=>if y=(i:Int)then some (.bool true)else f y):=by
 have hdom:encI.dom (i:Int):=ztv (n:=(i:Int)) (by omega) (by omega);obtain⟨W1,r1,hm1,hg1⟩:=hm.put (t:=135) Tryz.underlying135 (by unfold maxLen;omega) (i:Int) hdom (.bool true);have r1:(Instr.mapUpdate 135 (.map (some mb)) (.int .i64 (i:Int)) (.bool true)).run Tryz.prog W=.ok () W1:=r1;obtain⟨hk1,ht1⟩:=ziP hm hg1 hB.2;obtain⟨cg,-⟩:=zkV hb.g;have HJ1:=lhd (hJ k _ _ h0 ht1);have HM1:=lhd hm1;have HK1:=lhd hk1;have HB1:=lhd (hb.kc hk1);obtain⟨cp,-⟩:=zkV HB1.out.p;have HC:=lhd (fun W=>zeY (i:Int) W (by omega));have HBW:=lhd (show B0≤W1.heap.size by have:=hm1.lt;omega);have HP:=lhd (fun(V:World) (hV:Below W1.heap.size W1 V)=>callsIn_wide.1 (zmC n hn lp okb yb (1,0,zcG i,v) B0 V J k hJ hY hB.1 (Nat.le_trans HBW.out hV.size) ((Kc.below hV HBW.out).c _ _ _ _ (by decide) (by decide) HB1.out.o) ((Kc.below hV HBW.out).c _ _ _ _ (by decide) (by decide) HB1.out.y) (hJ k _ _ HJ1.out (.below HBW.out hV))));unfold rcV at HP;clear hm hm1 hg1 hk1 ht1 hb hY hdom;go_enter Tryz.func83,Tryz.ntmps83;go_wp2_with fail;clear r1 cg;refine ztS (S:=fun V=>V.cell? ⟨pb,0,none⟩=some (.func (.func 82) #[] #[.pointer (some ⟨okb,0,none⟩),.pointer (some ⟨yb,0,none⟩)])) [0,1,3,4] [false,false,false,false,false,false] (by kernel_rfl) (by kernel_rfl) (by rfl) (by exact cp) (fun hHeld hStat=>?_);have hbq:Below W1.heap.size W1 W1.drew:=(Below.refl _ _).drew;have hlp:=zbU cp;have HSV:=lhd (show ∀V,Below W1.heap.size W1 V→V.cell? ⟨pb,0,none⟩=some (.func (.func 82) #[] #[.pointer (some ⟨okb,0,none⟩),.pointer (some ⟨yb,0,none⟩)])from fun V hV=>(hV.cell hlp).trans cp);generalize W1.drew=wC at*;refine tkQ 0 (v:=?_) hStat hHeld rfl rfl ?_;refine tkQ 1 (v:=?_) hStat hHeld rfl rfl ?_;refine tkQ 3 (v:=?_) hStat hHeld rfl rfl ?_;refine oneH 2 (fun K hK=>?_);go_simp;refine(HC.out _).mono ?_;rintro e wq ⟨rfl,hbz⟩;have hbq:=zfj hbq hbz;clear hHeld hbz;go_wp2_with fail;refine hK.out _ _ (HSV.out _ hbq) (fun hHeld=>?_);clear hK;try simp only[tkS]
 refine tkQ 4 (v:=?_) hStat hHeld rfl rfl ?_;refine oneH 5 (fun K hK=>?_);go_simp;refine(HP.out _ hbq).mono ?_;rintro e W3 ⟨rfl,hj3,hk3⟩
 have HE:=lhd (show J (k+1) W3∧Kc B0 W W3∧KMap encI W3 mb (cnt+1) (fun y=>if y=(i:Int)then some (.bool true)else f y)from
  ⟨hj3,(HK1.out.trans (Kc.below hbq HBW.out)).trans hk3.kc,hk3.kmap (HM1.out.below hbq HM1.out.lt)⟩)
 have hsv3:=(hk3.c _ _ _ _ (by decide) (by decide) ((Kc.below hbq HBW.out).c _ _ _ _ (by decide) (by decide) HB1.out.p));obtain⟨cp3,-⟩:=zkV hsv3;clear hHeld hj3 hk3 hsv3;go_wp2_with fail;refine hK.out _ _ cp3 (fun hHeld=>?_);clear hK;try simp only[tkS]
 refine wpAnyH_done (by kernel_rfl) ?_ _;clear hHeld hStat;go_wp2_with fail;go_end0
 exact⟨rfl,HE.out⟩
end Go.Proofs.YtfppgpamkdkckaaGreatDoor
