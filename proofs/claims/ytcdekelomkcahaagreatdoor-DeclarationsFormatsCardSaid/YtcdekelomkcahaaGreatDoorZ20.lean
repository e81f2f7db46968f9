import Derived.Test.YtcdekelomkcahaaGreatDoorZ00
import Derived.Maps.OwnIn
import Derived.Test.YtcdekelomkcahaaGreatDoorZ16
import Derived.Test.YtcdekelomkcahaaGreatDoorZ18
set_option maxRecDepth 100000
set_option maxHeartbeats 16000000
namespace Go.Proofs.YtcdekelomkcahaaGreatDoor
open Go.RowKit
open Go.RowKit Go.WideMaps Go.Shelf
attribute [local go_sem] Oper.semAt_some
set_option linter.unusedSimpArgs false
theorem zql {P:Program} {K:TypeId} {κ:Type} [DecidableEq κ] {E:KeyEnc P K κ} (w:World) {ops:Array Oper} {rest:List Oper} {o:Oper} {a:Act} {Q:Exit→Act→World→Prop}
 (hg:o.guard=none) (m x v:Operand) (t:TypeId) (hop:o.op=Op.insert t m x v) (e:TypeId) (ht:P.underlying t=some (.map K e)) (b n:Nat) (f:κ→Option Value)
 (hm:a.eval m=.map (some b)) (hown:KMap E w b n f) (hn:n<maxLen) (k:κ) (val:Value) (hx:a.eval x=E.vK k) (hv:a.eval v=val) (hk:E.dom k)
 (hC:∀w',KMap E w' b (n+1) (fun y=>if y=k then some val else f y)→w.grownBy w' (some b)→wpList P ops Q rest (a.put o.dst undef) w'):
 wpList P ops Q (o::rest) a w:=by
 refine wpList_plain hg fun K' hK'=>?_;obtain⟨w',hrun,r1,r2⟩:=hown.put ht hn k hk val;unfold Oper.wp;simp[execOp,hop,hm,hx,hv,hrun,Result.andThen];exact hK' _ _ (hC w' r1 r2)
theorem zqj {F:Fence} {nF:Nat} {P:Program} {K:TypeId} {κ:Type} [DecidableEq κ] {E:KeyEnc P K κ} (w:World) {ops:Array Oper} {rest:List Oper} {o:Oper} {a:Act} {Q:Exit→Act→World→Prop}
 (hg:o.guard=none) (m x v:Operand) (t:TypeId) (hop:o.op=Op.mapUpdate t m x v) (e:TypeId) (ht:P.underlying t=some (.map K e)) (b n:Nat) (f:κ→Option Value)
 (hm:a.eval m=.map (some b)) (hown:KMap E w b n f) (hn:n<maxLen) (k:κ) (val:Value) (hx:a.eval x=E.vK k) (hv:a.eval v=val) (hk:E.dom k)
 (hC:∀w',KMap E w' b (n+1) (fun y=>if y=k then some val else f y)→w.grownBy w' (some b)→wpListIn F nF P ops Q rest (a.put o.dst undef) w'):
 wpListIn F nF P ops Q (o::rest) a w:=by
 refine wpListIn_plain hg fun K' hK'=>?_;obtain⟨w',hrun,r1,r2⟩:=hown.put ht hn k hk val;unfold Oper.wpIn;refine⟨by simp[Oper.about,hop],?_⟩;rw[Oper.semAt_plain F _ _ (by rw[hop];intro c hc';cases hc')];simp[execOp,hop,hm,hx,hv,hrun,Result.andThen];exact hK' _ _ (hC w' r1 r2)
def nowF (ord:List Nat) (k:Nat) (x:Int):Option Value:=if x= -1∨(0≤x∧x.toNat∈ord.take k)then some (.int .i64 (pos ord x))else none
theorem zid {ord:List Nat} (hn:ord.Nodup) {k:Nat} (hk:k<ord.length) (y:Int):(if y=(ord[k]:Int)then some (Value.int .i64 (k:Int))else nowF ord k y)=nowF ord (k+1) y:=by
 have hix:ord.idxOf ord[k]=k:=hn.idxOf_getElem k hk;by_cases hy:y=(ord[k]:Int)
 ·subst hy;rw[if_pos rfl];unfold nowF;rw[if_pos (.inr ⟨by omega,by rw[Int.toNat_natCast,List.take_succ_eq_append_getElem hk];exact List.mem_append_right _ (List.mem_singleton.2 rfl)⟩)];unfold pos;rw[if_neg (by omega),Int.toNat_natCast,hix]
 ·rw[if_neg hy];unfold nowF
  have e:(y= -1∨(0≤y∧y.toNat∈ord.take (k+1)))↔(y= -1∨(0≤y∧y.toNat∈ord.take k)):=by
   rw[List.take_succ_eq_append_getElem hk];simp only[List.mem_append,List.mem_singleton];constructor
   ·rintro(h|⟨h1,h2|h2⟩)
    ·exact .inl h
    ·exact .inr ⟨h1,h2⟩
    ·exact absurd (show y=(ord[k]:Int)by omega) hy
   ·rintro(h|⟨h1,h2⟩)
    ·exact .inl h
    ·exact .inr ⟨h1,.inl h2⟩
  by_cases h:y= -1∨(0≤y∧y.toNat∈ord.take k)
  ·rw[if_pos h,if_pos (e.2 h)]
  ·rw[if_neg h,if_neg (fun h'=>h (e.1 h'))]
theorem zie (ord:List Nat) (y:Int):(if y= -1 then some (Value.int .i64 (-1))else none)=nowF ord 0 y:=by
 unfold nowF;by_cases hy:y= -1
 ·subst hy;rw[if_pos rfl,if_pos (.inl rfl)];rfl
 ·rw[if_neg hy,if_neg];rintro(h|⟨-,h⟩)
  ·exact hy h
  ·simp at h
structure OrI (w:World) (v:Value) (b9 bq:Nat) (S:List Sc) (k km:Nat) (vo:Value) (W:World):Prop where
 bs:W.heap[w.heap.size]? =some (.cells #[v] 22 (0,0))
 bo:W.heap[b9]? =some (.cells #[vo] 22 (0,0))
 bn:W.heap[bq]? =some (.cells #[.map (some (b9+1))] 100 (0,0))
 m:KMap (zfC (P:=Tryz.prog) (K:=3) Tryz.underlying3) W (b9+1) (km+1) (nowF (preS S) km)
 o:W.ownsRow w.heap.size 84 3 vo k (scs ((scF S).take k))
 b:Below w.heap.size w W
 z:w.heap.size<b9∧b9+1<bq
theorem OrI.turn {w W V:World} {v vo:Value} {b9 bq k km B:Nat} {S:List Sc} (h:OrI w v b9 bq S k km vo W) (hB:bq<B) (ht:TurnI B 5 W V):OrI w v b9 bq S k km vo V:=by
 have hz:=h.z
 exact⟨(ht.low _ (by omega)).trans h.bs,(ht.low _ (by omega)).trans h.bo,(ht.low _ (by omega)).trans h.bn,h.m.same (ht.low _ (by omega)),zjv h.o ht (by decide),
  ⟨ht.os.trans h.b.os,ht.tape.trans h.b.tape,ht.output.trans h.b.output,Nat.le_trans h.b.size ht.size,fun b hb=>(ht.low b (by omega)).trans (h.b.block b hb)⟩,h.z⟩
theorem OrI.below {w W V:World} {v vo:Value} {b9 bq k km:Nat} {S:List Sc} (h:OrI w v b9 bq S k km vo W) (hb:Below W.heap.size W V):OrI w v b9 bq S k km vo V:=by
 have hs:=Same0.of_below hb;exact⟨hs.cells _ _ _ _ h.bs,hs.cells _ _ _ _ h.bo,hs.cells _ _ _ _ h.bn,h.m.below hb h.m.lt,zjp h.o hs,h.b.trans (hb.mono h.b.size),h.z⟩
theorem OrI.setM {w W W1:World} {v vo:Value} {b9 bq k:Nat} {S:List Sc} (h:OrI w v b9 bq S k k vo W) (hn:(preS S).Nodup) (hk:k<(preS S).length)
 (hm:KMap (zfC (P:=Tryz.prog) (K:=3) Tryz.underlying3) W1 (b9+1) (k+1+1) (fun y=>if y=((preS S)[k]:Int)then some (.int .i64 (k:Int))else nowF (preS S) k y)) (hg:W.grownBy W1 (some (b9+1))):OrI w v b9 bq S k (k+1) vo W1:=by
 have hz:=h.z
 have hne:∀(i:Nat) (D:Array Value) (T:TypeId) (fr:Nat×Nat),W.heap[i]? =some (.cells D T fr)→W1.heap[i]? =some (.cells D T fr):=by
  intro i D T fr hi
  rw[hg.block i (Array.getElem?_eq_some_iff.1 hi).1 (fun q=>by
   injection q with q;subst q;exact h.m.no_cells hi)]
  exact hi
 exact⟨hne _ _ _ _ h.bs,hne _ _ _ _ h.bo,hne _ _ _ _ h.bn,hm.ext (fun y=>zid hn hk y),h.o.kept hg (.inr fun e=>h.m.ne_row h.o e.symm),h.b.grown hg h.b.size (fun j hj=>by injection hj with hj;omega),hz⟩
theorem OrI.add {w W W1:World} {v vo vo':Value} {b9 bq k km:Nat} {S:List Sc} {x:Sc} (h:OrI w v b9 bq S k km vo W) (hx:(scF S)[k]? =some x) (ho:W1.ownsRow w.heap.size 84 3 vo' (k+1) (scs ((scF S).take k)++scC x)) (hg:W.grownBy W1 vo.ownBlock):
 OrI w v b9 bq S (k+1) km vo' (W1.setCell ⟨b9,0,none⟩ vo'):=by
 have hz:=h.z
 have hne:∀(i:Nat) (D:Array Value) (T:TypeId) (fr:Nat×Nat),W.heap[i]? =some (.cells D T fr)→T≠84→W1.heap[i]? =some (.cells D T fr):=by
  intro i D T fr hi hT
  rw[hg.block i (Array.getElem?_eq_some_iff.1 hi).1 (fun q=>by
   rcases h.o.2 with⟨rfl,-⟩|⟨g',cap',cur,rfl,-,hgb,-⟩
   ·cases q
   ·injection q with q;subst q;rw[hgb]at hi;injection hi with hi;injection hi with _ h5 _;exact hT h5.symm)]
  exact hi
 have h1:=hne _ _ _ _ h.bs (by decide);have h2:=hne _ _ _ _ h.bo (by decide);have h3:=hne _ _ _ _ h.bn (by decide);have hm:=(h.m.kept hg (h.m.ne_row h.o)).setCell (a:=⟨b9,0,none⟩) (by show b9+1≠b9;omega) vo';refine⟨zeG (by omega) h1,zeI h2,zeG (by omega) h3,hm,?_,(h.b.grown hg h.b.size (fun k hk=>(h.o.lt _ hk).1)).setCell (p:=⟨b9,0,none⟩) (by show w.heap.size≤b9;omega) _,hz⟩;rw[List.take_add_one,hx,zl8];show World.ownsRow _ _ _ _ _ _ (scs ((scF S).take k)++scs [x]);have e:scs [x]=scC x:=by simp[scs]
 rw[e];refine ownsRow_setCell_other (a:=⟨b9,0,none⟩) ho (fun q=>?_) _;rcases ho.2 with⟨rfl,-⟩|⟨g',cap',cur,rfl,-,hgb,-⟩
 ·cases q
 ·injection q with q;subst q;rw[hgb]at h2;injection h2 with h2;injection h2 with _ h5 _;exact absurd h5 (by decide)
theorem OrI.keepBo {w W W1:World} {v vo:Value} {b9 bq k km:Nat} {S:List Sc} (h:OrI w v b9 bq S k km vo W) (hg:W.grownBy W1 vo.ownBlock):W1.heap[b9]? =some (.cells #[vo] 22 (0,0)):=by
 rw[hg.block b9 (Array.getElem?_eq_some_iff.1 h.bo).1 (fun q=>by
  rcases h.o.2 with⟨rfl,-⟩|⟨g',cap',cur,rfl,-,hgb,-⟩
  ·cases q
  ·injection q with q;subst q;have hi:=h.bo;rw[hgb]at hi;injection hi with hi;injection hi with _ h5 _;exact absurd h5 (by decide))]
 exact h.bo
theorem OrI.others {w W W1:World} {v vo vo':Value} {b9 bq k km:Nat} {S:List Sc} (h:OrI w v b9 bq S k km vo W) (hg:W.grownBy W1 vo.ownBlock):KeepsOthers W (W1.setCell ⟨b9,0,none⟩ vo'):=by
 refine(KeepsOthers.of_grownBy hg fun j o ej hj=>?_).trans (KeepsOthers.setCell _ _ _);rcases h.o.2 with⟨rfl,_⟩|⟨g,cap,cur,rfl,_,hgb,_⟩
 ·simp[Value.ownBlock]at ej
 ·obtain rfl:g=j:=by simpa[Value.ownBlock] using ej
  rw[hgb]at hj;cases hj;rfl
theorem OrI.kp {w W W1:World} {v vo vo':Value} {b9 bq k km:Nat} {S:List Sc} (h:OrI w v b9 bq S k km vo W) (hg:W.grownBy W1 vo.ownBlock):KpO w.heap.size W (W1.setCell ⟨b9,0,none⟩ vo'):=by
 refine⟨by have:=hg.size;simpa using this,fun b C T fr hb hc=>?_⟩;have hz:=h.z;rw[Below.heap_setCell _ _ _ _ (by show b≠b9;omega),hg.block b (Array.getElem?_eq_some_iff.1 hc).1 (fun q=>by have:=(h.o.lt _ q.symm).1;omega)];exact hc
theorem zjJ {S:List Sc} {k:Nat} (hk:k<(preS S).length):parS S (preS S)[k]= -1∨(0≤parS S (preS S)[k]∧(parS S (preS S)[k]).toNat∈(preS S).take (k+1)):=by
 have hsp:preS S=(preS S).take k++(preS S)[k]::(preS S).drop (k+1):=by rw[←List.drop_eq_getElem_cons hk,List.take_append_drop]
 rcases zkj _ _ _ _ _ hsp with h|⟨y,hy,h⟩
 ·exact .inl h
 ·rw[h];refine .inr ⟨by omega,?_⟩;rw[Int.toNat_natCast,List.take_succ_eq_append_getElem hk];exact List.mem_append_left _ hy
attribute [local go_sem] Oper.semAt_some
theorem zju {w:World} {B e size n:Nat} {v:Value} {xs:List Value} (h:w.ownsRow B e size v (n+1) xs):∃g cap,v=.slice (some ⟨g,0,none⟩) (n+1) cap:=by
 rcases h.2 with⟨-,h0⟩|⟨g,cap,cur,e0,-⟩
 ·omega
 ·exact⟨g,cap,e0⟩
theorem zpw {D R:List Vr} (v:Vr) (n:Int):(vrs (D++v::R)).set (D.length*7+2) (.int .i64 n)=vrs (D++{v with sc:=n}::R):=by
 have hl:(vrs D).length=D.length*7:=by rw[zpt,Nat.mul_comm]
 rw[zpq,zpq,zps,zps,←hl];simp only[vrC,List.cons_append,List.nil_append];rw[List.set_append_right _ _ (by omega),Nat.add_sub_cancel_left];simp only[List.set_cons_succ,List.set_cons_zero]
theorem SO.putSc {base g n c:Nat} {w:World} {X Z:List Vr} {y:Vr} (h:SO base g n c w (X++y::Z)) (q:Int):SO base g n c (w.setCell ⟨g,X.length*7+2,none⟩ (.int .i64 q)) (X++{y with sc:=q}::Z):=by
 have h1:=zjq h (X.length*7+2) (.int .i64 q);rwa [zpw]at h1
def zap (r:List Sc×List Vr×List Int×Int) (w:World) (e:Ending) (w':World):Prop:=
 ∃v1 v2 v3,e=.returned (.tuple #[v1,v2,v3,.int .i64 r.2.2.2])∧w'.ownsRow w.heap.size 84 3 v1 r.1.length (scs r.1)∧w'.ownsRow w.heap.size 48 7 v2 r.2.1.length (vrs r.2.1)∧
  w'.ownsRow w.heap.size 3 1 v3 r.2.2.1.length (ints r.2.2.1)∧Below w.heap.size w w'
theorem zi6 (v v2:Value) (S:List Sc) (V:List Vr) (w:World) (hs:SlR w v S.length (scs S)) (hv:SlR w v2 V.length (vrs V)) (hl:S.length≤1000∧V.length≤1000) (hn:(∀s∈S,s.1.length≤100000)∧∀x∈V,x.nm.length≤100000) (he:zbF S V≠0):
 Calls Tryz.prog 24 #[v,v2] w (zap (zi8 S V) w):=by
 obtain⟨a,cap,rfl,-,-⟩:=hs.shape;obtain⟨a2,cap2,rfl,-,-⟩:=hv.shape;have hal:Below w.heap.size w (w.alloc (.cells #[.slice a S.length cap] 22)):=(Below.refl _ _).alloc (Nat.le_refl _) _;have HC:=lhd (zeT _ _ S V _ (hs.below hal) (hv.below hal) hl hn);have HQ:=lhd (show zi8 S V=([],[],[],zbF S V)by unfold zi8;rw[if_pos he]);generalize zi8 S V=O at*;generalize zbF S V=q at*;have hq:(q==0)=false:=by simpa using he
 have hq2:(q !=0)=true:=by simpa using he
 clear hs hv he;go_enter Tryz.func24,Tryz.ntmps24;go_wp2_with fail;refine HC.out.mono ?_;rintro e w1 ⟨rfl,hb⟩;have HB:=lhd (zd3 hb);clear hb HC;go_wp2_with fail;refine bodyPost_ret (v:=.tuple #[.slice none 0 0,.slice none 0 0,.slice none 0 0,.int .i64 q]) (by simp[results,Tryz.results24,go_sem]) rfl ?_;rw[HQ.out];exact⟨_,_,_,rfl,World.ownsRow_nil _ _ _ _,World.ownsRow_nil _ _ _ _,World.ownsRow_nil _ _ _ _,HB.out⟩
theorem zi7 (v v2:Value) (S:List Sc) (V:List Vr) (w:World) (hs:SlR w v S.length (scs S)) (hv:SlR w v2 V.length (vrs V)) (hl:S.length≤1000∧V.length≤1000) (hn:(∀s∈S,s.1.length≤100000)∧∀x∈V,x.nm.length≤100000)
 (hsg:∀x∈V,(Lit.int .i64 x.sg).wf=true) (he:zbF S V=0):Calls Tryz.prog 24 #[v,v2] w (zap (zi8 S V) w):=by
 obtain⟨i0,hi0,iz0,iz1,iz2⟩:=info_parts (P:=Tryz.prog) zlO;obtain⟨a,cap,rfl,-,-⟩:=hs.shape;obtain⟨a2,cap2,rfl,-,-⟩:=hv.shape;have hal:Below w.heap.size w (w.alloc (.cells #[.slice a S.length cap] 22)):=(Below.refl _ _).alloc (Nat.le_refl _) _;have HC:=lhd (zeT _ _ S V _ (hs.below hal) (hv.below hal) hl hn);have HQ:=lhd (show zi8 S V=(scF S,(vrF S V).1,(vrF S V).2,0)by unfold zi8;rw[if_neg (by simp[he])]);have HK:=lhd (zbN.1 he);rw[he]at HC;generalize zi8 S V=O at*;have HS:=lhd hs;have HV:=lhd hv;have HSG:=lhd hsg;have HL:=lhd hl;clear hs hv he hsg hn hl;have hmm:= @run_makeMap Tryz.prog;have h1:=heap_alloc_new w (.cells #[.slice a S.length cap] 22);refine(callsIn_wide (n:=6)).1 ?_;refine callsIn_of_wp_marks Tryz.func24 rfl trivial ?_ rfl;refine wpIn_wide.2 ?_;simp only[Tryz.ntmps24,List.size_toArray,List.length_cons,List.length_nil,Nat.reduceAdd,Nat.reduceSub,Array.replicate_succ,Array.replicate_zero,List.push_toArray,List.append_toArray,List.nil_append,List.cons_append];have H1:=lhd h1;have HAL:=lhd hal;clear h1 hal;go_wp2_with fail;refine HC.out.mono ?_;rintro e w1 ⟨rfl,hb⟩;have HB1:=lhd hb;have hz1:w.heap.size<w1.heap.size:=by have:=hb.size;simp at this;omega
 obtain⟨c2,-⟩:=box1 hb
 have hbs1:w1.heap[w.heap.size]? =some (.cells #[.slice a S.length cap] 22 (0,0)):=by
  rw[hb.block _ (by simp)];exact H1.out
 have ba1:Below w1.heap.size w1 (w1.alloc (.cells #[.slice none 0 0] 22)):=(Below.refl _ _).alloc (Nat.le_refl _) _;have ba2:Below w1.heap.size w1 ((w1.alloc (.cells #[.slice none 0 0] 22)).alloc (.map #[] 0)):=ba1.alloc (by simp) _
 have hbo2:((w1.alloc (.cells #[.slice none 0 0] 22)).alloc (.map #[] 0)).heap[w1.heap.size]? =some (.cells #[.slice none 0 0] 22 (0,0)):=
  (Same0.of_below ((Below.refl (w1.alloc (.cells #[.slice none 0 0] 22)).heap.size (w1.alloc (.cells #[.slice none 0 0] 22))).alloc (Nat.le_refl _) (.map #[] 0))).cells _ _ _ _ (heap_alloc_new w1 (.cells #[.slice none 0 0] 22))
 have HBF:=lhd (fun(w2:World) (hg:((w1.alloc (.cells #[.slice none 0 0] 22)).alloc (.map #[] 0)).grownBy w2 (some (w1.heap.size+1)))=>
  (show w2.heap[w.heap.size]? =some (.cells #[.slice a S.length cap] 22 (0,0))∧w2.heap[w1.heap.size]? =some (.cells #[.slice none 0 0] 22 (0,0))∧w1.heap.size+1<w2.heap.size∧Below w.heap.size w w2 from
    ⟨(hg.block _ (by simp;omega) (by intro q;injection q with q;omega)).trans ((Same0.of_below ba2).cells _ _ _ _ hbs1),(hg.block _ (by simp;omega) (by intro q;injection q with q;omega)).trans hbo2,by have:=hg.size;simp at this;omega,
     ((zd3 HB1.out).trans (ba2.mono (by omega))).grown hg (by simp;omega) (fun j hj=>by injection hj with hj;omega)⟩))
 clear hb HC hbs1 ba1 ba2 hbo2
 have HM0:=lhd (show KMap (zfC (P:=Tryz.prog) (K:=3) Tryz.underlying3) ((w1.alloc (.cells #[.slice none 0 0] 22)).alloc (.map #[] 0)) (w1.heap.size+1) 0 (fun _=>none)by
  have:=KMap.made (zfC (P:=Tryz.prog) (K:=3) Tryz.underlying3) (w1.alloc (.cells #[.slice none 0 0] 22));rwa [World.size_alloc]at this)
 go_wp2_with (refine zql _ rfl _ _ _ 100 rfl 3 Tryz.underlying100 (w1.heap.size+1) 0 _ rfl HM0.out (by decide) (-1) (.int .i64 (-1)) rfl rfl (zpW (n:= -1) (by decide) (by decide)) ?_;intro w2 hm2 hg2;have HM2:=lhd (hm2.ext (zie (preS S)));obtain⟨g1,g2,g3,g4⟩:=HBF.out w2 hg2;have HG2:=lhd (And.intro g1 (And.intro g2 g4));have c2':=(ziF g1).1;have hz2:w.heap.size<w2.heap.size:=(by omega);clear hm2 hg2 c2 g1 g2 g4)
 clear hmm;refine(zeY _ _ _ _ _).mono ?_;rintro e w3 ⟨rfl,rfl⟩;go_wp2_with fail;obtain⟨v,hv⟩:∃v,Value.slice a S.length cap=v:=⟨_,rfl⟩;rw[hv]at HS HG2 c2'⊢;obtain⟨b9,hb9⟩:∃b9,w1.heap.size=b9:=⟨_,rfl⟩;rw[hb9]at HG2 HM2 g3 hz1⊢;have hq:=heap_alloc_new w2 (.cells #[.map (some (b9+1))] 100);have k1:Below w2.heap.size w2 (w2.alloc (.cells #[.map (some (b9+1))] 100)):=(Below.refl _ _).alloc (Nat.le_refl _) _;have e1:(w2.alloc (.cells #[.map (some (b9+1))] 100)).heap.size=w2.heap.size+1:=by simp
 obtain⟨W0,hW0⟩:∃X,((w2.alloc (.cells #[.map (some (b9+1))] 100)).alloc (.cells #[v] 22)).alloc (.cells #[.int .i64 (-1)] 3)=X:=⟨_,rfl⟩;have hs0:W0.heap.size=w2.heap.size+3:=by rw[←hW0];simp
 rw[hW0];generalize w2.alloc (.cells #[.map (some (b9+1))] 100)=x1 at*;have h2:=heap_alloc_new x1 (.cells #[v] 22);have k2:Below x1.heap.size x1 (x1.alloc (.cells #[v] 22)):=(Below.refl _ _).alloc (Nat.le_refl _) _;have e2:(x1.alloc (.cells #[v] 22)).heap.size=w2.heap.size+2:=by simp[e1]
 generalize x1.alloc (.cells #[v] 22)=x2 at*;have h3:=heap_alloc_new x2 (.cells #[.int .i64 (-1)] 3);have k3:Below x2.heap.size x2 (x2.alloc (.cells #[.int .i64 (-1)] 3)):=(Below.refl _ _).alloc (Nat.le_refl _) _;rw[hW0]at h3 k3;rw[e1]at h2;rw[e2]at h3;have bb:Below w2.heap.size w2 W0:=zd5 (zd5 k1 k2) k3
 have hI0:OrI w v b9 w2.heap.size S 0 0 (.slice none 0 0) W0:=
  ⟨(Same0.of_below bb).cells _ _ _ _ HG2.out.1,(Same0.of_below bb).cells _ _ _ _ HG2.out.2.1,(Same0.of_below k3).cells _ _ _ _ ((Same0.of_below k2).cells _ _ _ _ hq),HM2.out.below bb HM2.out.lt,World.ownsRow_nil _ _ _ _,HG2.out.2.2.trans (bb.mono HG2.out.2.2.size),hz1,g3⟩
 have q2:=(Same0.of_below k3).cells _ _ _ _ h2;have HF:=lhd (zc0 HK.out.d);have hSl:S.length≤32:=HK.out.n;obtain⟨bq,hbq⟩:∃bq,w2.heap.size=bq:=⟨_,rfl⟩;rw[hbq]at hI0 hs0 h3 q2 g3⊢;have HPL:=lhd (zkd HF.out);clear k1 k2 k3 e1 e2 hW0 hq h2 HM0 HBF H1 HAL HB1 HM2 hz2 c2' x1 x2;refine(wpIn_wide (n:=6)).1 ?_
 refine zkO rfl (by decide) (gf:=111) (lb:=#[.pointer (some ⟨bq+1,0,none⟩),.pointer (some ⟨bq+2,0,none⟩)]) rfl trivial (enters_of Tryz.func111 (by kernel_rfl) rfl)
  (encs:=ordE (preS S)) (Kp:=KpO w.heap.size) (N:=(preS S).length) (T:=5)
  (fun l J W hW hJ hY h0=>?iter)
  KpO.trans (fun _ _ h=>KpO.same0 h) (fun _=>rfl)
  (fun k W=>∃vo,OrI w v b9 bq S k k vo W) (fun k W V ⟨vo,h⟩ ht=>⟨vo,h.turn (by omega) ht⟩) ⟨_,hI0⟩ ?round ?done
 case iter=>
  exact zj6 (6-1) (by decide) l (bq+1) (bq+2) S v w W J HF.out (by omega) HS.out (Same0.trans (Same0.of_below (HG2.out.2.2.trans (bb.mono HG2.out.2.2.size))) (Same0.of_below hW)) hY ((Same0.of_below hW).cells _ _ _ _ q2) ((Same0.of_below hW).cells _ _ _ _ h3) h0
 case done=>
  rintro D W hD ⟨vo,h⟩ hDd;have HI:=lhd h;have HD:=lhd (And.intro hD hDd);have hln:(scF S).length=(preS S).length:=by rw[HPL.out,zlK HF.out]
  have HOU:=lhd (show W.ownsRow w.heap.size 84 3 vo (scF S).length (scs (scF S))by
   have:=h.o;rw[←hln,List.take_of_length_le (Nat.le_refl _)]at this;exact this)
  have hVl:V.length≤128:=HK.out.m;have HVV:=lhd (zbS _ V W (HV.out.below h.b) (by omega));obtain⟨co,-⟩:=ziF h.bo;obtain⟨cn,-⟩:=ziF h.bn;clear hD hDd hln h hb9 hbq HG2 hI0 q2 h3;go_wp2_with fail;refine HVV.out.mono ?_;rintro e w5 ⟨vl,rfl,hov,hb5⟩;have HOV:=lhd hov;have HB5:=lhd hb5
  have hvs:∃va vc,vl=.slice va V.length vc:=by
   obtain⟨va,vc,e,-,-⟩:=(SlR.of_own hov).shape;exact⟨va,vc,e⟩
  obtain⟨va,vc,rfl⟩:=hvs;have HSV:=lhd (zc6 HK.out.d)
  have HNW:=lhd (fun(x:Vr) (hx:x∈V)=>(show nowF (preS S) (preS S).length x.sc=some (.int .i64 (pos (preS S) x.sc))by
   unfold nowF;obtain⟨y1,y2,-⟩:=HSV.out x hx;rw[if_pos];by_cases h0:x.sc= -1
   ·exact .inl h0
   ·refine .inr ⟨by omega,?_⟩;rw[List.take_of_length_le (Nat.le_refl _)];exact(zke HF.out).2 (by omega)))
  have HV1:=lhd (show(vr1 S V).length=V.length by simp[vr1]);clear hov hb5 co cn HVV;go_wp2_with fail;go_loopw [48] (fun i wr=>∃k:Nat,k≤V.length∧i=.int .i64 k∧wr.ownsRow W.heap.size 48 7 (.slice va V.length vc) V.length (vrs ((vr1 S V).take k++V.drop k))∧Below W.heap.size W wr) (fun i _=>V.length-(intOf i).toNat)
  case atStart=>exact⟨0,Nat.zero_le _,rfl,HOV.out,HB5.out⟩
  case round=>
   obtain⟨k,hk,rfl,ho,hb⟩:=hrel;have HO:=lhd ho;have HB:=lhd hb;clear ho hb;by_cases hlt:k<V.length
   ·have hzz:=(HI.out.below HB.out);have cn:=(ziF hzz.bn).1;have HMM:=lhd hzz.m;have hk1:((vr1 S V).take k).length=k:=by rw[List.length_take,HV1.out];omega
    have hvk:(vr1 S V)[k]'(by rw[HV1.out];exact hlt)={V[k]with sc:=pos (preS S) V[k].sc}:=by simp[vr1]
    have hog:wr.ownsRow W.heap.size 48 7 (.slice va V.length vc) V.length (vrs ((vr1 S V).take k++V[k]::V.drop (k+1))):=by
     have:=HO.out;rwa [List.drop_eq_getElem_cons hlt]at this
    rcases hog.2 with⟨-,h0⟩|⟨g,cap',cur,e0,-⟩
    ·omega
    injection e0 with e0 _ e1;subst e0 e1;have hso:SO W.heap.size g V.length vc wr ((vr1 S V).take k++V[k]::V.drop (k+1)):=hog;have d2:=hso.at.2.2.1;have f2:=zjj hog (k*7+2);rw[hk1]at d2;have HPS:=lhd (hso.putSc (pos (preS S) V[k].sc));rw[hk1]at HPS;have HNK:=lhd (HNW.out V[k] (List.getElem_mem hlt));have hsc:=HSV.out V[k] (List.getElem_mem hlt);have hwp:(Lit.int .i64 V[k].sc).wf=true:=zpW (by omega) (by omega)
    have HTK:=lhd (show(vr1 S V).take (k+1)++V.drop (k+1)=(vr1 S V).take k++{V[k]with sc:=pos (preS S) V[k].sc}::V.drop (k+1)by
     rw[List.take_succ_eq_append_getElem (by rw[HV1.out];exact hlt),hvk];simp)
    have HGL:=lhd (hso.lo);generalize hxx:V[k]=x at*;clear hso hog hk1 hvk hzz hxx hsc;obtain⟨sc,hsc⟩:∃sc,x.sc=sc:=⟨_,rfl⟩;obtain⟨pp,hpp⟩:∃pp,pos (preS S) sc=pp:=⟨_,rfl⟩;rw[hsc]at d2 HNK hwp HPS HTK;rw[hpp]at HNK HPS HTK
    have hlk:(Instr.lookup 100 (.map (some (b9+1))) (.int .i64 sc) false).run Tryz.prog wr.drew=.ok (.int .i64 pp) wr.drew:=by
     have:=(HMM.out.same (w':=wr.drew) rfl).look1 (t:=100) Tryz.underlying100 (zqE _) sc hwp;rw[HNK.out]at this;exact this
    have hlk2:(Instr.lookup 100 (.map (some (b9+1))) (.int .i64 sc) false).run Tryz.prog wr=.ok (.int .i64 pp) wr:=by
     have:=HMM.out.look1 (t:=100) Tryz.underlying100 (zqE _) sc hwp;rw[HNK.out]at this;exact this
    clear hsc hpp;go_wp2_with fail;go_region
    clear hlk hlk2 cn d2 f2;go_wp2_with fail;go_roundw;case rel=>exact⟨k+1,hlt,by go_num,by rw[HTK.out];exact HPS.out,(HB.out.setCell (p:=⟨g,k*7+2,none⟩) HGL.out.1 _).drew⟩
    case measure=>simp[intOf];omega
   ·obtain rfl:k=V.length:=by omega
    have hso:wr.ownsRow W.heap.size 48 7 (.slice va V.length vc) (vr1 S V).length (vrs (vr1 S V)):=by
     have:=HO.out;rw[List.drop_length,List.append_nil,List.take_of_length_le (by rw[HV1.out];exact Nat.le_refl _)]at this;rw[HV1.out];exact this
    have HSO:=lhd (ze0 W.heap.size _ (vr1 S V) wr hso (by rw[HV1.out];omega));clear hlt hso;go_wp2_with fail;refine HSO.out.mono ?_;rintro e w6 ⟨rfl,ho6,hb6⟩
    have HNB:=lhd (zeW W.heap.size _ (zfL vk (vr1 S V)) w6 (by have:=HB.out.size;have:=hb6.size;omega) (by rw[zfO];exact ho6) (by rw[zfO,HV1.out];omega) (fun x hx=>by
     rw[zfP]at hx;obtain⟨y,hy,rfl⟩:=List.mem_map.1 hx;exact HSG.out y hy))
    have HB6:=lhd (HB.out.trans hb6);clear ho6 hb6 HSO;go_wp2_with fail;refine HNB.out.mono ?_;rintro e w7 ⟨vf,rfl,ho7,hf7,hb7⟩;have HB7:=lhd (HB6.out.trans hb7);have HO7:=lhd ho7;have HF7:=lhd hf7;have co7:=(ziF (HI.out.below HB7.out).bo).1;have HOU7:=lhd (zjp HOU.out (Same0.of_below HB7.out));have HD7:=lhd (show w7.heap[D]? =some (.deferred (some []))by rw[HB7.out.block D (Array.getElem?_eq_some_iff.1 HD.out.2).1];exact HD.out.2);obtain⟨fa,fc,rfl,-,-⟩:=(SlR.of_own hf7).shape;obtain⟨oa,oc,rfl,-,-⟩:=(SlR.of_own HOU.out).shape;clear ho7 hf7 hb7 HNB;go_wp2_with fail;refine⟨by simp,.inl ⟨_,_,rfl,run_takeDeferred HD7.out,?_⟩⟩;have hwz:w.heap.size≤W.heap.size:=HI.out.b.size;have r1:=ownsRow_putObj HOU7.out (.deferred none) HD7.out rfl;have r2:=ownsRow_putObj (zjy HO7.out hwz) (.deferred none) HD7.out rfl;have r3:=ownsRow_putObj (zjy HF7.out hwz) (.deferred none) HD7.out rfl
    have hvl:(vrF S V).1.length=V.length:=by
     have:(numF [] (vr2 S V)).1.length=(vr2 S V).length:=by
      have:=congrArg List.length (zio (fun _:Vr=>(0:Int)) (fun _ _=>rfl) (vr2 S V) []);simpa using this
     show(numF [] (vr2 S V)).1.length=V.length;rw[this];unfold vr2;rw[zfO,HV1.out]
    rw[zfO,HV1.out]at r2;refine⟨.tuple #[.slice oa (scF S).length oc,.slice va V.length vc,.slice fa (numF [] (zfL vk (vr1 S V))).2.length fc,.int .i64 0],by simp[results,Tryz.results24,go_sem],?_⟩;rw[HQ.out];refine⟨_,_,_,rfl,r1,?_,r3,(HI.out.b.trans (HB7.out.mono hwz)).trans (belowK_b (w:=W0) (by have:=HI.out.z;omega) _ D _ _ HD.out.1 HD7.out rfl rfl)⟩;show World.ownsRow _ _ _ _ _ (vrF S V).1.length (vrs (vrF S V).1);rw[hvl];exact r2
 case round=>
  intro l k W hlW ⟨vo,h⟩ hk;have HND:=lhd (zkf HF.out);obtain⟨m,hm⟩:∃m,(preS S)[k]=m:=⟨_,rfl⟩;have hmS:m<S.length:=by rw[←hm];exact(zke HF.out).1 (List.getElem_mem hk)
  have HEN:=lhd (show ordE (preS S) k=#[.int .i64 (m:Int)]by
   unfold ordE;rw[List.getD,List.getElem?_eq_getElem hk,hm];rfl)
  have hps:parS S m=S[m].2.2:=by simp[parS,List.getD,hmS]
  have hsx:(scF S)[k]? =some (S[m].1,S[m].2.1,pos (preS S) S[m].2.2):=by
   have hk2:k<(scF S).length:=by rw[zlK HF.out,←HPL.out];exact hk
   rw[List.getElem?_eq_getElem hk2,zlI hk2 hk,hm,←hps];simp[List.getD,hmS]
  have hpk:=zjJ (S:=S) hk;rw[hm,hps]at hpk;have HPW:=lhd (HF.out m hmS);rw[hps]at HPW;have hkl:k<100:=by have:=HPL.out;omega
  have HM:=lhd (fun(W1 W2:World) (vo:Value) (h:OrI w v b9 bq S k k vo W1) (hm4:KMap (zfC (P:=Tryz.prog) (K:=3) Tryz.underlying3) W2 (b9+1) (k+1+1) (fun y=>if y=(m:Int)then some (.int .i64 (k:Int))else nowF (preS S) k y)) (hg4:W1.grownBy W2 (some (b9+1)))=>h.setM HND.out hk (by rw[hm];exact hm4) hg4);have HCL:=lhd (fun(X:World) (hX:Same0 w X)=>(HS.out.same0 hX));rw[HEN.out];clear HEN hm;subst hv;have HI:=lhd h;clear h hb9 hbq HG2 hI0 q2 h3;gi_wp2
  refine⟨KeepsFrom.refl _ _,⟨Nat.le_refl _,fun _ _ _ _ _ h=>h⟩,?_⟩;intro W1 hs1 ht1;have H1:=lhd (HI.out.turn (by omega) ht1);clear hs1 ht1 HI;obtain⟨ct,-⟩:=ziF H1.out.bs;obtain⟨co,-⟩:=ziF H1.out.bo;obtain⟨cn,-⟩:=ziF H1.out.bn;obtain⟨ao,capo,rfl,-,-⟩:=(SlR.of_own H1.out.o).shape;obtain⟨bS,oS,rfl,hcell⟩:=(HCL.out _ (Same0.of_below H1.out.b)).scs hmS;obtain⟨x,hx⟩:∃x,S[m]=x:=⟨_,rfl⟩
  have HSC:=lhd (fun(X:World) (hX:Same0 w X) (j:Nat) (u:Value) (hu:(scC x)[j]? =some u)=>(show X.cell? ⟨bS,oS+m*3+j,none⟩=some u by
   obtain⟨b',o',e',hc'⟩:=(HCL.out X hX).scs hmS;injection e' with e';injection e' with e1 e2 _;subst e1 e2;exact hc' j u (by rw[hx];exact hu)))
  rw[hx]at hsx hpk HPW;clear hcell hx hps;obtain⟨nm,ty,pa⟩:=x;dsimp only at hsx hpk HPW;have HSX:=lhd hsx;have HPK:=lhd (show nowF (preS S) (k+1) pa=some (.int .i64 (pos (preS S) pa))by unfold nowF;rw[if_pos hpk]);have hwm:(Lit.int .i64 (m:Int)).wf=true:=zpW (by omega) (by omega);have hwp:(Lit.int .i64 pa).wf=true:=zpW (by have:=HPW.out;omega) (by have:=HPW.out;omega);generalize pos (preS S) pa=pp at*;clear hsx hpk;have hbz:=H1.out.b.size;have H6X:=lhd (fun(X Y:World) (h:OrI w (.slice (some ⟨bS,oS,none⟩) S.length cap) b9 bq S k (k+1) (.slice ao k capo) X) (hg:X.grownBy Y (.slice ao k capo:Value).ownBlock)=>h.keepBo hg)
  gi_wp2_with (first
   |(gi_at_builtin;refine wpListIn_append_own _ rfl _ _ 22 rfl w.heap.size 84 i0 (.agg #[.string ⟨#[]⟩,.int .i64 0,.int .i64 0]) 3 32 Tryz.underlying22 hi0 iz0 iz1 iz2 rfl (by decide) _ _ _ rfl H5.out.o ⟨w4.heap.size+1,0,none⟩ 1 1 [.string (bsB nm),.int .i64 ty,.int .i64 pp] rfl rfl HN5.out (by simp[Value.oneCell']) (by unfold maxLen;omega) (by omega) (by simp;omega) ?_;rintro v' w6 ho6 hg6-;obtain⟨g6,cap6,rfl⟩:=zju ho6;have H6:=lhd (H5.out.add HSX.out ho6 hg6);have HG6:=lhd hg6;have co6:=(ziF (H6X.out _ _ H5.out hg6)).1;have fo6:=(ziF (H6X.out _ _ H5.out hg6)).2;clear ho6 hg6)
   |(refine zqj _ rfl _ _ _ 100 rfl 3 Tryz.underlying100 (b9+1) (k+1) _ rfl H1.out.m (by unfold maxLen;omega) (m:Int) (.int .i64 (k:Int)) rfl rfl hwm ?_;intro w4 hm4 hg4;have H4:=lhd (HM.out _ _ _ H1.out hm4 hg4);have ct4:=(ziF H4.out.bs).1;have co4:=(ziF H4.out.bo).1;have cn4:=(ziF H4.out.bn).1;have zq:bq<w4.heap.size:=zbA cn4;have z9:b9<w4.heap.size:=zbA co4;have d0:w4.cell? ⟨bS,oS+m*3,none⟩=some (.string (bsB nm)):=(HSC.out _ (Same0.of_below H4.out.b) 0 _ rfl);have d1:w4.cell? ⟨bS,oS+m*3+1,none⟩=some (.int .i64 ty):=(HSC.out _ (Same0.of_below H4.out.b) 1 _ rfl);have d2:w4.cell? ⟨bS,oS+m*3+2,none⟩=some (.int .i64 pa):=(HSC.out _ (Same0.of_below H4.out.b) 2 _ rfl);have hlk:(Instr.lookup 100 (.map (some (b9+1))) (.int .i64 pa) false).run Tryz.prog (w4.alloc (.cells #[.string (bsB nm),.int .i64 ty,.int .i64 pa] 84))=.ok (.int .i64 pp) (w4.alloc (.cells #[.string (bsB nm),.int .i64 ty,.int .i64 pa] 84)):=(by have:=(H4.out.m.below ((Below.refl w4.heap.size w4).alloc (Nat.le_refl _) (.cells #[.string (bsB nm),.int .i64 ty,.int .i64 pa] 84)) H4.out.m.lt).look1 (t:=100) Tryz.underlying100 (zqE _) pa hwp;rw[HPK.out]at this;exact this);have HG4:=lhd hg4;have hN5:=heap_alloc_new (w4.alloc (.cells #[.string (bsB nm),.int .i64 ty,.int .i64 pp] 84)) (.cells #[.string (bsB nm),.int .i64 ty,.int .i64 pp] 84);rw[World.size_alloc]at hN5;have HN5:=lhd (World.news_of_block (cs:=#[.string (bsB nm),.int .i64 ty,.int .i64 pp]) (t:=84) (fr:=(0,0)) hN5);have H5:=lhd (H4.out.below (((Below.refl w4.heap.size w4).alloc (Nat.le_refl _) (.cells #[.string (bsB nm),.int .i64 ty,.int .i64 pp] 84)).alloc (by simp) (.cells #[.string (bsB nm),.int .i64 ty,.int .i64 pp] 84)));clear hm4 hg4 ct co cn hN5))
  have hz9:=H1.out.z.1;have ha1:=(KeepsOthers.alloc w4 (.cells #[.string (bsB nm),.int .i64 ty,.int .i64 pp] 84)).trans (KeepsOthers.alloc _ (.cells #[.string (bsB nm),.int .i64 ty,.int .i64 pp] 84));have ha2:Below w4.heap.size w4 ((w4.alloc (.cells #[.string (bsB nm),.int .i64 ty,.int .i64 pp] 84)).alloc (.cells #[.string (bsB nm),.int .i64 ty,.int .i64 pp] 84)):=((Below.refl w4.heap.size w4).alloc (Nat.le_refl _) _).alloc (by simp) _;refine⟨?_,?_,⟨_,H6.out⟩⟩
  ·exact((KeepsFrom.of_grownBy HG4.out (fun j ej=>by injection ej with ej;omega)).trans (ha1.from _)).trans ((H5.out.others HG6.out).from _)
  ·refine KpO.trans (B:=w4) ⟨HG4.out.size,fun b C T fr hb hc=>?_⟩ (KpO.trans (KpO.same0 (Same0.of_below ha2)) (H5.out.kp HG6.out));rw[HG4.out.block b (Array.getElem?_eq_some_iff.1 hc).1 (fun q=>by injection q with q;omega)];exact hc
theorem zeK (v v2:Value) (S:List Sc) (V:List Vr) (w:World) (hs:SlR w v S.length (scs S)) (hv:SlR w v2 V.length (vrs V)) (hl:S.length≤1000∧V.length≤1000) (hn:(∀s∈S,s.1.length≤100000)∧∀x∈V,x.nm.length≤100000)
 (hsg:∀x∈V,(Lit.int .i64 x.sg).wf=true):Calls Tryz.prog 24 #[v,v2] w (zap (zi8 S V) w):=by
 by_cases he:zbF S V=0
 ·exact zi7 v v2 S V w hs hv hl hn hsg he
 ·exact zi6 v v2 S V w hs hv hl hn he
end Go.Proofs.YtcdekelomkcahaaGreatDoor
