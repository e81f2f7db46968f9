import Derived.Test.YtcdekelomkcahaaGreatDoorZ00
import Derived.Test.YtcdekelomkcahaaGreatDoorZ01
set_option maxRecDepth 100000
set_option maxHeartbeats 16000000
namespace Go.Proofs.YtcdekelomkcahaaGreatDoor
open Go.RowKit Go.Shelf
attribute [local go_sem] Oper.semAt_some
set_option linter.unusedSimpArgs false
theorem zpC (n:Nat) (hn:2≤n) (lp:Nat) (S:List Sc) (v:Value) (w0:World) (J:Nat→World→Prop) (ord:List Nat)
 (hF:Fst (parS S) S.length) (hl:S.length≤1000) (hs:SlR w0 v S.length (scs S))
 (hY:∀k W1,J k W1→k<ord.length→YieldAt Fence.wide (n-1) Tryz.prog lp (ordE ord k) W1 fun e W'=>e=.returned (.bool true)∧J (k+1) W'∧KpO w0.heap.size W1 W'):
 ∀(f:Nat) (p:Int) (A B:List Nat) (W:World),-1≤p→p≤1000→(S.length:Int)≤(f:Int)+p+1→ord=A++pre (parS S) S.length (f+1) p++B→J A.length W→Same0 w0 W→
  WkP n lp v w0 J p A.length (pre (parS S) S.length (f+1) p).length W
 |0,p,A,B,W,h1,h2,h3,ho,h0,h00=>zpD n hn lp S v w0 J ord hF hl hs hY 0 p A B W h1 h2 ho h0 h00 (fun i _ _ _ hi hi2 _ _ _=>by omega)
 |f+1,p,A,B,W,h1,h2,h3,ho,h0,h00=>zpD n hn lp S v w0 J ord hF hl hs hY (f+1) p A B W h1 h2 ho h0 h00 (fun i A' B' W' hi hi2 ho' hj hs'=>
   zpC n hn lp S v w0 J ord hF hl hs hY f (i:Int) A' B' W' (by omega) (by omega) (by omega) ho' hj hs')
theorem zj6 (n:Nat) (hn:2≤n) (lp bs bp:Nat) (S:List Sc) (v:Value) (w0 W:World) (J:Nat→World→Prop)
 (hF:Fst (parS S) S.length) (hl:S.length≤999) (hs:SlR w0 v S.length (scs S)) (h0w:Same0 w0 W)
 (hY:∀k W1,J k W1→k<(preS S).length→YieldAt Fence.wide (n-1) Tryz.prog lp (ordE (preS S) k) W1 fun e W'=>e=.returned (.bool true)∧J (k+1) W'∧KpO w0.heap.size W1 W')
 (hcs:W.heap[bs]? =some (.cells #[v] 22 (0,0))) (hcp:W.heap[bp]? =some (.cells #[.int .i64 (-1)] 3 (0,0))) (h0:J 0 W):
 CallsIn Fence.wide n Tryz.prog 111 #[.func (.yield lp) #[] #[],.pointer (some ⟨bs,0,none⟩),.pointer (some ⟨bp,0,none⟩)] W fun e W'=>(∃v,e=.returned v)∧J (preS S).length W':=by
 have hro:Fence.wide.round=none:=rfl;obtain⟨a,cap,rfl,-,-⟩:=hs.shape;have HW:=lhd (zpC n hn lp S _ w0 J (preS S) hF (by omega) hs hY S.length (-1) [] [] W (by omega) (by omega) (by omega) (by simp[preS]) h0 h0w);obtain⟨cs,-⟩:=ziF hcs;obtain⟨cp,-⟩:=ziF hcp;unfold WkP at HW;clear hs hY h0 h0w hcs hcp hF;refine callsIn_of_wp Tryz.func111 rfl trivial ?_ hro;simp only[Tryz.ntmps111,List.size_toArray,List.length_cons,List.length_nil,Nat.reduceAdd,Nat.reduceSub,Array.replicate_succ,Array.replicate_zero,List.push_toArray,List.append_toArray,List.nil_append,List.cons_append];have h1n:1≤n:=by omega
 gi_wp2
 refine⟨trivial,?_⟩;refine(callsIn_wide.2 (callsIn_wide.1 HW.out)).mono ?_;rintro e W4 ⟨rfl,hj4,-⟩
 have HJ:=lhd (show J (preS S).length W4 by
  have:J (0+(preS S).length) W4:=hj4;rwa [Nat.zero_add]at this)
 clear hj4;gi_wp2
 go_end0
 exact⟨⟨_,rfl⟩,HJ.out⟩
theorem zeY (a:Option Addr) (m cap:Nat) (i:Int) (w:World):
 Calls Tryz.prog 54 #[.slice a m cap,.int .i64 i] w fun e w'=>e=.returned (.func (.func 111) #[] #[.pointer (some ⟨w.heap.size,0,none⟩),.pointer (some ⟨w.heap.size+1,0,none⟩)])∧w'=(w.alloc (.cells #[.slice a m cap] 22)).alloc (.cells #[.int .i64 i] 3):=by
 go_enter Tryz.func54,Tryz.ntmps54;go_wp2_with fail;go_ret;exact⟨rfl,rfl⟩
open Go.RowKit Go.WideMaps
theorem zqB (w:World):(zeroValue 4).run Tryz.prog w=.ok (.bool false) w:=by kernel_rfl
theorem zeZ (s:Sc) (w:World):Calls Tryz.prog 108 #[scV s] w fun e w'=>e=.returned (zbI (zlM s))∧Below w.heap.size w w':=by
 obtain⟨nm,ty,pa⟩:=s;go_enter Tryz.func108,Tryz.ntmps108;go_wp2_with fail;refine bodyPost_ret (v:=zbI (pa,nm)) (by simp[results,Tryz.results108,go_sem,zbI]) rfl ⟨rfl,((Below.refl _ _).alloc (Nat.le_refl _) _).alloc (by simp) _⟩
theorem ze4 (x:Vr) (w:World):Calls Tryz.prog 110 #[vrV x] w fun e w'=>e=.returned (zdU (zpk x))∧Below w.heap.size w w':=by
 obtain⟨nm,ty,sc,sg,rg,mb,lb⟩:=x;go_enter Tryz.func110,Tryz.ntmps110;go_wp2_with fail;refine bodyPost_ret (v:=zdU (sc,nm,rg,mb,lb)) (by simp[results,Tryz.results110,go_sem,zdU]) rfl ⟨rfl,((Below.refl _ _).alloc (Nat.le_refl _) _).alloc (by simp) _⟩
open Classical in
noncomputable def zms {κ:Type} (L:List κ) (x:κ):Option Value:=if x∈L then some (.bool true)else none
open Classical in
noncomputable def inB {κ:Type} (L:List κ) (x:κ):Bool:=decide (x∈L)
theorem zmu {κ:Type} [DecidableEq κ] (L:List κ) (x y:κ):(if y=x then some (.bool true)else zms L y)=zms (L++ [x]) y:=by
 unfold zms;by_cases h:y=x
 ·subst h;simp
 ·rw[if_neg h];simp[h]
open Classical in
theorem zfa {κ:Type} {L:List κ} {x:κ}:inB L x=true↔x∈L:=by
 unfold inB;exact⟨of_decide_eq_true,decide_eq_true⟩
theorem zmt {κ:Type} (L:List κ) (x:κ):(zms L x).getD (.bool false)=.bool (inB L x):=by
 unfold zms inB;split<;>simp[*]
theorem zh7 {κ:Type} {L:List κ} {x:κ}:(L++ [x]).Nodup↔L.Nodup∧x∉L:=by
 rw[List.nodup_append];constructor
 ·rintro⟨h1,-,h3⟩;exact⟨h1,fun h=>h3 x h x (by simp) rfl⟩
 ·rintro⟨h1,h2⟩;exact⟨h1,by simp,fun a ha b hb e=>by rw[List.mem_singleton]at hb;subst hb e;exact h2 ha⟩
theorem ze1 (v:Value) (L:List Sc) (w:World) (hs:SlR w v L.length (scs L)) (hl:L.length≤1000) (hd:∀x∈L,(Lit.int .i64 x.2.2).wf=true∧x.1.length≤maxLen):
 Calls Tryz.prog 107 #[v,(.func (.func 108) #[] #[])] w fun e w'=>e=.returned (.bool (uniq zlM L))∧Below w.heap.size w w':=by
 obtain⟨a,cap,rfl,-,-⟩:=hs.shape;have HS:=lhd hs;have HD:=lhd (show ∀x∈L,(zbH).dom (zlM x)from hd);have HM0:=lhd (KMap.made zbH w);have HB0:=lhd (show Below w.heap.size w (w.alloc (.map #[] 0))from(Below.refl _ _).alloc (Nat.le_refl _) _);obtain⟨R,hR⟩:∃R,R=uniq zlM L:=⟨_,rfl⟩;rw[←hR];have HR:=lhd hR;clear hs hd hR;have hmm:= @run_makeMap Tryz.prog;go_enter Tryz.func107,Tryz.ntmps107;go_wp2_with fail;clear hmm;go_loopw [11] (fun i wr=>∃k:Nat,k≤L.length∧i=.int .i64 k∧((L.take k).map zlM).Nodup∧KMap zbH wr w.heap.size k (zms ((L.take k).map zlM))∧Below w.heap.size w wr) (fun i _=>L.length-(intOf i).toNat)
 case atStart=>exact⟨0,Nat.zero_le _,rfl,by simp,HM0.out,HB0.out⟩
 case round=>
  obtain⟨k,hk,rfl,hnd,hm,hb⟩:=hrel;have HND:=lhd hnd;have HM:=lhd hm;have HB:=lhd hb;clear hnd hm hb;by_cases hlt:k<L.length
  ·obtain⟨b,o,rfl,hcell⟩:=(HS.out.below HB.out).scs hlt;have HTK:=lhd (show(L.take (k+1)).map zlM=(L.take k).map zlM++ [zlM L[k]]by rw[List.take_succ_eq_append_getElem hlt,List.map_append];rfl);have HDK:=lhd (HD.out L[k] (List.getElem_mem hlt))
   have HNO:=lhd (fun(hin:zlM L[k]∈(L.take k).map zlM)=>(show R=false by
    rw[HR.out,←Bool.not_eq_true,zoc];intro hall;rw[←List.take_append_drop (k+1) L,List.map_append,HTK.out,List.nodup_append]at hall;exact(zh7.1 hall.1).2 hin))
   have HKY:=lhd (fun W=>zeZ L[k] W);generalize hxk:L[k]=x at*;clear hxk;generalize hseen:(L.take k).map zlM=seen at*;clear hseen;obtain⟨kx,hkx⟩:∃kx,zlM x=kx:=⟨_,rfl⟩;have HKV:=lhd (show ∀W,Calls Tryz.prog 108 #[scV x] W fun e w'=>e=.returned (zbI kx)∧Below W.heap.size W w' by rw[←hkx];exact HKY.out);rw[hkx]at HTK HDK HNO;clear HKY hkx
   have HLK:=lhd (fun(W:World) (hW:Below wr.heap.size wr W)=>(show(Instr.lookup 180 (.map (some w.heap.size)) (zbI kx) false).run Tryz.prog W=.ok (.bool (inB seen kx)) W by
    have:=(HM.out.below hW HM.out.lt).look1 (t:=180) Tryz.underlying180 (zqB W) kx HDK.out;rw[zmt]at this;exact this))
   have HIN:=lhd (show ∀b,inB seen kx=b→(b=true→kx∈seen)∧(b=false→kx∉seen)by
    rintro b rfl;exact⟨zfa.1,fun h hm=>by rw[zfa.2 hm]at h;cases h⟩)
   have HMB:=lhd (fun(W:World) (hW:Below wr.heap.size wr W)=>HM.out.below hW HM.out.lt);obtain⟨nm,ty,pa⟩:=x;have d0:wr.cell? ⟨b,o+k*3,none⟩=some (.string (bsB nm)):=hcell 0 _ rfl;have d1:wr.cell? ⟨b,o+k*3+1,none⟩=some (.int .i64 ty):=hcell 1 _ rfl;have d2:wr.cell? ⟨b,o+k*3+2,none⟩=some (.int .i64 pa):=hcell 2 _ rfl;clear hcell;go_wp2_with fail;refine(HKV.out _).mono ?_;rintro e w1 ⟨rfl,hb1⟩;have HX1:=lhd ((zaq.fresh wr #[.string (bsB nm),.int .i64 ty,.int .i64 pa] 84).below hb1 (by simp));have hb2:=zd3 hb1;have hlk:=HLK.out _ hb2;have HB2:=lhd hb2;obtain⟨q0,q1⟩:=HIN.out _ rfl;have QQ:=lhd (And.intro q0 q1);clear hb1 hb2 q0 q1;cases hin:inB seen kx
   ·rw[hin]at hlk QQ;clear hin;have z0:=HX1.out.cell (j:=0) rfl;have z1:=HX1.out.cell (j:=1) rfl;have z2:=HX1.out.cell (j:=2) rfl;have HNI:=lhd (QQ.out.2 rfl);go_wp2_with fail;refine(HKV.out _).mono ?_;rintro e w2 ⟨rfl,hb3⟩;have HB3:=lhd (zd5 HB2.out hb3);have HM3:=lhd (HMB.out _ HB3.out);clear hb3 hlk;go_wp2_with (refine zqm _ rfl _ _ _ 180 rfl 4 Tryz.underlying180 w.heap.size k _ rfl HM3.out (by unfold maxLen;omega) kx (.bool true) rfl rfl HDK.out ?_;intro w3 hm3 hg3)
    have HM4:=lhd (hm3.ext (fun s=>zmu seen kx s));have HB4:=lhd ((HB.out.trans (HB3.out.mono HB.out.size)).grown hg3 (by have:=HB.out.size;have:=HB3.out.size;omega) (fun j ej=>by injection ej with ej;omega));clear hm3 hg3;go_wp2_with fail;go_roundw;case rel=>exact⟨k+1,hlt,by go_num,by rw[HTK.out];exact zh7.2 ⟨HND.out,HNI.out⟩,by rw[HTK.out];exact HM4.out,HB4.out⟩
    case measure=>simp[intOf];omega
   ·rw[hin]at hlk QQ;clear hin;have HRF:=lhd (show R=false from HNO.out (QQ.out.1 rfl));go_wp2_with fail;go_ret;exact⟨zle HRF.out.symm,HB.out.trans (HB2.out.mono HB.out.size)⟩
  ·obtain rfl:k=L.length:=by omega
   have HRT:=lhd (show R=true by
    rw[HR.out,zoc];have:=HND.out;rwa [List.take_of_length_le (Nat.le_refl _)]at this)
   clear hlt;go_wp2_with fail;go_ret;exact⟨zle HRT.out.symm,HB.out⟩
theorem ze2 (v:Value) (L:List Vr) (w:World) (hs:SlR w v L.length (vrs L)) (hl:L.length≤1000) (hd:∀x∈L,((Lit.int .i64 x.sc).wf=true∧x.nm.length≤maxLen)∧(Lit.int .i64 x.mb).wf=true∧(Lit.int .i64 x.lb).wf=true):
 Calls Tryz.prog 109 #[v,(.func (.func 110) #[] #[])] w fun e w'=>e=.returned (.bool (uniq zpk L))∧Below w.heap.size w w':=by
 obtain⟨a,cap,rfl,-,-⟩:=hs.shape;have HS:=lhd hs;have HD:=lhd (show ∀x∈L,(zdT).dom (zpk x)from hd);have HM0:=lhd (KMap.made zdT w);have HB0:=lhd (show Below w.heap.size w (w.alloc (.map #[] 0))from(Below.refl _ _).alloc (Nat.le_refl _) _);obtain⟨R,hR⟩:∃R,R=uniq zpk L:=⟨_,rfl⟩;rw[←hR];have HR:=lhd hR;clear hs hd hR;have hmm:= @run_makeMap Tryz.prog;go_enter Tryz.func109,Tryz.ntmps109;go_wp2_with fail;clear hmm;go_loopw [11] (fun i wr=>∃k:Nat,k≤L.length∧i=.int .i64 k∧((L.take k).map zpk).Nodup∧KMap zdT wr w.heap.size k (zms ((L.take k).map zpk))∧Below w.heap.size w wr) (fun i _=>L.length-(intOf i).toNat)
 case atStart=>exact⟨0,Nat.zero_le _,rfl,by simp,HM0.out,HB0.out⟩
 case round=>
  obtain⟨k,hk,rfl,hnd,hm,hb⟩:=hrel;have HND:=lhd hnd;have HM:=lhd hm;have HB:=lhd hb;clear hnd hm hb;by_cases hlt:k<L.length
  ·obtain⟨b,o,rfl,hcell⟩:=(HS.out.below HB.out).vrs hlt;have HTK:=lhd (show(L.take (k+1)).map zpk=(L.take k).map zpk++ [zpk L[k]]by rw[List.take_succ_eq_append_getElem hlt,List.map_append];rfl);have HDK:=lhd (HD.out L[k] (List.getElem_mem hlt))
   have HNO:=lhd (fun(hin:zpk L[k]∈(L.take k).map zpk)=>(show R=false by
    rw[HR.out,←Bool.not_eq_true,zoc];intro hall;rw[←List.take_append_drop (k+1) L,List.map_append,HTK.out,List.nodup_append]at hall;exact(zh7.1 hall.1).2 hin))
   have HKY:=lhd (fun W=>ze4 L[k] W);generalize hxk:L[k]=x at*;clear hxk;generalize hseen:(L.take k).map zpk=seen at*;clear hseen;obtain⟨kx,hkx⟩:∃kx,zpk x=kx:=⟨_,rfl⟩;have HKV:=lhd (show ∀W,Calls Tryz.prog 110 #[vrV x] W fun e w'=>e=.returned (zdU kx)∧Below W.heap.size W w' by rw[←hkx];exact HKY.out);rw[hkx]at HTK HDK HNO;clear HKY hkx
   have HLK:=lhd (fun(W:World) (hW:Below wr.heap.size wr W)=>(show(Instr.lookup 181 (.map (some w.heap.size)) (zdU kx) false).run Tryz.prog W=.ok (.bool (inB seen kx)) W by
    have:=(HM.out.below hW HM.out.lt).look1 (t:=181) Tryz.underlying181 (zqB W) kx HDK.out;rw[zmt]at this;exact this))
   have HIN:=lhd (show ∀b,inB seen kx=b→(b=true→kx∈seen)∧(b=false→kx∉seen)by
    rintro b rfl;exact⟨zfa.1,fun h hm=>by rw[zfa.2 hm]at h;cases h⟩)
   have HMB:=lhd (fun(W:World) (hW:Below wr.heap.size wr W)=>HM.out.below hW HM.out.lt);obtain⟨nm,ty,sc,sg,rg,mb,lb⟩:=x;have d0:wr.cell? ⟨b,o+k*7,none⟩=some (.string (bsB nm)):=hcell 0 _ rfl;have d1:wr.cell? ⟨b,o+k*7+1,none⟩=some (.int .i64 ty):=hcell 1 _ rfl;have d2:wr.cell? ⟨b,o+k*7+2,none⟩=some (.int .i64 sc):=hcell 2 _ rfl;have d3:wr.cell? ⟨b,o+k*7+3,none⟩=some (.int .i64 sg):=hcell 3 _ rfl;have d4:wr.cell? ⟨b,o+k*7+4,none⟩=some (.bool rg):=hcell 4 _ rfl;have d5:wr.cell? ⟨b,o+k*7+5,none⟩=some (.int .i64 mb):=hcell 5 _ rfl;have d6:wr.cell? ⟨b,o+k*7+6,none⟩=some (.int .i64 lb):=hcell 6 _ rfl;clear hcell;go_wp2_with fail;refine(HKV.out _).mono ?_;rintro e w1 ⟨rfl,hb1⟩;have HX1:=lhd ((zaq.fresh wr #[.string (bsB nm),.int .i64 ty,.int .i64 sc,.int .i64 sg,.bool rg,.int .i64 mb,.int .i64 lb] 48).below hb1 (by simp));have hb2:=zd3 hb1;have hlk:=HLK.out _ hb2;have HB2:=lhd hb2;obtain⟨q0,q1⟩:=HIN.out _ rfl;have QQ:=lhd (And.intro q0 q1);clear hb1 hb2 q0 q1;cases hin:inB seen kx
   ·rw[hin]at hlk QQ;clear hin;have z0:=HX1.out.cell (j:=0) rfl;have z1:=HX1.out.cell (j:=1) rfl;have z2:=HX1.out.cell (j:=2) rfl;have z3:=HX1.out.cell (j:=3) rfl;have z4:=HX1.out.cell (j:=4) rfl;have z5:=HX1.out.cell (j:=5) rfl;have z6:=HX1.out.cell (j:=6) rfl;have HNI:=lhd (QQ.out.2 rfl);go_wp2_with fail;refine(HKV.out _).mono ?_;rintro e w2 ⟨rfl,hb3⟩;have HB3:=lhd (zd5 HB2.out hb3);have HM3:=lhd (HMB.out _ HB3.out);clear hb3 hlk;go_wp2_with (refine zqm _ rfl _ _ _ 181 rfl 4 Tryz.underlying181 w.heap.size k _ rfl HM3.out (by unfold maxLen;omega) kx (.bool true) rfl rfl HDK.out ?_;intro w3 hm3 hg3)
    have HM4:=lhd (hm3.ext (fun s=>zmu seen kx s));have HB4:=lhd ((HB.out.trans (HB3.out.mono HB.out.size)).grown hg3 (by have:=HB.out.size;have:=HB3.out.size;omega) (fun j ej=>by injection ej with ej;omega));clear hm3 hg3;go_wp2_with fail;go_roundw;case rel=>exact⟨k+1,hlt,by go_num,by rw[HTK.out];exact zh7.2 ⟨HND.out,HNI.out⟩,by rw[HTK.out];exact HM4.out,HB4.out⟩
    case measure=>simp[intOf];omega
   ·rw[hin]at hlk QQ;clear hin;have HRF:=lhd (show R=false from HNO.out (QQ.out.1 rfl));go_wp2_with fail;go_ret;exact⟨zle HRF.out.symm,HB.out.trans (HB2.out.mono HB.out.size)⟩
  ·obtain rfl:k=L.length:=by omega
   have HRT:=lhd (show R=true by
    rw[HR.out,zoc];have:=HND.out;rwa [List.take_of_length_le (Nat.le_refl _)]at this)
   clear hlt;go_wp2_with fail;go_ret;exact⟨zle HRT.out.symm,HB.out⟩
end Go.Proofs.YtcdekelomkcahaaGreatDoor
