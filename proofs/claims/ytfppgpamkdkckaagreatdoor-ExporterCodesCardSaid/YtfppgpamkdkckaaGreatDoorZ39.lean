import Derived.Test.YtfppgpamkdkckaaGreatDoorZ00
import Derived.Test.YtfppgpamkdkckaaGreatDoorZ33
import Derived.Test.YtfppgpamkdkckaaGreatDoorZ34
import Derived.Test.YtfppgpamkdkckaaGreatDoorZ37
import Derived.Test.YtfppgpamkdkckaaGreatDoorZ38
set_option maxRecDepth 100000
set_option maxHeartbeats 16000000
namespace Go.Proofs.YtfppgpamkdkckaaGreatDoor
open Go.RowKit Go.WideMaps Go.Shelf
attribute [local go_sem] Oper.semAt_some
set_option linter.unusedSimpArgs false
structure AS (w0:World) (xs:List Rc) (ob:Nat) (v:Value) (W:World):Prop where
 o:W.heap[ob]? =some (.cells #[v] 43 (0,0))
 r:W.ownsRow w0.heap.size 47 4 v xs.length (recs xs)
 b:Below w0.heap.size w0 W
 z:w0.heap.size≤ob
structure KA (W V:World):Prop where
 c:∀(b:Nat) (C:Array Value) (T:TypeId) (fr:Nat×Nat),T≠47→T≠4→W.heap[b]? =some (.cells C T fr)→V.heap[b]? =some (.cells C T fr)
 o:∀(b:Nat) (o:Obj),keepO o=false→W.heap[b]? =some o→V.heap[b]? =some o
 z:W.heap.size≤V.heap.size
theorem KA.below {W V V':World} (h:KA W V) (hb:Below V.heap.size V V'):KA W V':=
 ⟨fun b _ _ _ h1 h2 h3=>(hb.block b (Array.getElem?_eq_some_iff.1 (h.c b _ _ _ h1 h2 h3)).1).trans (h.c b _ _ _ h1 h2 h3),fun b o h1 h2=>(hb.block b (Array.getElem?_eq_some_iff.1 (h.o b o h1 h2)).1).trans (h.o b o h1 h2),Nat.le_trans h.z hb.size⟩
theorem KA.refl (W:World):KA W W:=⟨fun _ _ _ _ _ _ h=>h,fun _ _ _ h=>h,Nat.le_refl _⟩
theorem KA.trans {W V X:World} (h:KA W V) (k:KA V X):KA W X:=⟨fun b _ _ _ h1 h2 h3=>k.c b _ _ _ h1 h2 (h.c b _ _ _ h1 h2 h3),fun b o h1 h2=>k.o b o h1 (h.o b o h1 h2),Nat.le_trans h.z k.z⟩
theorem KA.turn {B N:Nat} {W V V':World} (h:KA W V) (hN:W.heap.size≤N) (t:TurnL B 4 N V V'):KA W V':=
 ⟨fun b _ _ _ h1 h2 h3=>t.i.cells b _ _ _ h2 (h.c b _ _ _ h1 h2 h3),fun b o h1 h2=>t.low b o (Nat.lt_of_lt_of_le (Array.getElem?_eq_some_iff.1 h2).1 hN) h1 (h.o b o h1 h2),Nat.le_trans h.z t.i.size⟩
theorem KA.putObj {W V:World} {l:Nat} (h:KA W V) (hl:W.heap.size≤l) (o':Obj):KA W (V.putObj l o'):=
 ⟨fun b _ _ _ h1 h2 h3=>(World.putObj_heap_other (Nat.ne_of_lt (Nat.lt_of_lt_of_le (Array.getElem?_eq_some_iff.1 h3).1 hl))).trans (h.c b _ _ _ h1 h2 h3),fun b o h1 h2=>(World.putObj_heap_other (Nat.ne_of_lt (Nat.lt_of_lt_of_le (Array.getElem?_eq_some_iff.1 h2).1 hl))).trans (h.o b o h1 h2),by simpa[World.putObj] using h.z⟩
section
variable {w0 W V : World} {xs : List Rc} {ob : Nat} {v : Value}
theorem AS.turn (h:AS w0 xs ob v W) (ht:TurnI w0.heap.size 4 W V):AS w0 xs ob v V:=
 ⟨ht.cells _ _ _ _ (by decide) h.o,zlH h.r ht (by decide),h.b.trans ⟨ht.os,ht.tape,ht.output,ht.size,fun b hb=>ht.low b hb⟩,h.z⟩
theorem AS.below (h:AS w0 xs ob v W) (hb:Below W.heap.size W V):AS w0 xs ob v V:=
 ⟨(Same0.of_below hb).cells _ _ _ _ h.o,zlD h.r (Same0.of_below hb),h.b.trans (hb.mono h.b.size),h.z⟩
theorem AS.ne (h:AS w0 xs ob v W):v.ownBlock≠some ob:=fun q=>by
 rcases h.r.2 with⟨rfl,-⟩|⟨g,cap,cur,rfl,-,hgb,-⟩
 ·cases q
 ·injection q with q;subst q;have hi:=h.o;rw[hgb]at hi;injection hi with hi;injection hi with _ h5 _;exact absurd h5 (by decide)
theorem AS.keepO (h:AS w0 xs ob v W) (hg:W.grownBy V v.ownBlock):V.heap[ob]? =some (.cells #[v] 43 (0,0)):=
 (hg.block ob (Array.getElem?_eq_some_iff.1 h.o).1 (fun q=>h.ne q.symm)).trans h.o
theorem AS.add {v':Value} {r:Rc} (h:AS w0 xs ob v W) (ho:V.ownsRow w0.heap.size 47 4 v' (xs.length+1) (recs xs++recC r)) (hg:W.grownBy V v.ownBlock):AS w0 (xs++ [r]) ob v' (V.setCell ⟨ob,0,none⟩ v'):=by
 have hk:=h.keepO hg;have hbv:Below w0.heap.size w0 V:=h.b.grown hg h.b.size (fun j hj=>(h.r.lt j hj).1);refine⟨zoB hk,?_,hbv.setCell (p:=⟨ob,0,none⟩) h.z v',h.z⟩;rw[List.length_append,zm9];refine ownsRow_setCell_other (a:=⟨ob,0,none⟩) ho (fun q=>?_) v';rcases ho.2 with⟨rfl,-⟩|⟨g,cap,cur,rfl,-,hgb,-⟩
 ·cases q
 ·injection q with q;rw[show g=ob from q]at hgb;rw[hk]at hgb;injection hgb with hgb;injection hgb with _ h5 _;exact absurd h5 (by decide)
theorem AS.others {v':Value} (h:AS w0 xs ob v W) (hg:W.grownBy V v.ownBlock):KeepsOthers W (V.setCell ⟨ob,0,none⟩ v'):=by
 refine(KeepsOthers.of_grownBy hg fun j o ej hj=>?_).trans (KeepsOthers.setCell _ _ _);rcases h.r.2 with⟨rfl,_⟩|⟨g,cap,cur,rfl,_,hgb,_⟩
 ·simp[Value.ownBlock]at ej
 ·obtain rfl:g=j:=by simpa[Value.ownBlock] using ej
  rw[hgb]at hj;cases hj;rfl
theorem AS.ka {v':Value} {X:World} (h:AS w0 xs ob v W) (hg:W.grownBy V v.ownBlock) (k:KA X W) (hX:X.heap.size≤ob):KA X (V.setCell ⟨ob,0,none⟩ v'):=by
 have hne:∀(b:Nat) (o:Obj),W.heap[b]? =some o→(∀C fr,o≠ .cells C 47 fr)→V.heap[b]? =some o:=fun b o hb ho=>by
  refine(hg.block b (Array.getElem?_eq_some_iff.1 hb).1 (fun q=>?_)).trans hb;rcases h.r.2 with⟨rfl,-⟩|⟨g,cap,cur,rfl,-,hgb,-⟩
  ·cases q
  ·injection q with q;subst q;rw[hb]at hgb;injection hgb with hgb;exact ho _ _ hgb
 refine⟨fun b C T fr h1 h2 hb=>?_,fun b o h1 hb=>?_,by have:=hg.size;have:=k.z;simp;omega⟩
 ·rw[Below.heap_setCell _ _ _ _ (Nat.ne_of_lt (Nat.lt_of_lt_of_le (Array.getElem?_eq_some_iff.1 hb).1 hX))];exact hne b _ (k.c b _ _ _ h1 h2 hb) (fun _ _ e=>by injection e with _ e _;exact h1 e)
 ·rw[Below.heap_setCell _ _ _ _ (Nat.ne_of_lt (Nat.lt_of_lt_of_le (Array.getElem?_eq_some_iff.1 hb).1 hX))];exact hne b _ (k.o b _ h1 hb) (fun _ _ e=>by subst e;cases h1)
theorem AS.kq {v':Value} (h:AS w0 xs ob v W) (hg:W.grownBy V v.ownBlock):Kq w0.heap.size W (V.setCell ⟨ob,0,none⟩ v'):=by
 have hk:=h.keepO hg
 have hne:∀(b:Nat) (o:Obj),W.heap[b]? =some o→(∀C fr,o≠ .cells C 47 fr)→V.heap[b]? =some o:=fun b o hb ho=>by
  refine(hg.block b (Array.getElem?_eq_some_iff.1 hb).1 (fun q=>?_)).trans hb;rcases h.r.2 with⟨rfl,-⟩|⟨g,cap,cur,rfl,-,hgb,-⟩
  ·cases q
  ·injection q with q;subst q;rw[hb]at hgb;injection hgb with hgb;exact ho _ _ hgb
 have hsc:∀(b:Nat) (o:Obj),V.heap[b]? =some o→(∀C fr,o≠ .cells C 43 fr)→(V.setCell ⟨ob,0,none⟩ v').heap[b]? =some o:=fun b o hb ho=>by
  have hbo:b≠ob:=fun e=>by
   subst e;rw[hk]at hb;injection hb with hb;exact ho _ _ hb.symm
  rw[Below.heap_setCell _ _ _ _ hbo];exact hb
 refine⟨((Below.refl _ W).grown hg h.b.size (fun j hj=>(h.r.lt j hj).1)).setCell (p:=⟨ob,0,none⟩) h.z v',fun b C T fr h1 h2 hb=>?_,fun b o h1 _ hb=>?_⟩
 ·exact hsc b _ (hne b _ hb (fun _ _ e=>by injection e with _ e _;exact h1 e)) (fun _ _ e=>by injection e with _ e _;exact h2 e)
 ·exact hsc b _ (hne b _ hb (fun _ _ e=>by subst e;cases h1)) (fun _ _ e=>by subst e;cases h1)
end
theorem ze3 (t:Tr) (M:List (Sg×Value)) (x:Int) (a1 a2 a3 a4:Option Addr) (k1 k2 k3 k4:Nat) (tb xb:Nat) (w0 W:World) (xs:List Rc) (vo:Value)
 (hG:Glob w0) (hsg:Sigs w0 (.slice a3 t.G.length k3) M) (hM:M.map Prod.fst=t.G) (hgp:SlR w0 (.slice a4 t.P.length k4) t.P.length (gps t.P)) (hF:∀s∈t.G,Fit s.2.2) (hl:t.G.length≤1000) (hx:0≤x∧x≤1099511627776)
 (htb:W.heap[tb]? =some (.cells (boxT t a1 a2 a3 a4 k1 k2 k3 k4) 32 (0,0))) (hxb:W.heap[xb]? =some (.cells #[.int .i64 x] 3 (0,0))) (hbW:Below w0.heap.size w0 W)
 (hr:W.ownsRow w0.heap.size 47 4 vo xs.length (recs xs)) (hn:xs.length+(momE t x).length≤1000000000):
 Calls Tryz.prog 35 #[vo,.func (.func 81) #[] #[.pointer (some ⟨tb,0,none⟩),.pointer (some ⟨xb,0,none⟩)]] W
  fun e W'=>∃v',e=.returned v'∧W'.ownsRow w0.heap.size 47 4 v' (xs++momE t x).length (recs (xs++momE t x))∧Below w0.heap.size w0 W'∧KA W W':=by
 obtain⟨i0,hi0,iz0,iz1,iz2⟩:=info_parts (P:=Tryz.prog) zm0;obtain⟨va,vc,rfl,-,-⟩:=(SlR.of_own hr).shape;obtain⟨L,hL⟩:∃L,L=momE t x:=⟨_,rfl⟩;rw[←hL]at hn⊢;have hal:Below W.heap.size W (W.alloc (.cells #[.slice va xs.length vc] 43)):=(Below.refl _ _).alloc (Nat.le_refl _) _;have H0:=lhd (show AS w0 xs W.heap.size (.slice va xs.length vc) (W.alloc (.cells #[.slice va xs.length vc] 43))from⟨heap_alloc_new _ _,zlD hr (Same0.of_below hal),hbW.trans (hal.mono hbW.size),hbW.size⟩);have HAL:=lhd hal;have HTB:=lhd ((Same0.of_below hal).cells _ _ _ _ htb);have HXB:=lhd ((Same0.of_below hal).cells _ _ _ _ hxb);have HLL:=lhd hL;have HIT:=lhd (fun(n:Nat) (hn:2≤n) (lp:Nat) (V:World) (J:Nat→World→Prop)=>ze7 n hn t M x a1 a2 a3 a4 k1 k2 k3 k4 tb xb lp w0 V J hG hsg hM hgp hF hl hx);rw[←hL]at HIT;have HKA:=lhd ((KA.refl W).below hal);clear hG hsg hM hgp hF hl hx htb hxb hr hL hbW hal;refine(callsIn_wide (n:=6)).1 ?_;refine callsIn_of_wp_marks Tryz.func35 rfl trivial ?_ rfl;refine wpIn_wide.2 ?_;simp only[Tryz.ntmps35,List.size_toArray,List.length_cons,List.length_nil,Nat.reduceAdd,Nat.reduceSub,Array.replicate_succ,Array.replicate_zero,List.push_toArray,List.append_toArray,List.nil_append,List.cons_append];go_wp2_with fail;have hWz:=HAL.out.size;generalize W.alloc (.cells #[.slice va xs.length vc] 43)=W1 at*;refine(wpIn_wide (n:=6)).1 ?_;obtain⟨ob,hob⟩:∃b,b=W.heap.size:=⟨_,rfl⟩;rw[←hob]at H0⊢;have HOB:=lhd (Nat.le_of_eq hob.symm);clear hob
 refine zmV rfl (by decide) (gf:=81) (lb:=#[.pointer (some ⟨tb,0,none⟩),.pointer (some ⟨xb,0,none⟩)]) rfl trivial (enters_of Tryz.func81 (by kernel_rfl) rfl)
  (encs:=encR L) (Kp:=Kq w0.heap.size) (N:=L.length) (T:=4) (B0:=w0.heap.size) H0.out.b.size
  (fun l J V hW hJ hY h0=>?iter)
  Kq.trans (fun _ _ h=>Kq.same1 h H0.out.b.size) (fun _=>rfl)
  (fun k V=>∃v,AS w0 (xs++L.take k) ob v V∧KA W V) (fun k V V' ⟨v,h,h2⟩ ht=>⟨v,h.turn ht.i,h2.turn hWz ht⟩) ⟨_,by simpa using H0.out,HKA.out⟩ ?round ?done
 case iter=>
  exact callsIn_wide.2 (HIT.out (6-1) (by decide) l V J ((Same0.of_below hW).cells _ _ _ _ HTB.out) ((Same0.of_below hW).cells _ _ _ _ HXB.out) (H0.out.b.trans (hW.mono H0.out.b.size)) hJ hY h0)
 case done=>
  rintro D V hD ⟨v,h,hka⟩ hDd;have HI:=lhd h;have co:=(zkV h.o).1;have HDD:=lhd hDd;have HK:=lhd hka;clear h hDd hka;go_wp2_with fail;refine⟨by simp,.inl ⟨_,_,rfl,run_takeDeferred HDD.out,?_⟩⟩;have r1:=ownsRow_putObj HI.out.r (.deferred none) HDD.out rfl;rw[List.take_length]at r1;refine⟨v,by simp[results,Tryz.results35,go_sem],v,rfl,r1,HI.out.b.trans (belowK_b (w:=W1) H0.out.b.size _ D _ _ hD HDD.out rfl rfl),HK.out.putObj (Nat.le_trans hWz hD) _⟩
 case round=>
  intro l k V hlW ⟨v,h,hka⟩ hk;obtain⟨r,hrr⟩:∃r,r=L[k]:=⟨_,rfl⟩
  have HEN:=lhd (show encR L k=#[rcV r]by
   unfold encR;rw[List.getD,List.getElem?_eq_getElem hk,←hrr];rfl)
  have HTK:=lhd (show xs++L.take (k+1)=(xs++L.take k)++ [r]by rw[List.take_succ_eq_append_getElem hk,←hrr,List.append_assoc]);have hlen:(xs++L.take k).length=xs.length+k:=by rw[List.length_append,List.length_take];omega
  rw[HEN.out];unfold rcV;have HI:=lhd h;have hbz:=h.b.size;have hal:Below V.heap.size V (V.alloc (.cells #[.int .i64 r.1,.int .i64 r.2.1,.string (bsB r.2.2.1),.string (bsB r.2.2.2)] 47)):=(Below.refl _ _).alloc (Nat.le_refl _) _;have HAV:=lhd hal;have HNB:=lhd (heap_alloc_new V (.cells #[.int .i64 r.1,.int .i64 r.2.1,.string (bsB r.2.2.1),.string (bsB r.2.2.2)] 47));have HK:=lhd (hka.below hal);clear h hka hrr HEN hal HIT;gi_wp2
  refine⟨zhT ((KeepsOthers.alloc V _).from _),Kq.below HAV.out hbz,?_⟩;intro W2 hs1 ht1;have H2:=lhd ((HI.out.below HAV.out).turn ht1.i);have HK2:=lhd (HK.out.turn hWz ht1);have HN2:=lhd (hs1.keep _ _ rfl HNB.out);clear hs1 ht1;have co:=(zkV H2.out.o).1;have c0:W2.cell? ⟨V.heap.size,0,none⟩=some (.int .i64 r.1):=by rw[Lib.cell_of_heap HN2.out];rfl
  have c1:W2.cell? ⟨V.heap.size,1,none⟩=some (.int .i64 r.2.1):=by rw[Lib.cell_of_heap HN2.out];rfl
  have c2:W2.cell? ⟨V.heap.size,2,none⟩=some (.string (bsB r.2.2.1)):=by rw[Lib.cell_of_heap HN2.out];rfl
  have c3:W2.cell? ⟨V.heap.size,3,none⟩=some (.string (bsB r.2.2.2)):=by rw[Lib.cell_of_heap HN2.out];rfl
  obtain⟨ua,uc,rfl,-,-⟩:=(SlR.of_own H2.out.r).shape;have hb3:Below W2.heap.size W2 (W2.alloc (.cells #[.int .i64 r.1,.int .i64 r.2.1,.string (bsB r.2.2.1),.string (bsB r.2.2.2)] 47)):=(Below.refl _ _).alloc (Nat.le_refl _) _;have H3:=lhd (H2.out.below hb3);have HB3:=lhd hb3;have HK3:=lhd (HK2.out.below hb3);have HC3:=lhd (World.news_of_block (w:=W2.alloc (.cells #[.int .i64 r.1,.int .i64 r.2.1,.string (bsB r.2.2.1),.string (bsB r.2.2.2)] 47)) (cs:=#[.int .i64 r.1,.int .i64 r.2.1,.string (bsB r.2.2.1),.string (bsB r.2.2.2)]) (t:=47) (fr:=(0,0)) (by exact heap_alloc_new _ _));have hbz2:=H2.out.b.size;rw[hlen]at co H2 H3;clear hb3 HN2 HAV HNB;gi_wp2_with (gi_at_builtin;refine wpListIn_append_own _ rfl _ _ 43 rfl w0.heap.size 47 i0 (.agg #[.int .i64 0,.int .i64 0,.string ⟨#[]⟩,.string ⟨#[]⟩]) 4 48 Tryz.underlying43 hi0 iz0 iz1 iz2 rfl (by decide) _ _ _ rfl (by have:=H3.out.r;rw[hlen]at this;exact this) ⟨W2.heap.size,0,none⟩ 1 1 [.int .i64 r.1,.int .i64 r.2.1,.string (bsB r.2.2.1),.string (bsB r.2.2.2)] rfl rfl HC3.out (by simp[Value.oneCell']) (by unfold maxLen;omega) (by omega) (by simp;omega) ?_;rintro v' w6 ho6 hg6-;obtain⟨g6,cap6,rfl⟩:=zlG ho6;have HO6:=lhd ho6;have HG6:=lhd hg6;obtain⟨co6,fo6⟩:=zkV (H3.out.keepO hg6);clear ho6 hg6)
  refine⟨zhT (((KeepsOthers.alloc W2 _).trans (H3.out.others HG6.out)).from _),(Kq.below HB3.out hbz2).trans (H3.out.kq HG6.out),⟨.slice (some ⟨g6,0,none⟩) (xs.length+k+1) cap6,?_⟩,H3.out.ka HG6.out HK3.out HOB.out⟩;rw[HTK.out];exact H3.out.add (r:=r) (by have:=HO6.out;rw[hlen];exact this) HG6.out
open Go.RowKit Go.WideMaps Go.Shelf
attribute [local go_sem] Oper.semAt_some
set_option linter.unusedSimpArgs false
theorem zrH {f:Nat→Sg→List Rc} (hf:∀n s,(f n s).length≤1) (G:List Sg):∀k,(upX f G k).length≤k
 |0=>Nat.le_refl _
 |k+1=>by
  have:=zrH hf G k;have h2:=hf k (G.getD k (0,0,[]));unfold upX at this⊢;rw[List.range_succ,List.flatMap_append,List.flatMap_cons,List.flatMap_nil,List.append_nil,List.length_append];omega
theorem ziV (t:Tr) (x:Int):(momE t x).length≤4+3*t.G.length:=by
 have h1:=zrH (f:=p1E (inP t.P x)) (fun n s=>by unfold p1E;split<;>(try split)<;>simp) t.G t.G.length;have h2:=zrH (f:=p2E x) (fun n s=>by unfold p2E;split<;>simp) t.G t.G.length;have h3:=zrH (f:=p3E x (decide (x=0)) (onE t.P x) (inP t.P x)) (fun n s=>by unfold p3E;split<;>(try split)<;>simp) t.G t.G.length;unfold momE;rw[List.length_cons,List.length_append,List.length_append,List.length_append];have a1:(if x=0 then(4,0,[],[])::upX (p1E (inP t.P x)) t.G t.G.length else []).length≤1+t.G.length:=by split<;>simp;omega
 have a2:(if onE t.P x=true then(3,0,[],[])::upX (p2E x) t.G t.G.length else []).length≤1+t.G.length:=by split<;>simp;omega
 have a3:(if offE t.P x=true then [((2:Int),(0:Int),([]:Bs),([]:Bs))]else []).length≤1:=by split<;>simp
 omega
theorem ziU {t:Tr}:∀l:List Int,(l.flatMap (momE t)).length≤l.length*(4+3*t.G.length)
 | []=>by simp
 |x::l=>by
  have h1:=ziV t x;have h2:=ziU (t:=t) l;rw[List.flatMap_cons,List.length_append,List.length_cons,Nat.succ_mul];omega
theorem zqA (t:Tr):(zqz t).length≤zdp t.G+2+2*t.P.length:=by
 unfold zqz;refine Nat.le_trans (Lib.compact_length_le _) ?_;rw[List.length_mergeSort];unfold zqJ;have h1:=zqF t.G;have h2:=zfZ t.en t.P;rw[List.length_append,List.length_append];simp only[List.length_cons,List.length_nil];omega
theorem zdf (t:Tr) (x:Int) (a1 a2 a3 a4:Option Addr) (k1 k2 k3 k4:Nat) (w:World):Calls Tryz.prog 36 #[.agg (boxT t a1 a2 a3 a4 k1 k2 k3 k4),.int .i64 x] w
 fun e W'=>e=.returned (.func (.func 81) #[] #[.pointer (some ⟨w.heap.size,0,none⟩),.pointer (some ⟨w.heap.size+1,0,none⟩)])∧W'=(w.alloc (.cells (boxT t a1 a2 a3 a4 k1 k2 k3 k4) 32)).alloc (.cells #[.int .i64 x] 3):=by
 go_enter Tryz.func36,Tryz.ntmps36;go_wp2_with fail;go_ret;exact⟨rfl,rfl⟩
theorem zlJ {W:World} {B e size:Nat}:W.ownsRow B e size (.slice none 0 0) 0 []:=⟨by simp,.inl ⟨rfl,rfl⟩⟩
structure RS (w0:World) (t:Tr) (xs:List Rc) (C:Array Value) (tb ob:Nat) (v:Value) (W:World):Prop where
 a:AS w0 xs ob v W
 t:W.heap[tb]? =some (.cells C 32 (0,0))
theorem RS.turn {w0 W V:World} {t:Tr} {xs:List Rc} {C:Array Value} {tb ob:Nat} {v:Value} (h:RS w0 t xs C tb ob v W) (ht:TurnI w0.heap.size 4 W V):RS w0 t xs C tb ob v V:=
 ⟨h.a.turn ht,ht.cells _ _ _ _ (by decide) h.t⟩
theorem RS.below {w0 W V:World} {t:Tr} {xs:List Rc} {C:Array Value} {tb ob:Nat} {v:Value} (h:RS w0 t xs C tb ob v W) (hb:Below W.heap.size W V):RS w0 t xs C tb ob v V:=
 ⟨h.a.below hb,(Same0.of_below hb).cells _ _ _ _ h.t⟩
theorem RS.next {w0 W V:World} {t:Tr} {xs ys:List Rc} {C:Array Value} {tb ob:Nat} {v v':Value} (h:RS w0 t xs C tb ob v W) (hk:KA W V) (ho:V.ownsRow w0.heap.size 47 4 v' ys.length (recs ys)) (hb:Below w0.heap.size w0 V):RS w0 t ys C tb ob v' (V.setCell ⟨ob,0,none⟩ v'):=by
 have h1:=hk.c _ _ _ _ (by decide) (by decide) h.a.o;have h2:=hk.c _ _ _ _ (by decide) (by decide) h.t;refine⟨⟨zoB h1,?_,hb.setCell (p:=⟨ob,0,none⟩) h.a.z v',h.a.z⟩,?_⟩
 ·refine ownsRow_setCell_other (a:=⟨ob,0,none⟩) ho (fun q=>?_) v';rcases ho.2 with⟨rfl,-⟩|⟨g,cap,cur,rfl,-,hgb,-⟩
  ·cases q
  ·injection q with q;rw[show g=ob from q]at hgb;rw[h1]at hgb;injection hgb with hgb;injection hgb with _ h5 _;exact absurd h5 (by decide)
 ·rw[Below.heap_setCell _ _ _ _ (fun e=>by
   subst e;rw[h1]at h2;injection h2 with h2;injection h2 with _ h5 _;exact absurd h5 (by decide))]
  exact h2
theorem zoC {W V:World} {ob:Nat} {v v':Value} (hk:KA W V) (hb:W.heap.size≤V.heap.size) (h:W.heap[ob]? =some (.cells #[v] 43 (0,0))):Kv W (V.setCell ⟨ob,0,none⟩ v')∧∀N,zag N W (V.setCell ⟨ob,0,none⟩ v'):=by
 have h1:=hk.c _ _ _ _ (by decide) (by decide) h;refine⟨⟨by simpa using hb,fun b C fr h2=>?_⟩,fun N b o _ h2 h3=>?_⟩
 ·have h4:=hk.c _ _ _ _ (by decide) (by decide) h2
  rw[Below.heap_setCell _ _ _ _ (fun e=>by
   subst e;rw[h1]at h4;injection h4 with h4;injection h4 with _ h5 _;exact absurd h5 (by decide))]
  exact h4
 ·have h4:=hk.o _ _ h2 h3
  rw[Below.heap_setCell _ _ _ _ (fun e=>by
   subst e;rw[h1]at h4;injection h4 with h4;subst h4;cases h2)]
  exact h4
def zm3 (t:Tr):List Rc:=if zsv t=true then zm1 t else []
theorem ze2 (t:Tr) (p:TP) (w:World) (ht:TrM w t p) (hv:VF t) (hG:Glob w) (hM:Glm w):
 Calls Tryz.prog 20 #[p.v t] w fun e W'=>∃v,e=.returned v∧W'.ownsRow w.heap.size 47 4 v (zm3 t).length (recs (zm3 t))∧Below w.heap.size w W':=by
 obtain⟨a1,k1,a2,k2,a3,k3,a4,k4,e,-,-,e3,e4,-,-⟩:=ht.open;have hal:Below w.heap.size w (w.alloc (.cells (boxT t a1 a2 a3 a4 k1 k2 k3 k4) 32)):=(Below.refl _ _).alloc (Nat.le_refl _) _;have HV:=lhd (zqZ t p _ (ht.below hal) hv.fb (hG.below hal) (hM.below hal) hv.sg);have HTI:=lhd (fun(W:World) (hb:Below w.heap.size w W)=>ze8 t p W (ht.below hb) hv);have hsg:=ht.g;have hgp:=ht.q;rw[e3,ht.len]at hsg;rw[e4]at hgp;rw[e]at HV HTI⊢;have HGP:=lhd hgp;have HSG:=lhd hsg;have HMM:=lhd ht.m;have HVF:=lhd hv;have HGB:=lhd hG;have HAL:=lhd hal;have HTB:=lhd (heap_alloc_new w (.cells (boxT t a1 a2 a3 a4 k1 k2 k3 k4) 32));clear ht hv hG hM hal e e3 e4 hsg hgp;obtain⟨R,hR⟩:∃R,R=zm3 t:=⟨_,rfl⟩;rw[←hR];refine(callsIn_wide (n:=6)).1 ?_;refine callsIn_of_wp_marks Tryz.func20 rfl trivial ?_ rfl;refine wpIn_wide.2 ?_;simp only[Tryz.ntmps20,List.size_toArray,List.length_cons,List.length_nil,Nat.reduceAdd,Nat.reduceSub,Array.replicate_succ,Array.replicate_zero,List.push_toArray,List.append_toArray,List.nil_append,List.cons_append];go_upto_region 1 with fail;have HZ1:=lhd (show w.heap.size<(w.alloc (.cells (boxT t a1 a2 a3 a4 k1 k2 k3 k4) 32)).heap.size by simp);generalize w.alloc (.cells (boxT t a1 a2 a3 a4 k1 k2 k3 k4) 32)=w1 at*
 have HSV:=lhd (show ∀V:World,V.heap[w.heap.size]? =some (.cells (boxT t a1 a2 a3 a4 k1 k2 k3 k4) 32 (0,0))→(V.cell? ⟨w.heap.size,0,none⟩=some (.int .i64 t.sc)∧V.cell? ⟨w.heap.size,1,none⟩=some (.string (bsB t.dt))∧V.cell? ⟨w.heap.size,2,none⟩=some (.string (bsB t.vn))∧V.cell? ⟨w.heap.size,3,none⟩=some (.string (bsB t.cm))∧V.cell? ⟨w.heap.size,4,none⟩=some (.slice a1 t.S.length k1)∧V.cell? ⟨w.heap.size,5,none⟩=some (.slice a2 t.V.length k2)∧V.cell? ⟨w.heap.size,6,none⟩=some (.slice a3 t.G.length k3)∧V.cell? ⟨w.heap.size,7,none⟩=some (.slice a4 t.P.length k4)∧V.cell? ⟨w.heap.size,8,none⟩=some (.int .i64 t.en))from fun V hx=>by
  refine⟨?_,?_,?_,?_,?_,?_,?_,?_,?_⟩<;>(rw[Lib.cell_of_heap hx];rfl))
 obtain⟨c0,c1,c2,c3,c4,c5,c6,c7,c8⟩:=HSV.out _ HTB.out;go_wp2_with fail;refine HV.out.mono ?_;rintro e w2 ⟨rfl,hb2⟩;have HB2:=lhd hb2;clear c0 c1 c2 c3 c4 c5 c6 c7 c8 hb2;by_cases hvb:zsv t=true
 ·rw[hvb];have HRE:=lhd (show R=zm1 t by rw[hR];unfold zm3;rw[if_pos hvb]);clear hR;have hT:=zsy ((zsw (t:=t)).1 hvb);have HT:=lhd hT;have hx3:=HB2.out.alloc HB2.out.size (.cells #[.slice none 0 0] 43);have HX3:=lhd hx3;have HOB:=lhd (heap_alloc_new w2 (.cells #[.slice none 0 0] 43));have HT3:=lhd ((hx3.block _ HZ1.out).trans HTB.out);obtain⟨c0,c1,c2,c3,c4,c5,c6,c7,c8⟩:=HSV.out _ HT3.out;have HZ2:=lhd HB2.out.size;clear hx3 hT hvb;go_wp2_with fail;have hz3:=World.size_alloc w2 (.cells #[.slice none 0 0] 43);generalize w2.alloc (.cells #[.slice none 0 0] 43)=w3 at*;refine(HTI.out w3 (HAL.out.trans (HX3.out.mono HAL.out.size))).mono ?_;rintro e w4 ⟨vb,v,rfl,hvz,hbv,hov,hb4⟩;obtain⟨ob,hob⟩:∃b,b=w2.heap.size:=⟨_,rfl⟩;rw[←hob]at HOB HZ2⊢;have hoz:ob<w3.heap.size:=by omega
  have HB4:=lhd ((HAL.out.trans (HX3.out.mono HAL.out.size)).trans (hb4.mono (by have:=HZ1.out;have:=HZ2.out;omega)));have HR0:=lhd (show RS w t [] (boxT t a1 a2 a3 a4 k1 k2 k3 k4) w.heap.size ob (.slice none 0 0) w4 from⟨⟨(hb4.block _ hoz).trans HOB.out,zlJ,HB4.out,by have:=HZ1.out;have:=HZ2.out;omega⟩,(hb4.block _ (by have:=HZ1.out;have:=HZ2.out;omega)).trans HT3.out⟩);have HVB:=lhd hbv;have HOV:=lhd hov;have HVZ:=lhd hvz;clear hbv hov hvz hb4 c0 c1 c2 c3 c4 c5 c6 c7 c8 HTI HV hob hoz hz3;go_wp2_with fail;refine(wpIn_wide (n:=6)).1 ?_
  refine zmV rfl (by decide) (gf:=146) (lb:=#[.pointer (some ⟨vb,0,none⟩)]) rfl trivial (enters_of Tryz.func146 (by kernel_rfl) rfl)
   (encs:=intE (zqz t)) (Kp:=Kv) (N:=(zqz t).length) (T:=4) (B0:=w.heap.size) HB4.out.size
   (fun l J V hW hJ hY h0=>?iter)
   Kv.trans (fun _ _ h=>⟨h.b.size,fun b C fr hb=>h.keep b _ rfl hb⟩) (fun _=>rfl)
   (fun k V=>∃v,RS w t (((zqz t).take k).flatMap (momE t)) (boxT t a1 a2 a3 a4 k1 k2 k3 k4) w.heap.size ob v V) (fun k V V' ⟨v,h⟩ ht=>⟨v,h.turn ht.i⟩) ⟨_,by simpa using HR0.out⟩ ?round ?done
  case iter=>
   exact zsI (6-1) (by decide) l vb _ (zqz t) v V J (by have:=zqA t;have h1:=HVF.out.ct;have h2:=HVF.out.fb.p;omega) (zlD HOV.out (Same0.of_below hW)) ((Same0.of_below hW).cells _ _ _ _ HVB.out) hY h0
  case done=>
   rintro D V hD ⟨v,h⟩ hDd;have HI:=lhd h;have co:=(zkV h.a.o).1;have HDD:=lhd hDd;clear h hDd;go_wp2_with fail;refine⟨by simp,.inl ⟨_,_,rfl,run_takeDeferred HDD.out,?_⟩⟩;have r1:=ownsRow_putObj HI.out.a.r (.deferred none) HDD.out rfl;rw[List.take_length]at r1;refine⟨v,by simp[results,Tryz.results20,go_sem],v,rfl,?_⟩;rw[HRE.out];exact⟨r1,HI.out.a.b.trans (belowK_b (w:=w4) HB4.out.size _ D _ _ hD HDD.out rfl rfl)⟩
  case round=>
   intro l k V hlW ⟨v,h⟩ hk
   have HEN:=lhd (show intE (zqz t) k=#[.int .i64 (zqz t)[k]]by
    unfold intE;rw[List.getD,List.getElem?_eq_getElem hk];rfl)
   have HTK:=lhd (show((zqz t).take (k+1)).flatMap (momE t)=((zqz t).take k).flatMap (momE t)++momE t (zqz t)[k]by
    rw[List.take_succ_eq_append_getElem hk,List.flatMap_append,List.flatMap_cons,List.flatMap_nil,List.append_nil])
   have HXR:=lhd (zqN HT.out _ (List.getElem_mem hk));have HLN:=lhd (ziU (t:=t) ((zqz t).take k));have HMN:=lhd (ziV t (zqz t)[k]);rw[HEN.out];generalize (zqz t)[k]=x at*;generalize ((zqz t).take k).flatMap (momE t)=xs at*;have HI:=lhd h;have hbz:=h.a.b.size;clear h HEN;gi_wp2
   refine⟨fun _ _ _ _ h=>h,⟨Nat.le_refl _,fun _ _ _ h=>h⟩,?_⟩;intro W2 hs1 ht1;have hdr:Below W2.heap.size W2 W2.drew:=(Below.refl _ _).drew;have HD:=lhd hdr;have H2:=lhd ((HI.out.turn ht1.i).below hdr);clear hs1 ht1 hdr;refine wpIn_block ?_;refine wpIn_mono (Q:=fun e _ W'=>e=.normal∧∃v',RS w t (xs++momE t x) (boxT t a1 a2 a3 a4 k1 k2 k3 k4) w.heap.size ob v' W'∧Kv W2.drew W'∧∀N,zag N W2.drew W') ?_ ?_;rotate_left
   ·rintro e a' W' ⟨rfl,v',h1,h2,h3⟩;exact⟨rfl,h3 _,h2,v',by rw[HTK.out];exact h1⟩
   refine wpIn_region_any (by kernel_rfl) ?_;refine zaP (zjF (by kernel_rfl)) ?_ _ _ _ _ ?_
   ·rintro⟨a0,w0,h0,-⟩;cases h0
   have co:=(zkV H2.out.a.o).1;have cx:=HSV.out _ H2.out.t;refine ztN (S:=fun V=>V.cell? ⟨ob,0,none⟩=some v∧(V.cell? ⟨w.heap.size,0,none⟩=some (.int .i64 t.sc)∧V.cell? ⟨w.heap.size,1,none⟩=some (.string (bsB t.dt))∧V.cell? ⟨w.heap.size,2,none⟩=some (.string (bsB t.vn))∧V.cell? ⟨w.heap.size,3,none⟩=some (.string (bsB t.cm))∧V.cell? ⟨w.heap.size,4,none⟩=some (.slice a1 t.S.length k1)∧V.cell? ⟨w.heap.size,5,none⟩=some (.slice a2 t.V.length k2)∧V.cell? ⟨w.heap.size,6,none⟩=some (.slice a3 t.G.length k3)∧V.cell? ⟨w.heap.size,7,none⟩=some (.slice a4 t.P.length k4)∧V.cell? ⟨w.heap.size,8,none⟩=some (.int .i64 t.en))) (X:=fun j=>decide (5≤j)) _ _ _ _ ?_;have HS:=lhd (And.intro co cx);show ztG _ _ _ _ _ _ _ _ _ W2.drew;generalize W2.drew=wD at*;obtain⟨va,vc,rfl,-,-⟩:=(SlR.of_own H2.out.a.r).shape;refine tkX 0 HS.out (v:=?_) ?_;simp only[tkS];refine tkX 1 HS.out (v:=?_) ?_;simp only[tkS];refine tkX 2 HS.out (v:=?_) ?_;simp only[tkS];refine ztL (i:=3) (by kernel_rfl) rfl (fun K hK=>?_);go_simp;refine(zdf t x a1 a2 a3 a4 k1 k2 k3 k4 _).mono ?_;rintro e W4 ⟨rfl,hW4⟩;have hm1:=(Below.refl wD.heap.size wD).alloc (Nat.le_refl _) (.cells (boxT t a1 a2 a3 a4 k1 k2 k3 k4) 32);have hm2:=hm1.alloc hm1.size (.cells #[.int .i64 x] 3);have htb:=heap_alloc_new wD (.cells (boxT t a1 a2 a3 a4 k1 k2 k3 k4) 32);have hxb:=heap_alloc_new (wD.alloc (.cells (boxT t a1 a2 a3 a4 k1 k2 k3 k4) 32)) (.cells #[.int .i64 x] 3);have htb2:=(((Below.refl (wD.alloc (.cells (boxT t a1 a2 a3 a4 k1 k2 k3 k4) 32)).heap.size (wD.alloc (.cells (boxT t a1 a2 a3 a4 k1 k2 k3 k4) 32))).alloc (Nat.le_refl _) (.cells #[.int .i64 x] 3)).block wD.heap.size (by simp)).trans htb;rw[World.size_alloc]at hxb;rw[←hW4]at hm2 hxb htb2;have HM2:=lhd hm2;have HXB:=lhd hxb;have HTB2:=lhd htb2;have H4:=lhd (H2.out.below hm2);have HKV:=lhd (show Kv wD W4 from⟨hm2.size,fun b _ _ hb=>(hm2.block b (Array.getElem?_eq_some_iff.1 hb).1).trans hb⟩);clear hW4 hm1 hm2 hxb htb htb2 cx co HS;go_wp2_with fail;refine hK.out _ _ (fun _=>And.intro (zkV H4.out.a.o).1 (HSV.out _ H4.out.t)) ?_;clear hK;try simp only[tkS]
   refine ztL (i:=4) (by kernel_rfl) rfl (fun K hK=>?_);go_simp;refine(ze3 t p.M x a1 a2 a3 a4 k1 k2 k3 k4 wD.heap.size (wD.heap.size+1) w W4 xs (.slice va xs.length vc) HGB.out HSG.out HMM.out HGP.out (fun s hs=>(HVF.out.fb.g s hs).1) (by have:=HVF.out.ft.2.2.1;omega) ⟨HXR.out.1,Int.le_trans HXR.out.2 HT.out.t.hi⟩ HTB2.out HXB.out H4.out.a.b H4.out.a.r ?_).mono ?_
   ·have h1:=HLN.out;have h2:=HMN.out;have h3:=HVF.out.ft.2.2.1;have h4:=zqA t;have h5:=HVF.out.ct;have h6:=HVF.out.fb.p;have h7:((zqz t).take k).length≤7000:=by rw[List.length_take];omega
    have h8:((zqz t).take k).length*(4+3*t.G.length)≤7000*100000:=Nat.mul_le_mul h7 (by omega);omega
   rintro e W5 ⟨v5,rfl,ho5,hb5,hk5⟩;obtain⟨va5,vc5,rfl,-,-⟩:=(SlR.of_own ho5).shape;have HK5:=lhd hk5;have HO5:=lhd ho5;have HB5:=lhd hb5;have H5:=lhd (H4.out.next hk5 ho5 hb5);obtain⟨co5,fo5⟩:=zkV (hk5.c _ _ _ _ (by decide) (by decide) H4.out.a.o);have HST:=lhd (zoC (v':=.slice va5 (xs++momE t x).length vc5) hk5 hk5.z H4.out.a.o);clear hk5 ho5 hb5;go_wp2_with fail;refine hK.out _ _ (fun _=>And.intro co5 (HSV.out _ (HK5.out.c _ _ _ _ (by decide) (by decide) H4.out.t))) ?_;clear hK;try simp only[tkS]
   refine ztL (i:=5) (by kernel_rfl) rfl (fun K hK=>?_);go_simp;refine hK.out _ _ (fun h=>by simp at h) ?_;clear hK;try simp only[tkS]
   refine ztH (by kernel_rfl) ?_ _;rw[List.length_append]at H5 HST;exact⟨rfl,_,H5.out,HKV.out.trans HST.out.1,fun N b o h1 h2 h3=>HST.out.2 N b o h1 h2 ((HM2.out.block b (Array.getElem?_eq_some_iff.1 h3).1).trans h3)⟩
 ·have hvf:zsv t=false:=by simpa using hvb
  rw[hvf];obtain rfl:R=[]:=by rw[hR];unfold zm3;rw[if_neg hvb]
  clear hR;have HB:=lhd (HAL.out.trans (HB2.out.mono HAL.out.size));clear hvb hvf;go_wp2_with fail;refine⟨.slice none 0 0,by simp[results,Tryz.results20,go_sem],?_⟩;exact⟨_,rfl,zlJ,HB.out⟩
end Go.Proofs.YtfppgpamkdkckaaGreatDoor
