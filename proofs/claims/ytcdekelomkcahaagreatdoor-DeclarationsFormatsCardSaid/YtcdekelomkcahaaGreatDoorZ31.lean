import Derived.Test.YtcdekelomkcahaaGreatDoorZ00
import Derived.Deep.RegionLawGrows
import Derived.Test.YtcdekelomkcahaaGreatDoorZ22
import Derived.Test.YtcdekelomkcahaaGreatDoorZ27
set_option maxRecDepth 100000
set_option maxHeartbeats 16000000
namespace Go.Proofs.YtcdekelomkcahaaGreatDoor
open Go.RowKit
set_option linter.unusedSimpArgs false
def WrAt (B b:Nat) (d0 d1 d2 d3 d4 d5 p:Value) (bs:List Value) (w:World):Prop:=
 B≤b∧∃v,w.heap[b]? =some (.cells #[d0,d1,d2,d3,d4,d5,p,v] 74 (0,0))∧w.ownsRow B 5 1 v bs.length bs
def WrI (B b:Nat) (d0 d1 d2 d3 d4 d5:Value) (bs:List Value) (w:World):Prop:=
 WrAt B b d0 d1 d2 d3 d4 d5 (.pointer none) bs w∨WrAt B b d0 d1 d2 d3 d4 d5 (.pointer (some ⟨b,6,none⟩)) bs w
structure KW (B:Nat) (W V:World):Prop where
 b:Below B W V
 keep:∀(i:Nat) (o:Obj),W.heap[i]? =some o→(∀C T fr,o=.cells C T fr→T≠5∧T≠74∧T≠9)→V.heap[i]? =some o
theorem KW.refl (B:Nat) (W:World):KW B W W:=⟨Below.refl _ _,fun _ _ h _=>h⟩
theorem KW.trans {B:Nat} {X Y Z:World} (h:KW B X Y) (k:KW B Y Z):KW B X Z:=⟨h.b.trans k.b,fun i o ho hT=>k.keep i o (h.keep i o ho hT) hT⟩
theorem KW.of_below {B:Nat} {W V:World} (h:Below W.heap.size W V) (hB:B≤W.heap.size):KW B W V:=
 ⟨h.mono hB,fun i o ho _=>by rw[h.block i (Array.getElem?_eq_some_iff.1 ho).1];exact ho⟩
theorem KW.set {B:Nat} {W:World} {b:Nat} {C:Array Value} {T:TypeId} {fr:Nat×Nat} (hb:W.heap[b]? =some (.cells C T fr)) (hT:T=5∨T=74∨T=9) (hB:B≤b) (j:Nat) (u:Value):KW B W (W.setCell ⟨b,j,none⟩ u):=
 ⟨(Below.refl _ _).setCell (p:=⟨b,j,none⟩) hB _,fun i o ho hk=>by
  have hne:i≠b:=by
   rintro rfl;rw[hb]at ho;injection ho with ho;have:=hk _ _ _ ho.symm;rcases hT with rfl|rfl|rfl
   ·exact this.1 rfl
   ·exact this.2.1 rfl
   ·exact this.2.2 rfl
  rw[Below.heap_setCell _ _ _ _ hne];exact ho⟩
theorem KW.grown {B e size n:Nat} {W V:World} {v:Value} {xs:List Value} (ho:W.ownsRow B e size v n xs) (he:e=5∨e=9) (hg:W.grownBy V v.ownBlock) (hB:B≤W.heap.size):KW B W V:=
 ⟨(Below.refl _ _).grown hg hB (fun k hk=>(ho.lt k hk).1),fun i o hi hT=>by
  rw[hg.block i (Array.getElem?_eq_some_iff.1 hi).1 (fun q=>by
   rcases ho.2 with⟨rfl,-⟩|⟨g,cap',cur,rfl,-,hgb,-⟩
   ·cases q
   ·injection q with q;subst q;rw[hgb]at hi;injection hi with hi;rcases he with rfl|rfl
    ·exact(hT _ _ _ hi.symm).1 rfl
    ·exact(hT _ _ _ hi.symm).2.2 rfl)]
  exact hi⟩
theorem KW.row {B:Nat} {W V:World} {b:Nat} {xs:List Value} {C:Array Value} {T:TypeId} (h:KW B W V) (hb:W.heap[b]? =some (.cells C T (0,0))) (hT:T≠5∧T≠74∧T≠9) (hx:zaq W b xs):zaq V b xs:=by
 have:=h.keep b _ hb (fun C' T' fr' e=>by injection e with _ e _;rw[←e];exact hT);exact hx.same (this.trans hb.symm)
section
variable {B b : Nat} {d0 d1 d2 d3 d4 d5 : Value}
theorem WrAt.lt {p:Value} {bs:List Value} {w:World} (h:WrAt B b d0 d1 d2 d3 d4 d5 p bs w):b<w.heap.size:=by
 obtain⟨-,v,hb,-⟩:=h;exact(Array.getElem?_eq_some_iff.1 hb).1
theorem WrAt.below {p:Value} {bs:List Value} {w w':World} (h:WrAt B b d0 d1 d2 d3 d4 d5 p bs w) (hb:Below w.heap.size w w'):WrAt B b d0 d1 d2 d3 d4 d5 p bs w':=by
 have hlt:=h.lt;obtain⟨hB,v,hk,ho⟩:=h;exact⟨hB,v,by rw[hb.block b hlt];exact hk,zjb ho hb⟩
theorem WrI.below {bs:List Value} {w w':World} (h:WrI B b d0 d1 d2 d3 d4 d5 bs w) (hb:Below w.heap.size w w'):WrI B b d0 d1 d2 d3 d4 d5 bs w':=h.imp (·.below hb) (·.below hb)
theorem WrI.lt {bs:List Value} {w:World} (h:WrI B b d0 d1 d2 d3 d4 d5 bs w):b<w.heap.size:=h.elim (·.lt) (·.lt)
theorem WrAt.grown {p:Value} {bs:List Value} {w w':World} (h:WrAt B b d0 d1 d2 d3 d4 d5 p bs w) {B' e size n:Nat} {v:Value} {xs:List Value} (ho:w.ownsRow B' e size v n xs) (he:e=9) (hg:w.grownBy w' v.ownBlock):WrAt B b d0 d1 d2 d3 d4 d5 p bs w':=by
 subst he;have hlt:=h.lt;obtain⟨hB,v1,hk,ho1⟩:=h;refine⟨hB,v1,?_,ho1.kept hg (zjl ho1 ho (by decide))⟩
 rw[hg.block b hlt (fun q=>by
  rcases ho.2 with⟨rfl,-⟩|⟨g,cap',cur,rfl,-,hgb,-⟩
  ·cases q
  ·injection q with q;subst q;rw[hgb]at hk;injection hk with hk;injection hk with _ hk _;exact absurd hk (by decide))]
 exact hk
theorem WrI.grown {bs:List Value} {w w':World} (h:WrI B b d0 d1 d2 d3 d4 d5 bs w) {B' e size n:Nat} {v:Value} {xs:List Value} (ho:w.ownsRow B' e size v n xs) (he:e=9) (hg:w.grownBy w' v.ownBlock):WrI B b d0 d1 d2 d3 d4 d5 bs w':=h.imp (·.grown ho he hg) (·.grown ho he hg)
end
theorem zqs (b:Nat) (w:World) (h0:w.cell? ⟨b,6,none⟩=some (.pointer (some ⟨b,6,none⟩))):
 Calls Tryz.prog 125 #[.pointer (some ⟨b,6,none⟩)] w fun e w'=>e=.returned (.tuple #[])∧w'=w:=by
 obtain⟨j,hj,_⟩:=Option.map_eq_some_iff.1 (show(Tryz.prog.info? 72).map (·.size)=some 2 by kernel_rfl);go_enter Tryz.func125,Tryz.ntmps125;go_wp2_with fail;rw[Lib.run_neq_ptr_same w _ Tryz.underlying69 hj];go_wp2_with fail;go_end0
 exact⟨rfl,rfl⟩
theorem zqr (b:Nat) (w:World) (h0:w.cell? ⟨b,6,none⟩=some (.pointer none)) (hsh:w.shape? b=some (74,8)) (hfz:w.frozen? ⟨b,6,none⟩=false):
 Calls Tryz.prog 125 #[.pointer (some ⟨b,6,none⟩)] w fun e w'=>e=.returned (.tuple #[])∧w'=w.setCell ⟨b,6,none⟩ (.pointer (some ⟨b,6,none⟩)):=by
 obtain⟨j,hj,hjs⟩:=Option.map_eq_some_iff.1 (show(Tryz.prog.info? 72).map (·.size)=some 2 by kernel_rfl);go_enter Tryz.func125,Tryz.ntmps125;go_wp2_with fail;rw[Lib.run_to_unsafe w ⟨b,6,none⟩ Tryz.underlying69 Tryz.underlying189 hj (by rw[hjs];decide) hsh (show(6:Nat)<8 by decide)];simp only[Result.andThen];rw[Oper.upon_value];go_wp2_with fail;rw[run_callFunc_extern Tryz.func157 (by kernel_rfl) (by kernel_rfl) (by kernel_rfl) (e:=Extern.AbiNoEscape.same) (by kernel_rfl)];rw[Lib.run_noEscape];simp only[Result.andThen];rw[Oper.upon_value];go_wp2_with fail;rw[Lib.run_from_unsafe w ⟨b,6,none⟩ Tryz.underlying189 Tryz.underlying69 hj hsh (by kernel_rfl)];simp only[Result.andThen];rw[Oper.upon_value];go_wp2_with fail;go_end0
 exact⟨rfl,rfl⟩
theorem WrAt.set {B b:Nat} {d0 d1 d2 d3 d4 d5 p q:Value} {bs:List Value} {w:World} (h:WrAt B b d0 d1 d2 d3 d4 d5 p bs w):WrAt B b d0 d1 d2 d3 d4 d5 q bs (w.setCell ⟨b,6,none⟩ q):=by
 obtain⟨hB,v,hk,ho⟩:=h;refine⟨hB,v,?_,?_⟩
 ·simp[World.setCell,Array.getElem?_modify,hk]
 ·exact ownsRow_setCell_other ho (a:=⟨b,6,none⟩) (Lib.ownBlock_ne ho hk (by decide)) q
theorem zqq (B b:Nat) (d0 d1 d2 d3 d4 d5:Value) (bs:List Value) (w:World) (h:WrI B b d0 d1 d2 d3 d4 d5 bs w):
 Calls Tryz.prog 125 #[.pointer (some ⟨b,6,none⟩)] w fun e w'=>e=.returned (.tuple #[])∧WrAt B b d0 d1 d2 d3 d4 d5 (.pointer (some ⟨b,6,none⟩)) bs w'∧KW B w w':=by
 rcases h with h|h
 ·obtain⟨hB,v,hk,ho⟩:=id h;refine(zqr b w (by rw[Lib.cell_of_heap hk];rfl) (by simp[World.shape?,hk]) (Lib.frozen_of_heap hk 6)).mono ?_;rintro e w' ⟨rfl,rfl⟩;exact⟨rfl,h.set,KW.set hk (.inr (.inl rfl)) hB _ _⟩
 ·obtain⟨hB,v,hk,ho⟩:=id h;refine(zqs b w (by rw[Lib.cell_of_heap hk];rfl)).mono ?_;rintro e w' ⟨rfl,rfl⟩;exact⟨rfl,h,KW.refl _ _⟩
theorem zqp (B b:Nat) (d0 d1 d2 d3 d4 d5:Value) (bs:List Value) (s:ByteArray) (w:World) (h:WrI B b d0 d1 d2 d3 d4 d5 bs w) (hlen:bs.length+s.size≤140737488355328) (hBw:B≤w.heap.size):
 Calls Tryz.prog 71 #[.pointer (some ⟨b,6,none⟩),.string s] w fun e w'=>e=.returned (.tuple #[.int .i64 s.size,.nilIface])∧WrI B b d0 d1 d2 d3 d4 d5 (bs++Lib.strCells s) w'∧KW B w w':=by
 obtain⟨i0,hi,hz0,hz1,hz2⟩:=info_parts (P:=Tryz.prog) zbr;go_enter Tryz.func71,Tryz.ntmps71;go_wp2_with (go_at_call 125;refine(zqq B b d0 d1 d2 d3 d4 d5 bs _ h).mono ?_)
 rintro e w1 ⟨rfl,h1,hb1⟩;obtain⟨hB,v,hbk,hown⟩:=h1;have hne:v.ownBlock≠some b:=Lib.ownBlock_ne hown hbk (by decide);have c0:w1.cell? ⟨b,6,none⟩=some (.pointer (some ⟨b,6,none⟩)):=by rw[Lib.cell_of_heap hbk];rfl
 have c1:w1.cell? ⟨b,7,none⟩=some v:=by rw[Lib.cell_of_heap hbk];rfl
 have hsz1:=hb1.b.size;go_wp2_with (at_builtin;refine Lib.wpList_append_own_string _ rfl _ _ 70 9 rfl B 5 i0 Tryz.underlying70 Tryz.underlying9 hi hz0 hz1 hz2 _ _ _ rfl hown s rfl (by unfold maxLen;omega) (by omega) (by omega) ?_)
 intro v' w2 hown' hgrow _;have hlt:b<w1.heap.size:=(Array.getElem?_eq_some_iff.1 hbk).1
 have hb2:w2.heap[b]? =some (.cells #[d0,d1,d2,d3,d4,d5,.pointer (some ⟨b,6,none⟩),v] 74 (0,0)):=by
  rw[hgrow.block b hlt (fun e=>hne e.symm)];exact hbk
 have e0:w2.cell? ⟨b,6,none⟩=some (.pointer (some ⟨b,6,none⟩)):=by rw[Lib.cell_of_heap hb2];rfl
 have e1:w2.cell? ⟨b,7,none⟩=some v:=by rw[Lib.cell_of_heap hb2];rfl
 have f1:w2.frozen? ⟨b,7,none⟩=false:=Lib.frozen_of_heap hb2 7
 obtain⟨ao,n',cap,rfl⟩:∃ao n' cap,v'=.slice ao n' cap:=by
  rcases hown'.2 with⟨hv,_⟩|⟨g,cap,cur,hv,_⟩
  ·exact⟨_,_,_,hv⟩
  ·exact⟨_,_,_,hv⟩
 have k2:KW B w1 w2:=KW.grown hown (.inl rfl) hgrow (by omega);have hown2:w2.ownsRow B 5 1 (.slice ao n' cap) (bs++Lib.strCells s).length (bs++Lib.strCells s):=by simpa[Lib.strCells_length] using hown'
 have hWr:=lhd (show WrI B b d0 d1 d2 d3 d4 d5 (bs++Lib.strCells s) (w2.setCell ⟨b,7,none⟩ (.slice ao n' cap))from .inr ⟨hB,.slice ao n' cap,by simp[World.setCell,Array.getElem?_modify,hb2],ownsRow_setCell_other hown2 (a:=⟨b,7,none⟩) (Lib.ownBlock_ne hown2 hb2 (by decide)) _⟩);have hKW:=lhd ((hb1.trans k2).trans (KW.set hb2 (.inr (.inl rfl)) hB 7 (.slice ao n' cap)));clear hown' hown2 k2 hgrow;go_wp2_with fail;go_ret2
 exact⟨rfl,hWr.out,hKW.out⟩
open Go.RowKit
set_option linter.unusedSimpArgs false
def zgL (L:List Bs):Bs:=zgc (L++ [sEnd])++ [10]
theorem zqt (B b:Nat) (d0 d1 d2 d3 d4 d5:Value) (bs:Bs) (v:Value) (L:List Bs) (w:World) (h:WrI B b d0 d1 d2 d3 d4 d5 (Lib.byteCells bs) w) (ho:w.ownsRow B 9 1 v L.length (strs L)) (hL:L.length≤1000) (hz:bs.length+(zgL L).length≤140737488355328) (hBw:B≤w.heap.size):
 Calls Tryz.prog 39 #[.pointer (some ⟨b,0,none⟩),v] w fun e w'=>e=.returned (.tuple #[])∧WrI B b d0 d1 d2 d3 d4 d5 (Lib.byteCells (bs++zgL L)) w'∧KW B w w':=by
 obtain⟨i0,hi,iz0,iz1,iz2⟩:=info_parts (P:=Tryz.prog) zno;obtain⟨a,cap,rfl,-,-⟩:=(SlR.of_own ho).shape;have hal:Below w.heap.size w (w.drew.alloc (.cells #[.string ⟨#[36,101,110,100]⟩] 9)):=((Below.refl _ _).drew).alloc (Nat.le_refl _) _;have HA:=lhd (zjb ho hal);have HW:=lhd (h.below hal);have HK:=lhd (KW.of_below hal hBw);have HT:=lhd (show ∀l:List Bs,strs l++ [Value.string ⟨#[36,101,110,100]⟩]=strs (l++ [sEnd])from fun l=>by simp[strs,strV];rfl);have hlt:=h.lt;have hzz:(zgc (L++ [sEnd])).length+1=(zgL L).length:=by unfold zgL;simp
 clear h hal;go_enter Tryz.func39,Tryz.ntmps39;go_wp2_with fail;refine wp_region_held_drew (S:=fun _=>True) (by kernel_rfl) trivial (fun hHeld=>?_);refine tkH 0 hHeld (v:=?_) ?_;simp only[tkS];refine tkH 1 hHeld (v:=?_) ?_;simp only[tkS];refine tkH 2 hHeld (v:=?_) ?_;simp only[tkS];refine tkH 3 hHeld (v:=?_) ?_;simp only[tkS];refine oneH 4 (fun K hK=>?_);go_simp;refine hK.out _ _ trivial (fun hHeld=>?_);clear hK;try simp only[tkS]
 refine oneH 5 (fun K hK=>?_);refine step_append_lies _ (by rfl) _ _ _ (by rfl) B 9 i0 _ 1 16 Tryz.underlying65 hi iz0 iz1 iz2 rfl (by omega) (.slice a L.length cap) L.length (strs L) (by rfl) (by exact HA.out) ⟨w.heap.size,0,none⟩ 1 1 [.string ⟨#[36,101,110,100]⟩] (by rfl) (by rfl) (World.news_of_block (cs:=#[.string ⟨#[36,101,110,100]⟩]) (t:=9) (fr:=(0,0)) (by exact heap_alloc_new _ _)) (by simp[Value.oneCell']) (by omega) (by unfold maxLen;omega) (by omega) (by simp;omega) (w.heap.size+1) (by simp) ?_;intro gg cap9 w9 ho9 hg9 hat hlt9;have hW9:=HW.out.grown HA.out rfl hg9;have HK9:=lhd (HK.out.trans (KW.grown HA.out (.inr rfl) hg9 (by simp;omega)));rw[HT.out]at ho9;have hL9:(L++ [sEnd]).length=L.length+1:=by simp
 have HJ:=lhd (zcc B 9 (.slice (some ⟨gg,0,none⟩) (L.length+1) cap9) (L++ [sEnd]) w9 (by rw[hL9];exact ho9) (by omega) (by omega));have HW9:=lhd hW9;have hB9:=HK9.out.b.size;clear ho9 hg9 hat hlt9 hW9 hL9;refine hK.out _ _ trivial (fun hHeld=>?_);clear hK;try simp only[tkS]
 refine oneH 6 (fun K hK=>?_);go_simp;refine HJ.out.mono ?_;rintro e w10 ⟨rfl,hb10⟩;have HW10:=lhd (HW9.out.below hb10);have HK10:=lhd (HK9.out.trans (KW.of_below hb10 (by omega)));have hs10:=zbk (zgc (L++ [sEnd]));have hq:¬9223372036854775807<(bsB (zgc (L++ [sEnd]))).size+1:=by omega
 have hq2:¬9223372036854775807<(zgc (L++ [sEnd])).length+1:=by omega
 have hB10:=hb10.size
 have HWS:=lhd (zqp B b d0 d1 d2 d3 d4 d5 _ (bsB (zgc (L++ [sEnd]))++⟨#[10]⟩) w10 HW10.out (by
  rw[ByteArray.size_append,hs10,show(⟨#[10]⟩:ByteArray).size=1 from rfl,Lib.byteCells_length];omega) (by omega))
 have HE:=lhd (show Lib.byteCells bs++Lib.strCells (bsB (zgc (L++ [sEnd]))++⟨#[10]⟩)=Lib.byteCells (bs++zgL L)by
  simp[Lib.byteCells,Lib.strCells,zgL,bsB])
 clear hb10 hzz hs10 hz hBw hlt hB9 hB10 hq2;generalize bsB (zgc (L++ [sEnd]))=zz at*;clear hHeld;go_wp2_with fail;refine hK.out _ _ trivial (fun hHeld=>?_);clear hK;try simp only[tkS]
 refine tkH 7 hHeld (v:=?_) ?_;simp only[tkS];refine oneH 8 (fun K hK=>?_);go_simp;refine HWS.out.mono ?_;rintro e w11 ⟨rfl,h11,k11⟩;rw[HE.out]at h11;have HW11:=lhd h11;have HK11:=lhd (HK10.out.trans k11);clear hHeld h11 k11;go_wp2_with fail;refine hK.out _ _ trivial (fun hHeld=>?_);clear hK;try simp only[tkS]
 refine wpAnyH_done (by kernel_rfl) ?_ _;clear hHeld;go_wp2_with fail;go_end0
 exact⟨rfl,HW11.out,HK11.out⟩
theorem zqo (B b:Nat) (d0 d1 d2 d3 d4 d5:Value) (l:Bs) (w:World) (h:WrI B b d0 d1 d2 d3 d4 d5 (Lib.byteCells l) w) (h0:l≠ []):
 Calls Tryz.prog 41 #[.pointer (some ⟨b,6,none⟩)] w fun e w'=>e=.returned (.string (bsB l))∧Below B w w':=by
 obtain⟨p,hB,v,hbk,hown⟩:∃p,WrAt B b d0 d1 d2 d3 d4 d5 p (Lib.byteCells l) w:=by
  rcases h with h|h
  ·exact⟨_,h⟩
  ·exact⟨_,h⟩
 have hl0:l.length≠0:=by simpa using h0
 rw[Lib.byteCells_length]at hown
 obtain⟨g,cap,cur,rfl,hbg,hg,hnc,hcm,hcs,htake⟩:∃g cap cur,v=.slice (some ⟨g,0,none⟩) l.length cap∧B≤g∧w.heap[g]? =some (.cells cur 5 (0,0))∧l.length≤cap∧cap≤maxLen∧cur.size=cap*1∧cur.toList.take (l.length*1)=Lib.byteCells l:=by
  rcases hown.2 with⟨_,hz⟩|⟨g,cap,cur,hv,r⟩
  ·exact absurd hz hl0
  ·exact⟨g,cap,cur,hv,r⟩
 have c1:w.drew.cell? ⟨b,7,none⟩=some (.slice (some ⟨g,0,none⟩) l.length cap):=by
  have:w.drew.heap[b]? =some (.cells #[d0,d1,d2,d3,d4,d5,p,.slice (some ⟨g,0,none⟩) l.length cap] 74 (0,0)):=hbk;rw[Lib.cell_of_heap this];rfl
 have hSD:(Builtin.unsafeSliceData_ #[70] 130 #[.slice (some ⟨g,0,none⟩) l.length cap]).run Tryz.prog w.drew=.ok (.pointer (some ⟨g,0,none⟩)) w.drew:=
  Lib.run_unsafeSliceData_row _ _ _ _ _ _ (by omega)
 have hUS:(Builtin.unsafeString_ #[130,3] 9 #[.pointer (some ⟨g,0,none⟩),.int .i64 l.length]).run Tryz.prog w.drew=.ok (.string ⟨l.toArray⟩) (w.drew.freeze ⟨g,0,none⟩ l.length):=by
  refine Lib.run_unsafeString_row w.drew 130 3 9 5 Tryz.underlying130 (by kernel_rfl) g cur.size (by have hg':w.drew.heap[g]? =some (.cells cur 5 (0,0)):=hg;simp[World.shape?,hg']) l h0 (by omega) (by unfold maxLen at hcm;omega) ?_;intro j x hx;have:=hown.cells (g:=g) rfl j (.int .u8 x.toNat) (by simp[Lib.byteCells,hx]);exact this
 have hF:=lhd (Lib.below_freeze (Below.drew (Below.refl B w)) (p:=⟨g,0,none⟩) hbg l.length);clear hown htake;have hmx:Tryz.prog.follows .mixedOrders=true:=by kernel_rfl
 go_enter Tryz.func41,Tryz.ntmps41;go_wp2
 go_region_o
 all_goals (go_wp2;go_ret;exact⟨rfl,hF.out⟩)
section
variable {P : Program} {ops : Array Oper} {Q : Exit → Act → World → Prop} {md : Region.Mode} {S : World → Prop}
theorem zqf (I:Array Bool→Act→World→Prop)
 (hs:∀(l:Array Bool) (a:Act) (w:World) (i:Nat) (o:Oper),I l a w→i∈Region.ready md ops l→ops[i]? =some o→
   ∀K':Act→World→Prop,Shut (∀a' w',S w'→I (l.setIfInBounds i true) a' w'→K' a' w')→if Region.wanted o (yielded ops a.tmps)=true then Oper.wp P o a w K' Q else K' (a.put o.dst undef) w)
 (hd:∀(l:Array Bool) (a:Act) (w:World),I l a w→Region.ready md ops l=[]→Q .normal a w)
 (hz:∀(l:Array Bool) (a:Act) (w:World),I l a w→l.size=ops.size):
 ∀(fuel:Nat) (l:Array Bool) (a:Act) (w:World),l.toList.count false≤fuel→I l a w→wpAnyH P md ops Q S fuel l a w
 |0,l,a,w,hc,hI=>by
  have hr:Region.ready md ops l=[]:=by
   refine List.eq_nil_iff_forall_not_mem.2 fun i hi=>?_;obtain⟨h1,o,ho,-⟩:=mem_ready.1 hi;have hlt:i<l.size:=by rw[hz l a w hI];exact(Array.getElem?_eq_some_iff.1 ho).1
   have:false∈l.toList:=by
    rw[←h1,Array.getD_eq_getD_getElem?,Array.getElem?_eq_getElem hlt];exact Array.getElem_mem_toList hlt
   have:=List.count_pos_iff.2 this;omega
  exact⟨hr,hd l a w hI hr⟩
 |fuel+1,l,a,w,hc,hI=>by
  refine⟨fun hr=>hd l a w hI hr,fun i hi=>?_⟩;obtain⟨h1,o,ho,-⟩:=mem_ready.1 hi;have hlt:i<l.size:=by rw[hz l a w hI];exact(Array.getElem?_eq_some_iff.1 ho).1
  refine wpOp_step ho (fun K' hK=>hs l a w i o hI hi ho K' fun a' w' hS hW=>hK a' w' ⟨hS,zqf I hs hd hz fuel _ a' w' ?_ hW⟩)
  have hf:l.toList[i]'(by simpa using hlt)=false:=by
   have:=h1;rw[Array.getD_eq_getD_getElem?,Array.getElem?_eq_getElem hlt]at this;simpa using this
  rw[Array.toList_setIfInBounds,List.count_set (by simpa using hlt),hf];have:0<l.toList.count false:=List.count_pos_iff.2 (by rw[←hf];exact List.getElem_mem _);simp only[beq_self_eq_true,if_true,show(true==false)=false from rfl,Bool.false_eq_true,if_false];omega
end
theorem zg2 {md:Region.Mode} {ops:Array Oper} {l:Array Bool} (hr:Region.ready md ops l=[]) {n:Nat} (hz:l.size=n) {i:Nat} {o:Oper} (ho:ops[i]? =some o) (ha:∀e∈o.after,Region.binds md e=true→l.getD e.on false=true) (hn:i<n:=by decide):l.getD i false=true:=by
 cases h:l.getD i false with
 |true=>rfl
 |false=>
  have hg:l.getD i true=l.getD i false:=by
   rw[Array.getD_eq_getD_getElem?,Array.getD_eq_getD_getElem?,Array.getElem?_eq_getElem (by rw[hz];exact hn)];rfl
  have:=mem_ready.2 ⟨hg.trans h,o,ho,ha⟩;rw[hr]at this;cases this
theorem zg1 {md:Region.Mode} {ops:Array Oper} {l:Array Bool} (hr:Region.ready md ops l=[]) {k:Nat} (hz:l.size=k) {i n:Nat} {o:Oper} (ho:ops[i]? =some o) (hn:(o.after.toList.all fun e=>decide (e.on<n))=true) (ha:∀j,j<n→l.getD j false=true) (hk:i<k:=by decide):l.getD i false=true:=
 zg2 hr hz ho (fun e he _=>ha _ (of_decide_eq_true (List.all_eq_true.1 hn e (by simpa using he)))) hk
theorem zet (l:Array Bool) (i j:Nat) (hi:i<l.size):(l.setIfInBounds i true).getD j false=if i=j then true else l.getD j false:=by
 rw[Array.getD_eq_getD_getElem?,Array.getElem?_setIfInBounds,Array.getD_eq_getD_getElem?];split
 ·rename_i h
  subst h;first|rfl|(rw[if_pos hi];rfl)
 ·rfl
theorem zep {l:Array Bool} {j:Nat} (hj:j<l.size):l.getD j true=l.getD j false:=by
 rw[Array.getD_eq_getD_getElem?,Array.getD_eq_getD_getElem?,Array.getElem?_eq_getElem hj];rfl
theorem zdF (B j:Nat) (w:World):Calls Tryz.prog 88 #[.pointer (some ⟨B,0,none⟩),.pointer (some ⟨B,j,none⟩)] w fun e w'=>
 e=.returned (.func (.func 137) #[] #[.pointer (some ⟨w.heap.size,0,none⟩),.pointer (some ⟨w.heap.size+1,0,none⟩)])∧w'=(w.alloc (.cells #[.pointer (some ⟨B,0,none⟩)] 85)).alloc (.cells #[.pointer (some ⟨B,j,none⟩)] 136):=by
 go_enter Tryz.func88,Tryz.ntmps88;go_wp2_with fail;go_ret;exact⟨rfl,rfl⟩
def secL:List Bs:=[zlw,zlF,zlv,zlD,zlC,zlE,sVar,zlB]
abbrev mB (f B:Nat):Value:=.func (.func f) #[.pointer (some ⟨B,0,none⟩)] #[]
abbrev txV (p q:Nat):Value:=.func (.func 137) #[] #[.pointer (some ⟨p,0,none⟩),.pointer (some ⟨q,0,none⟩)]
def secV (B:Nat) (pt tq:Nat→Nat):Nat→Value
 |0=>txV (pt 0) (tq 0)
 |1=>txV (pt 1) (tq 1)
 |2=>txV (pt 2) (tq 2)
 |3=>mB 89 B
 |4=>mB 90 B
 |5=>mB 91 B
 |6=>mB 92 B
 |_=>mB 93 B
def secF (L:Nat→Bool) (B:Nat) (pt tq:Nat→Nat) (s:BsM):Option Value:=match secL.findIdx? fun x=>decide (x=s)with
 |some k=>if L k=true then some (secV B pt tq k)else none
 |none=>none
theorem zmj {k:Nat} {x:Bs} (h:secL[k]? =some x):secL.findIdx? (fun y=>decide (y=x))=some k:=by
 have hk:k<8:=(List.getElem?_eq_some_iff.1 h).1;rcases(by omega:k=0∨k=1∨k=2∨k=3∨k=4∨k=5∨k=6∨k=7)with rfl|rfl|rfl|rfl|rfl|rfl|rfl|rfl<;>(injection h with h;subst h;decide)
theorem zmf {k:Nat} {s:Bs} (h:secL.findIdx? (fun y=>decide (y=s))=some k):secL[k]? =some s:=by
 obtain⟨hk,h1,-⟩:=List.findIdx?_eq_some_iff_getElem.1 h;rw[List.getElem?_eq_getElem hk,of_decide_eq_true h1]
theorem zmd {L L':Nat→Bool} {B:Nat} {pt tq:Nat→Nat} {k:Nat} {x:Bs} (hx:secL[k]? =some x) (hk:L' k=true) (ho:∀j,j≠k→L' j=L j) (s:BsM):(if s=x then some (secV B pt tq k)else secF L B pt tq s)=secF L' B pt tq s:=by
 by_cases h:s=x
 ·subst h;unfold secF;rw[if_pos rfl,zmj hx];dsimp only;rw[if_pos hk]
 ·rw[if_neg h];unfold secF;cases hf:secL.findIdx? (fun y=>decide (y=s))with
  |none=>rfl
  |some j=>
   dsimp only;have hj:=zmf hf;rw[ho j (fun e=>by subst e;rw[hx]at hj;exact h (Option.some.inj hj).symm)]
theorem zmc {L:Nat→Bool} {B:Nat} {pt tq:Nat→Nat} {k p q:Nat} (hk:L k=false) (s:BsM):secF L B pt tq s=secF L B (fun j=>if j=k then p else pt j) (fun j=>if j=k then q else tq j) s:=by
 unfold secF;cases hf:secL.findIdx? (fun y=>decide (y=s))with
 |none=>rfl
 |some j=>
  dsimp only;by_cases hj:j=k
  ·subst hj;rw[hk];rfl
  ·have e:secV B pt tq j=secV B (fun j=>if j=k then p else pt j) (fun j=>if j=k then q else tq j) j:=by
    have hj8:j<8:=(List.findIdx?_eq_some_iff_getElem.1 hf).1;rcases(by omega:j=0∨j=1∨j=2∨j=3∨j=4∨j=5∨j=6∨j=7)with rfl|rfl|rfl|rfl|rfl|rfl|rfl|rfl<;>simp[secV,hj]
   rw[e]
def insL (l:Array Bool):Nat→Bool
 |0=>l.getD 7 false
 |1=>l.getD 14 false
 |2=>l.getD 21 false
 |3=>l.getD 24 false
 |4=>l.getD 27 false
 |5=>l.getD 30 false
 |6=>l.getD 33 false
 |7=>l.getD 36 false
 |_=>false
def insN (l:Array Bool):Nat:=(l.getD 7 false).toNat+(l.getD 14 false).toNat+(l.getD 21 false).toNat+(l.getD 24 false).toNat+(l.getD 27 false).toNat+(l.getD 30 false).toNat+(l.getD 33 false).toNat+(l.getD 36 false).toNat
def BxT (B:Nat) (w0 w:World) (p q j:Nat):Prop:=w0.heap.size≤p∧w0.heap.size≤q∧w.heap[p]? =some (.cells #[.pointer (some ⟨B,0,none⟩)] 85 (0,0))∧w.heap[q]? =some (.cells #[.pointer (some ⟨B,j,none⟩)] 136 (0,0))
theorem BxT.below {B p q j:Nat} {w0 w w':World} (h:BxT B w0 w p q j) (hb:Below w.heap.size w w'):BxT B w0 w' p q j:=
 ⟨h.1,h.2.1,by rw[hb.block p (Array.getElem?_eq_some_iff.1 h.2.2.1).1];exact h.2.2.1,by rw[hb.block q (Array.getElem?_eq_some_iff.1 h.2.2.2).1];exact h.2.2.2⟩
theorem BxT.map {P:Program} {K:TypeId} {B p q j b n:Nat} {f:BsM→Option Value} {w0 w w':World} (h:BxT B w0 w p q j) (hm:SMap P K w b n f) (hg:w.grownBy w' (some b)):BxT B w0 w' p q j:=
 ⟨h.1,h.2.1,by
  rw[hg.block p (Array.getElem?_eq_some_iff.1 h.2.2.1).1 (fun e=>by injection e with e;subst e;exact hm.no_cells h.2.2.1)];exact h.2.2.1,by
  rw[hg.block q (Array.getElem?_eq_some_iff.1 h.2.2.2).1 (fun e=>by injection e with e;subst e;exact hm.no_cells h.2.2.2)];exact h.2.2.2⟩
theorem BxT.new (B j:Nat) (w0 w:World) (h:w0.heap.size≤w.heap.size):BxT B w0 ((w.alloc (.cells #[.pointer (some ⟨B,0,none⟩)] 85)).alloc (.cells #[.pointer (some ⟨B,j,none⟩)] 136)) w.heap.size (w.heap.size+1) j:=by
 refine⟨h,by omega,?_,?_⟩
 ·rw[Below.heap_alloc _ _ _ (by simp)];exact heap_alloc_new w _
 ·have:=heap_alloc_new (w.alloc (.cells #[.pointer (some ⟨B,0,none⟩)] 85)) (.cells #[.pointer (some ⟨B,j,none⟩)] 136);simpa using this
structure SecI (B:Nat) (w0:World) (l:Array Bool) (a:Act) (w:World):Prop where
 z:l.size=39
 p:l.getD 1 false=true∧l.getD 2 false=true∧l.getD 3 false=true∧l.getD 4 false=true∧l.getD 5 false=true∧l.getD 8 false=true∧l.getD 9 false=true∧l.getD 10 false=true∧l.getD 11 false=true∧l.getD 12 false=true∧l.getD 15 false=true∧l.getD 16 false=true∧l.getD 17 false=true∧l.getD 18 false=true∧l.getD 19 false=true∧l.getD 22 false=true∧l.getD 23 false=true∧l.getD 25 false=true∧l.getD 26 false=true∧l.getD 28 false=true∧l.getD 29 false=true∧l.getD 31 false=true∧l.getD 32 false=true∧l.getD 34 false=true∧l.getD 35 false=true
 d:Below w0.heap.size w0 w
 x:∃(v2 v3 v9 v15 v21 v32:Value) (kb:Nat) (pt tq:Nat→Nat),a=({tmps:=#[(.pointer (some ⟨B,0,none⟩)),undef,v2,v3,(.pointer (some ⟨B,0,none⟩)),(.pointer (some ⟨B,0,none⟩)),(.pointer (some ⟨B,0,none⟩)),(.pointer (some ⟨B,0,none⟩)),(.pointer (some ⟨B,1,none⟩)),v9,(.pointer (some ⟨B,0,none⟩)),(.pointer (some ⟨B,0,none⟩)),(.pointer (some ⟨B,0,none⟩)),(.pointer (some ⟨B,0,none⟩)),(.pointer (some ⟨B,2,none⟩)),v15,(.pointer (some ⟨B,0,none⟩)),(.pointer (some ⟨B,0,none⟩)),(.pointer (some ⟨B,0,none⟩)),(.pointer (some ⟨B,0,none⟩)),(.pointer (some ⟨B,3,none⟩)),v21,(.pointer (some ⟨B,0,none⟩)),(mB 89 B),(.pointer (some ⟨B,0,none⟩)),(mB 90 B),(.pointer (some ⟨B,0,none⟩)),(mB 91 B),(.pointer (some ⟨B,0,none⟩)),(mB 92 B),(.pointer (some ⟨B,0,none⟩)),(mB 93 B),v32],defers:=[]}:Act)∧
  (l.getD 0 false=true→v3=.map (some kb)∧w0.heap.size≤kb∧SMap Tryz.prog 9 w kb (insN l) (secF (insL l) B pt tq))∧
  (l.getD 0 false=false→insN l=0)∧
  (l.getD 6 false=true→v9=txV (pt 0) (tq 0)∧BxT B w0 w (pt 0) (tq 0) 1)∧(l.getD 7 false=true→l.getD 6 false=true)∧
  (l.getD 13 false=true→v15=txV (pt 1) (tq 1)∧BxT B w0 w (pt 1) (tq 1) 2)∧(l.getD 14 false=true→l.getD 13 false=true)∧
  (l.getD 20 false=true→v21=txV (pt 2) (tq 2)∧BxT B w0 w (pt 2) (tq 2) 3)∧(l.getD 21 false=true→l.getD 20 false=true)∧
  (l.getD 37 false=true→l.getD 0 false=true∧v32=.map (some kb))∧(l.getD 38 false=true→l.getD 37 false=true∧v2=.map (some kb))
theorem zer {l:Array Bool} {i j:Nat} (hi:i<l.size) (h:l.getD j false=true):(l.setIfInBounds i true).getD j false=true:=by
 rw[zet _ _ _ hi];split
 ·rfl
 ·exact h
theorem zes {l:Array Bool} {i j:Nat} (hi:i<l.size) (h:i≠j):(l.setIfInBounds i true).getD j false=l.getD j false:=by rw[zet _ _ _ hi,if_neg h]
theorem zeq {l:Array Bool} {i:Nat} (hi:i<l.size):(l.setIfInBounds i true).getD i false=true:=by rw[zet _ _ _ hi,if_pos rfl]
theorem zfq {l:Array Bool} {i:Nat} (hi:i<l.size) (h:i≠7∧i≠14∧i≠21∧i≠24∧i≠27∧i≠30∧i≠33∧i≠36):insN (l.setIfInBounds i true)=insN l∧insL (l.setIfInBounds i true)=insL l:=by
 obtain⟨h0,h1,h2,h3,h4,h5,h6,h7⟩:=h;refine⟨by unfold insN;rw[zes hi h0,zes hi h1,zes hi h2,zes hi h3,zes hi h4,zes hi h5,zes hi h6,zes hi h7],funext fun k=>?_⟩;unfold insL;split<;>first|exact zes hi (by assumption)|rfl
theorem zfr {l:Array Bool} (h:insN l=0):∀k,insL l k=false:=fun k=>by
 unfold insN at h;have hb:∀b:Bool,b.toNat=0→b=false:=by decide
 unfold insL;split<;>first|rfl|(apply hb;omega)
theorem zmb {L:Nat→Bool} {B:Nat} {pt tq:Nat→Nat} (h:∀k,L k=false) (s:BsM):secF L B pt tq s=none:=by
 unfold secF;split
 ·rw[h];rfl
 ·rfl
theorem zfp {l:Array Bool} (hi:7<l.size) (h:l.getD 7 false=false):insN (l.setIfInBounds 7 true)=insN l+1∧insL (l.setIfInBounds 7 true) 0=true∧∀q,q≠0→insL (l.setIfInBounds 7 true) q=insL l q:=by
 refine⟨?_,zeq hi,fun q hq=>?_⟩
 ·unfold insN;simp only[zet _ _ _ hi,h];simp;try omega
 ·unfold insL;split<;>first|exact zes hi (by decide)|exact absurd rfl hq|rfl
theorem zfi {l:Array Bool} (hi:14<l.size) (h:l.getD 14 false=false):insN (l.setIfInBounds 14 true)=insN l+1∧insL (l.setIfInBounds 14 true) 1=true∧∀q,q≠1→insL (l.setIfInBounds 14 true) q=insL l q:=by
 refine⟨?_,zeq hi,fun q hq=>?_⟩
 ·unfold insN;simp only[zet _ _ _ hi,h];simp;try omega
 ·unfold insL;split<;>first|exact zes hi (by decide)|exact absurd rfl hq|rfl
theorem zfj {l:Array Bool} (hi:21<l.size) (h:l.getD 21 false=false):insN (l.setIfInBounds 21 true)=insN l+1∧insL (l.setIfInBounds 21 true) 2=true∧∀q,q≠2→insL (l.setIfInBounds 21 true) q=insL l q:=by
 refine⟨?_,zeq hi,fun q hq=>?_⟩
 ·unfold insN;simp only[zet _ _ _ hi,h];simp;try omega
 ·unfold insL;split<;>first|exact zes hi (by decide)|exact absurd rfl hq|rfl
theorem zfk {l:Array Bool} (hi:24<l.size) (h:l.getD 24 false=false):insN (l.setIfInBounds 24 true)=insN l+1∧insL (l.setIfInBounds 24 true) 3=true∧∀q,q≠3→insL (l.setIfInBounds 24 true) q=insL l q:=by
 refine⟨?_,zeq hi,fun q hq=>?_⟩
 ·unfold insN;simp only[zet _ _ _ hi,h];simp;try omega
 ·unfold insL;split<;>first|exact zes hi (by decide)|exact absurd rfl hq|rfl
theorem zfl {l:Array Bool} (hi:27<l.size) (h:l.getD 27 false=false):insN (l.setIfInBounds 27 true)=insN l+1∧insL (l.setIfInBounds 27 true) 4=true∧∀q,q≠4→insL (l.setIfInBounds 27 true) q=insL l q:=by
 refine⟨?_,zeq hi,fun q hq=>?_⟩
 ·unfold insN;simp only[zet _ _ _ hi,h];simp;try omega
 ·unfold insL;split<;>first|exact zes hi (by decide)|exact absurd rfl hq|rfl
theorem zfm {l:Array Bool} (hi:30<l.size) (h:l.getD 30 false=false):insN (l.setIfInBounds 30 true)=insN l+1∧insL (l.setIfInBounds 30 true) 5=true∧∀q,q≠5→insL (l.setIfInBounds 30 true) q=insL l q:=by
 refine⟨?_,zeq hi,fun q hq=>?_⟩
 ·unfold insN;simp only[zet _ _ _ hi,h];simp;try omega
 ·unfold insL;split<;>first|exact zes hi (by decide)|exact absurd rfl hq|rfl
theorem zfn {l:Array Bool} (hi:33<l.size) (h:l.getD 33 false=false):insN (l.setIfInBounds 33 true)=insN l+1∧insL (l.setIfInBounds 33 true) 6=true∧∀q,q≠6→insL (l.setIfInBounds 33 true) q=insL l q:=by
 refine⟨?_,zeq hi,fun q hq=>?_⟩
 ·unfold insN;simp only[zet _ _ _ hi,h];simp;try omega
 ·unfold insL;split<;>first|exact zes hi (by decide)|exact absurd rfl hq|rfl
theorem zfo {l:Array Bool} (hi:36<l.size) (h:l.getD 36 false=false):insN (l.setIfInBounds 36 true)=insN l+1∧insL (l.setIfInBounds 36 true) 7=true∧∀q,q≠7→insL (l.setIfInBounds 36 true) q=insL l q:=by
 refine⟨?_,zeq hi,fun q hq=>?_⟩
 ·unfold insN;simp only[zet _ _ _ hi,h];simp;try omega
 ·unfold insL;split<;>first|exact zes hi (by decide)|exact absurd rfl hq|rfl
def zax (B:Nat) (w:World) (e:Ending) (w':World):Prop:=∃(kb n:Nat) (pt tq:Nat→Nat),e=.returned (.map (some kb))∧w.heap.size≤kb∧SMap Tryz.prog 9 w' kb n (secF (fun _=>true) B pt tq)∧BxT B w w' (pt 0) (tq 0) 1∧BxT B w w' (pt 1) (tq 1) 2∧BxT B w w' (pt 2) (tq 2) 3∧Below w.heap.size w w'
theorem zdD (B:Nat) (w:World):Calls Tryz.prog 47 #[.pointer (some ⟨B,0,none⟩)] w (zax B w):=by
 have hmm:= @run_makeMap Tryz.prog;go_enter Tryz.func47,Tryz.ntmps47;go_wp2_with fail;refine wp_region_held_drew (S:=fun _=>True) (by kernel_rfl) trivial (fun hHeld=>?_);clear hHeld;have hHeld:True:=trivial;refine tkH 1 hHeld (v:=?_) ?_;simp only[tkS];refine tkH 2 hHeld (v:=?_) ?_;simp only[tkS];refine tkH 3 hHeld (v:=?_) ?_;simp only[tkS];refine tkH 4 hHeld (v:=?_) ?_;simp only[tkS];refine tkH 5 hHeld (v:=?_) ?_;simp only[tkS];refine tkH 8 hHeld (v:=?_) ?_;simp only[tkS];refine tkH 9 hHeld (v:=?_) ?_;simp only[tkS];refine tkH 10 hHeld (v:=?_) ?_;simp only[tkS];refine tkH 11 hHeld (v:=?_) ?_;simp only[tkS];refine tkH 12 hHeld (v:=?_) ?_;simp only[tkS];refine tkH 15 hHeld (v:=?_) ?_;simp only[tkS];refine tkH 16 hHeld (v:=?_) ?_;simp only[tkS];refine tkH 17 hHeld (v:=?_) ?_;simp only[tkS];refine tkH 18 hHeld (v:=?_) ?_;simp only[tkS];refine tkH 19 hHeld (v:=?_) ?_;simp only[tkS];refine tkH 22 hHeld (v:=?_) ?_;simp only[tkS];refine tkH 23 hHeld (v:=?_) ?_;simp only[tkS];refine tkH 25 hHeld (v:=?_) ?_;simp only[tkS];refine tkH 26 hHeld (v:=?_) ?_;simp only[tkS];refine tkH 28 hHeld (v:=?_) ?_;simp only[tkS];refine tkH 29 hHeld (v:=?_) ?_;simp only[tkS];refine tkH 31 hHeld (v:=?_) ?_;simp only[tkS];refine tkH 32 hHeld (v:=?_) ?_;simp only[tkS];refine tkH 34 hHeld (v:=?_) ?_;simp only[tkS];refine tkH 35 hHeld (v:=?_) ?_;simp only[tkS];refine zqf (I:=SecI B w) (fun l a w1 i o hI hi ho K' hK=>?_) (fun l a w1 hI hr=>?_) ?_ _ _ _ _ (by decide+kernel) ?_
 ·obtain⟨hr1,o',ho',haft⟩:=mem_ready.1 hi;rw[ho]at ho';obtain rfl:=Option.some.inj ho';have hlt:i<39:=(Array.getElem?_eq_some_iff.1 ho).1;obtain⟨hz,hp,hd,v2,v3,v9,v15,v21,v32,kb,pt,tq,rfl,hM,hM0,hc6,hi7,hc13,hi14,hc20,hi21,h37,h38⟩:=hI;obtain⟨p1,p2,p3,p4,p5,p8,p9,p10,p11,p12,p15,p16,p17,p18,p19,p22,p23,p25,p26,p28,p29,p31,p32,p34,p35⟩:=hp;rw[zep (by rw[hz];exact hlt)]at hr1;have hzi:i<l.size:=by rw[hz];exact hlt
  clear ho' hi;rcases(by omega:i=0∨i=1∨i=2∨i=3∨i=4∨i=5∨i=6∨i=7∨i=8∨i=9∨i=10∨i=11∨i=12∨i=13∨i=14∨i=15∨i=16∨i=17∨i=18∨i=19∨i=20∨i=21∨i=22∨i=23∨i=24∨i=25∨i=26∨i=27∨i=28∨i=29∨i=30∨i=31∨i=32∨i=33∨i=34∨i=35∨i=36∨i=37∨i=38)with rfl|rfl|rfl|rfl|rfl|rfl|rfl|rfl|rfl|rfl|rfl|rfl|rfl|rfl|rfl|rfl|rfl|rfl|rfl|rfl|rfl|rfl|rfl|rfl|rfl|rfl|rfl|rfl|rfl|rfl|rfl|rfl|rfl|rfl|rfl|rfl|rfl|rfl|rfl
  ·obtain rfl:=Option.some.inj ho;have hn0:=hM0 hr1;obtain⟨e1,e2⟩:=zfq hzi (by decide);have hal:Below w1.heap.size w1 (w1.alloc (.map #[] 0)):=(Below.refl _ _).alloc (Nat.le_refl _) _;go_simp;refine hK.out _ _ trivial ⟨by simpa using hz,⟨zer hzi p1,zer hzi p2,zer hzi p3,zer hzi p4,zer hzi p5,zer hzi p8,zer hzi p9,zer hzi p10,zer hzi p11,zer hzi p12,zer hzi p15,zer hzi p16,zer hzi p17,zer hzi p18,zer hzi p19,zer hzi p22,zer hzi p23,zer hzi p25,zer hzi p26,zer hzi p28,zer hzi p29,zer hzi p31,zer hzi p32,zer hzi p34,zer hzi p35⟩,hd.alloc hd.size _,v2,_,v9,v15,v21,v32,w1.heap.size,pt,tq,rfl,fun _=>⟨rfl,hd.size,?_⟩,fun h=>(by rw[zeq hzi]at h;cases h),fun h=>(by rw[zes hzi (by decide)]at h;exact⟨(hc6 h).1,(hc6 h).2.below hal⟩),fun h=>(by rw[zes hzi (by decide)]at h⊢;exact hi7 h),fun h=>(by rw[zes hzi (by decide)]at h;exact⟨(hc13 h).1,(hc13 h).2.below hal⟩),fun h=>(by rw[zes hzi (by decide)]at h⊢;exact hi14 h),fun h=>(by rw[zes hzi (by decide)]at h;exact⟨(hc20 h).1,(hc20 h).2.below hal⟩),fun h=>(by rw[zes hzi (by decide)]at h⊢;exact hi21 h),fun h=>(by rw[zes hzi (by decide)]at h;have:=(h37 h).1;rw[hr1]at this;cases this),fun h=>(by rw[zes hzi (by decide)]at h;have:=(h37 (h38 h).1).1;rw[hr1]at this;cases this)⟩;rw[e1,e2,hn0];exact(SMap.made w1 Tryz.prog 9).ext fun s=>(zmb (zfr hn0) s).symm
  ·rw[p1]at hr1;cases hr1
  ·rw[p2]at hr1;cases hr1
  ·rw[p3]at hr1;cases hr1
  ·rw[p4]at hr1;cases hr1
  ·rw[p5]at hr1;cases hr1
  ·obtain rfl:=Option.some.inj ho;obtain⟨e1,e2⟩:=zfq hzi (by decide);have hal:Below w1.heap.size w1 ((w1.alloc (.cells #[.pointer (some ⟨B,0,none⟩)] 85)).alloc (.cells #[.pointer (some ⟨B,1,none⟩)] 136)):=((Below.refl _ _).alloc (Nat.le_refl _) _).alloc (by simp) _
   have hnk:insL l 0=false:=by
    cases h:insL l 0 with
    |false=>rfl
    |true=>have:=hi7 h;rw[hr1]at this;cases this
   go_simp;refine(zdF B 1 w1).mono ?_;rintro e w2 ⟨rfl,rfl⟩;go_wp2_with fail;refine hK.out _ _ trivial ⟨by simpa using hz,⟨zer hzi p1,zer hzi p2,zer hzi p3,zer hzi p4,zer hzi p5,zer hzi p8,zer hzi p9,zer hzi p10,zer hzi p11,zer hzi p12,zer hzi p15,zer hzi p16,zer hzi p17,zer hzi p18,zer hzi p19,zer hzi p22,zer hzi p23,zer hzi p25,zer hzi p26,zer hzi p28,zer hzi p29,zer hzi p31,zer hzi p32,zer hzi p34,zer hzi p35⟩,hd.trans (hal.mono hd.size),v2,v3,_,v15,v21,v32,kb,(fun j=>if j=0 then w1.heap.size else pt j),(fun j=>if j=0 then w1.heap.size+1 else tq j),rfl,fun h=>?_,fun h=>(by rw[zes hzi (by decide)]at h;rw[e1];exact hM0 h),fun _=>⟨rfl,BxT.new B 1 w w1 hd.size⟩,fun h=>zeq hzi,fun h=>(by rw[zes hzi (by decide)]at h;exact⟨(hc13 h).1,(hc13 h).2.below hal⟩),fun h=>(by rw[zes hzi (by decide)]at h⊢;exact hi14 h),fun h=>(by rw[zes hzi (by decide)]at h;exact⟨(hc20 h).1,(hc20 h).2.below hal⟩),fun h=>(by rw[zes hzi (by decide)]at h⊢;exact hi21 h),fun h=>(by rw[zes hzi (by decide)]at h⊢;exact h37 h),fun h=>(by rw[zes hzi (by decide)]at h⊢;exact h38 h)⟩;rw[zes hzi (by decide)]at h;obtain⟨m1,m2,m3⟩:=hM h;refine⟨m1,m2,?_⟩;rw[e1,e2];exact((m3.alloc _).alloc _).ext fun s=>zmc hnk s
  ·obtain rfl:=Option.some.inj ho;have d0:=haft ⟨0,.data⟩ (by simp) rfl;have d1:=haft ⟨6,.data⟩ (by simp) rfl;obtain⟨ev,hbx⟩:=hc6 d1;subst ev;obtain⟨m1,m2,m3⟩:=hM d0;subst m1;obtain⟨e1,e2,e3⟩:=zfp hzi hr1
   have hnm:insN l<maxLen:=by
    have hb:∀b:Bool,b.toNat≤1:=by decide
    unfold insN maxLen;have:=hb (l.getD 7 false);have:=hb (l.getD 14 false);have:=hb (l.getD 21 false);have:=hb (l.getD 24 false);have:=hb (l.getD 27 false);have:=hb (l.getD 30 false);have:=hb (l.getD 33 false);have:=hb (l.getD 36 false);omega
   obtain⟨w2,r2,h2,g2⟩:=m3.put (t:=90) Tryz.underlying9 Tryz.underlying90 hnm (⟨#[36,100,97,116,101]⟩:ByteArray) (by unfold maxLen;decide) (txV (pt 0) (tq 0));go_simp;refine hK.out _ _ trivial ⟨by simpa using hz,⟨zer hzi p1,zer hzi p2,zer hzi p3,zer hzi p4,zer hzi p5,zer hzi p8,zer hzi p9,zer hzi p10,zer hzi p11,zer hzi p12,zer hzi p15,zer hzi p16,zer hzi p17,zer hzi p18,zer hzi p19,zer hzi p22,zer hzi p23,zer hzi p25,zer hzi p26,zer hzi p28,zer hzi p29,zer hzi p31,zer hzi p32,zer hzi p34,zer hzi p35⟩,hd.grown g2 hd.size (fun q hq=>by injection hq with hq;subst hq;exact m2),v2,_,_,v15,v21,v32,kb,pt,tq,rfl,fun h=>⟨rfl,m2,?_⟩,fun h=>(by rw[zes hzi (by decide),d0]at h;cases h),fun h=>⟨rfl,hbx.map m3 g2⟩,fun h=>(by rw[zes hzi (by decide)];exact d1),fun h=>(by rw[zes hzi (by decide)]at h;exact⟨(hc13 h).1,(hc13 h).2.map m3 g2⟩),fun h=>(by rw[zes hzi (by decide)]at h⊢;exact hi14 h),fun h=>(by rw[zes hzi (by decide)]at h;exact⟨(hc20 h).1,(hc20 h).2.map m3 g2⟩),fun h=>(by rw[zes hzi (by decide)]at h⊢;exact hi21 h),fun h=>(by rw[zes hzi (by decide)]at h⊢;exact h37 h),fun h=>(by rw[zes hzi (by decide)]at h⊢;exact h38 h)⟩;rw[e1];exact h2.ext fun s=>zmd (k:=0) (x:=zlw) rfl e2 e3 s
  ·rw[p8]at hr1;cases hr1
  ·rw[p9]at hr1;cases hr1
  ·rw[p10]at hr1;cases hr1
  ·rw[p11]at hr1;cases hr1
  ·rw[p12]at hr1;cases hr1
  ·obtain rfl:=Option.some.inj ho;obtain⟨e1,e2⟩:=zfq hzi (by decide);have hal:Below w1.heap.size w1 ((w1.alloc (.cells #[.pointer (some ⟨B,0,none⟩)] 85)).alloc (.cells #[.pointer (some ⟨B,2,none⟩)] 136)):=((Below.refl _ _).alloc (Nat.le_refl _) _).alloc (by simp) _
   have hnk:insL l 1=false:=by
    cases h:insL l 1 with
    |false=>rfl
    |true=>have:=hi14 h;rw[hr1]at this;cases this
   go_simp;refine(zdF B 2 w1).mono ?_;rintro e w2 ⟨rfl,rfl⟩;go_wp2_with fail;refine hK.out _ _ trivial ⟨by simpa using hz,⟨zer hzi p1,zer hzi p2,zer hzi p3,zer hzi p4,zer hzi p5,zer hzi p8,zer hzi p9,zer hzi p10,zer hzi p11,zer hzi p12,zer hzi p15,zer hzi p16,zer hzi p17,zer hzi p18,zer hzi p19,zer hzi p22,zer hzi p23,zer hzi p25,zer hzi p26,zer hzi p28,zer hzi p29,zer hzi p31,zer hzi p32,zer hzi p34,zer hzi p35⟩,hd.trans (hal.mono hd.size),v2,v3,v9,_,v21,v32,kb,(fun j=>if j=1 then w1.heap.size else pt j),(fun j=>if j=1 then w1.heap.size+1 else tq j),rfl,fun h=>?_,fun h=>(by rw[zes hzi (by decide)]at h;rw[e1];exact hM0 h),fun h=>(by rw[zes hzi (by decide)]at h;exact⟨(hc6 h).1,(hc6 h).2.below hal⟩),fun h=>(by rw[zes hzi (by decide)]at h⊢;exact hi7 h),fun _=>⟨rfl,BxT.new B 2 w w1 hd.size⟩,fun h=>zeq hzi,fun h=>(by rw[zes hzi (by decide)]at h;exact⟨(hc20 h).1,(hc20 h).2.below hal⟩),fun h=>(by rw[zes hzi (by decide)]at h⊢;exact hi21 h),fun h=>(by rw[zes hzi (by decide)]at h⊢;exact h37 h),fun h=>(by rw[zes hzi (by decide)]at h⊢;exact h38 h)⟩;rw[zes hzi (by decide)]at h;obtain⟨m1,m2,m3⟩:=hM h;refine⟨m1,m2,?_⟩;rw[e1,e2];exact((m3.alloc _).alloc _).ext fun s=>zmc hnk s
  ·obtain rfl:=Option.some.inj ho;have d0:=haft ⟨0,.data⟩ (by simp) rfl;have d1:=haft ⟨13,.data⟩ (by simp) rfl;obtain⟨ev,hbx⟩:=hc13 d1;subst ev;obtain⟨m1,m2,m3⟩:=hM d0;subst m1;obtain⟨e1,e2,e3⟩:=zfi hzi hr1
   have hnm:insN l<maxLen:=by
    have hb:∀b:Bool,b.toNat≤1:=by decide
    unfold insN maxLen;have:=hb (l.getD 7 false);have:=hb (l.getD 14 false);have:=hb (l.getD 21 false);have:=hb (l.getD 24 false);have:=hb (l.getD 27 false);have:=hb (l.getD 30 false);have:=hb (l.getD 33 false);have:=hb (l.getD 36 false);omega
   obtain⟨w2,r2,h2,g2⟩:=m3.put (t:=90) Tryz.underlying9 Tryz.underlying90 hnm (⟨#[36,118,101,114,115,105,111,110]⟩:ByteArray) (by unfold maxLen;decide) (txV (pt 1) (tq 1));go_simp;refine hK.out _ _ trivial ⟨by simpa using hz,⟨zer hzi p1,zer hzi p2,zer hzi p3,zer hzi p4,zer hzi p5,zer hzi p8,zer hzi p9,zer hzi p10,zer hzi p11,zer hzi p12,zer hzi p15,zer hzi p16,zer hzi p17,zer hzi p18,zer hzi p19,zer hzi p22,zer hzi p23,zer hzi p25,zer hzi p26,zer hzi p28,zer hzi p29,zer hzi p31,zer hzi p32,zer hzi p34,zer hzi p35⟩,hd.grown g2 hd.size (fun q hq=>by injection hq with hq;subst hq;exact m2),v2,_,v9,_,v21,v32,kb,pt,tq,rfl,fun h=>⟨rfl,m2,?_⟩,fun h=>(by rw[zes hzi (by decide),d0]at h;cases h),fun h=>(by rw[zes hzi (by decide)]at h;exact⟨(hc6 h).1,(hc6 h).2.map m3 g2⟩),fun h=>(by rw[zes hzi (by decide)]at h⊢;exact hi7 h),fun h=>⟨rfl,hbx.map m3 g2⟩,fun h=>(by rw[zes hzi (by decide)];exact d1),fun h=>(by rw[zes hzi (by decide)]at h;exact⟨(hc20 h).1,(hc20 h).2.map m3 g2⟩),fun h=>(by rw[zes hzi (by decide)]at h⊢;exact hi21 h),fun h=>(by rw[zes hzi (by decide)]at h⊢;exact h37 h),fun h=>(by rw[zes hzi (by decide)]at h⊢;exact h38 h)⟩;rw[e1];exact h2.ext fun s=>zmd (k:=1) (x:=zlF) rfl e2 e3 s
  ·rw[p15]at hr1;cases hr1
  ·rw[p16]at hr1;cases hr1
  ·rw[p17]at hr1;cases hr1
  ·rw[p18]at hr1;cases hr1
  ·rw[p19]at hr1;cases hr1
  ·obtain rfl:=Option.some.inj ho;obtain⟨e1,e2⟩:=zfq hzi (by decide);have hal:Below w1.heap.size w1 ((w1.alloc (.cells #[.pointer (some ⟨B,0,none⟩)] 85)).alloc (.cells #[.pointer (some ⟨B,3,none⟩)] 136)):=((Below.refl _ _).alloc (Nat.le_refl _) _).alloc (by simp) _
   have hnk:insL l 2=false:=by
    cases h:insL l 2 with
    |false=>rfl
    |true=>have:=hi21 h;rw[hr1]at this;cases this
   go_simp;refine(zdF B 3 w1).mono ?_;rintro e w2 ⟨rfl,rfl⟩;go_wp2_with fail;refine hK.out _ _ trivial ⟨by simpa using hz,⟨zer hzi p1,zer hzi p2,zer hzi p3,zer hzi p4,zer hzi p5,zer hzi p8,zer hzi p9,zer hzi p10,zer hzi p11,zer hzi p12,zer hzi p15,zer hzi p16,zer hzi p17,zer hzi p18,zer hzi p19,zer hzi p22,zer hzi p23,zer hzi p25,zer hzi p26,zer hzi p28,zer hzi p29,zer hzi p31,zer hzi p32,zer hzi p34,zer hzi p35⟩,hd.trans (hal.mono hd.size),v2,v3,v9,v15,_,v32,kb,(fun j=>if j=2 then w1.heap.size else pt j),(fun j=>if j=2 then w1.heap.size+1 else tq j),rfl,fun h=>?_,fun h=>(by rw[zes hzi (by decide)]at h;rw[e1];exact hM0 h),fun h=>(by rw[zes hzi (by decide)]at h;exact⟨(hc6 h).1,(hc6 h).2.below hal⟩),fun h=>(by rw[zes hzi (by decide)]at h⊢;exact hi7 h),fun h=>(by rw[zes hzi (by decide)]at h;exact⟨(hc13 h).1,(hc13 h).2.below hal⟩),fun h=>(by rw[zes hzi (by decide)]at h⊢;exact hi14 h),fun _=>⟨rfl,BxT.new B 3 w w1 hd.size⟩,fun h=>zeq hzi,fun h=>(by rw[zes hzi (by decide)]at h⊢;exact h37 h),fun h=>(by rw[zes hzi (by decide)]at h⊢;exact h38 h)⟩;rw[zes hzi (by decide)]at h;obtain⟨m1,m2,m3⟩:=hM h;refine⟨m1,m2,?_⟩;rw[e1,e2];exact((m3.alloc _).alloc _).ext fun s=>zmc hnk s
  ·obtain rfl:=Option.some.inj ho;have d0:=haft ⟨0,.data⟩ (by simp) rfl;have d1:=haft ⟨20,.data⟩ (by simp) rfl;obtain⟨ev,hbx⟩:=hc20 d1;subst ev;obtain⟨m1,m2,m3⟩:=hM d0;subst m1;obtain⟨e1,e2,e3⟩:=zfj hzi hr1
   have hnm:insN l<maxLen:=by
    have hb:∀b:Bool,b.toNat≤1:=by decide
    unfold insN maxLen;have:=hb (l.getD 7 false);have:=hb (l.getD 14 false);have:=hb (l.getD 21 false);have:=hb (l.getD 24 false);have:=hb (l.getD 27 false);have:=hb (l.getD 30 false);have:=hb (l.getD 33 false);have:=hb (l.getD 36 false);omega
   obtain⟨w2,r2,h2,g2⟩:=m3.put (t:=90) Tryz.underlying9 Tryz.underlying90 hnm (⟨#[36,99,111,109,109,101,110,116]⟩:ByteArray) (by unfold maxLen;decide) (txV (pt 2) (tq 2));go_simp;refine hK.out _ _ trivial ⟨by simpa using hz,⟨zer hzi p1,zer hzi p2,zer hzi p3,zer hzi p4,zer hzi p5,zer hzi p8,zer hzi p9,zer hzi p10,zer hzi p11,zer hzi p12,zer hzi p15,zer hzi p16,zer hzi p17,zer hzi p18,zer hzi p19,zer hzi p22,zer hzi p23,zer hzi p25,zer hzi p26,zer hzi p28,zer hzi p29,zer hzi p31,zer hzi p32,zer hzi p34,zer hzi p35⟩,hd.grown g2 hd.size (fun q hq=>by injection hq with hq;subst hq;exact m2),v2,_,v9,v15,_,v32,kb,pt,tq,rfl,fun h=>⟨rfl,m2,?_⟩,fun h=>(by rw[zes hzi (by decide),d0]at h;cases h),fun h=>(by rw[zes hzi (by decide)]at h;exact⟨(hc6 h).1,(hc6 h).2.map m3 g2⟩),fun h=>(by rw[zes hzi (by decide)]at h⊢;exact hi7 h),fun h=>(by rw[zes hzi (by decide)]at h;exact⟨(hc13 h).1,(hc13 h).2.map m3 g2⟩),fun h=>(by rw[zes hzi (by decide)]at h⊢;exact hi14 h),fun h=>⟨rfl,hbx.map m3 g2⟩,fun h=>(by rw[zes hzi (by decide)];exact d1),fun h=>(by rw[zes hzi (by decide)]at h⊢;exact h37 h),fun h=>(by rw[zes hzi (by decide)]at h⊢;exact h38 h)⟩;rw[e1];exact h2.ext fun s=>zmd (k:=2) (x:=zlv) rfl e2 e3 s
  ·rw[p22]at hr1;cases hr1
  ·rw[p23]at hr1;cases hr1
  ·obtain rfl:=Option.some.inj ho;have d0:=haft ⟨0,.data⟩ (by simp) rfl;obtain⟨m1,m2,m3⟩:=hM d0;subst m1;obtain⟨e1,e2,e3⟩:=zfk hzi hr1
   have hnm:insN l<maxLen:=by
    have hb:∀b:Bool,b.toNat≤1:=by decide
    unfold insN maxLen;have:=hb (l.getD 7 false);have:=hb (l.getD 14 false);have:=hb (l.getD 21 false);have:=hb (l.getD 24 false);have:=hb (l.getD 27 false);have:=hb (l.getD 30 false);have:=hb (l.getD 33 false);have:=hb (l.getD 36 false);omega
   obtain⟨w2,r2,h2,g2⟩:=m3.put (t:=90) Tryz.underlying9 Tryz.underlying90 hnm (⟨#[36,116,105,109,101,115,99,97,108,101]⟩:ByteArray) (by unfold maxLen;decide) (mB 89 B);go_simp;refine hK.out _ _ trivial ⟨by simpa using hz,⟨zer hzi p1,zer hzi p2,zer hzi p3,zer hzi p4,zer hzi p5,zer hzi p8,zer hzi p9,zer hzi p10,zer hzi p11,zer hzi p12,zer hzi p15,zer hzi p16,zer hzi p17,zer hzi p18,zer hzi p19,zer hzi p22,zer hzi p23,zer hzi p25,zer hzi p26,zer hzi p28,zer hzi p29,zer hzi p31,zer hzi p32,zer hzi p34,zer hzi p35⟩,hd.grown g2 hd.size (fun q hq=>by injection hq with hq;subst hq;exact m2),v2,_,v9,v15,v21,v32,kb,pt,tq,rfl,fun h=>⟨rfl,m2,?_⟩,fun h=>(by rw[zes hzi (by decide),d0]at h;cases h),fun h=>(by rw[zes hzi (by decide)]at h;exact⟨(hc6 h).1,(hc6 h).2.map m3 g2⟩),fun h=>(by rw[zes hzi (by decide)]at h⊢;exact hi7 h),fun h=>(by rw[zes hzi (by decide)]at h;exact⟨(hc13 h).1,(hc13 h).2.map m3 g2⟩),fun h=>(by rw[zes hzi (by decide)]at h⊢;exact hi14 h),fun h=>(by rw[zes hzi (by decide)]at h;exact⟨(hc20 h).1,(hc20 h).2.map m3 g2⟩),fun h=>(by rw[zes hzi (by decide)]at h⊢;exact hi21 h),fun h=>(by rw[zes hzi (by decide)]at h⊢;exact h37 h),fun h=>(by rw[zes hzi (by decide)]at h⊢;exact h38 h)⟩;rw[e1];exact h2.ext fun s=>zmd (k:=3) (x:=zlD) rfl e2 e3 s
  ·rw[p25]at hr1;cases hr1
  ·rw[p26]at hr1;cases hr1
  ·obtain rfl:=Option.some.inj ho;have d0:=haft ⟨0,.data⟩ (by simp) rfl;obtain⟨m1,m2,m3⟩:=hM d0;subst m1;obtain⟨e1,e2,e3⟩:=zfl hzi hr1
   have hnm:insN l<maxLen:=by
    have hb:∀b:Bool,b.toNat≤1:=by decide
    unfold insN maxLen;have:=hb (l.getD 7 false);have:=hb (l.getD 14 false);have:=hb (l.getD 21 false);have:=hb (l.getD 24 false);have:=hb (l.getD 27 false);have:=hb (l.getD 30 false);have:=hb (l.getD 33 false);have:=hb (l.getD 36 false);omega
   obtain⟨w2,r2,h2,g2⟩:=m3.put (t:=90) Tryz.underlying9 Tryz.underlying90 hnm (⟨#[36,115,99,111,112,101]⟩:ByteArray) (by unfold maxLen;decide) (mB 90 B);go_simp;refine hK.out _ _ trivial ⟨by simpa using hz,⟨zer hzi p1,zer hzi p2,zer hzi p3,zer hzi p4,zer hzi p5,zer hzi p8,zer hzi p9,zer hzi p10,zer hzi p11,zer hzi p12,zer hzi p15,zer hzi p16,zer hzi p17,zer hzi p18,zer hzi p19,zer hzi p22,zer hzi p23,zer hzi p25,zer hzi p26,zer hzi p28,zer hzi p29,zer hzi p31,zer hzi p32,zer hzi p34,zer hzi p35⟩,hd.grown g2 hd.size (fun q hq=>by injection hq with hq;subst hq;exact m2),v2,_,v9,v15,v21,v32,kb,pt,tq,rfl,fun h=>⟨rfl,m2,?_⟩,fun h=>(by rw[zes hzi (by decide),d0]at h;cases h),fun h=>(by rw[zes hzi (by decide)]at h;exact⟨(hc6 h).1,(hc6 h).2.map m3 g2⟩),fun h=>(by rw[zes hzi (by decide)]at h⊢;exact hi7 h),fun h=>(by rw[zes hzi (by decide)]at h;exact⟨(hc13 h).1,(hc13 h).2.map m3 g2⟩),fun h=>(by rw[zes hzi (by decide)]at h⊢;exact hi14 h),fun h=>(by rw[zes hzi (by decide)]at h;exact⟨(hc20 h).1,(hc20 h).2.map m3 g2⟩),fun h=>(by rw[zes hzi (by decide)]at h⊢;exact hi21 h),fun h=>(by rw[zes hzi (by decide)]at h⊢;exact h37 h),fun h=>(by rw[zes hzi (by decide)]at h⊢;exact h38 h)⟩;rw[e1];exact h2.ext fun s=>zmd (k:=4) (x:=zlC) rfl e2 e3 s
  ·rw[p28]at hr1;cases hr1
  ·rw[p29]at hr1;cases hr1
  ·obtain rfl:=Option.some.inj ho;have d0:=haft ⟨0,.data⟩ (by simp) rfl;obtain⟨m1,m2,m3⟩:=hM d0;subst m1;obtain⟨e1,e2,e3⟩:=zfm hzi hr1
   have hnm:insN l<maxLen:=by
    have hb:∀b:Bool,b.toNat≤1:=by decide
    unfold insN maxLen;have:=hb (l.getD 7 false);have:=hb (l.getD 14 false);have:=hb (l.getD 21 false);have:=hb (l.getD 24 false);have:=hb (l.getD 27 false);have:=hb (l.getD 30 false);have:=hb (l.getD 33 false);have:=hb (l.getD 36 false);omega
   obtain⟨w2,r2,h2,g2⟩:=m3.put (t:=90) Tryz.underlying9 Tryz.underlying90 hnm (⟨#[36,117,112,115,99,111,112,101]⟩:ByteArray) (by unfold maxLen;decide) (mB 91 B);go_simp;refine hK.out _ _ trivial ⟨by simpa using hz,⟨zer hzi p1,zer hzi p2,zer hzi p3,zer hzi p4,zer hzi p5,zer hzi p8,zer hzi p9,zer hzi p10,zer hzi p11,zer hzi p12,zer hzi p15,zer hzi p16,zer hzi p17,zer hzi p18,zer hzi p19,zer hzi p22,zer hzi p23,zer hzi p25,zer hzi p26,zer hzi p28,zer hzi p29,zer hzi p31,zer hzi p32,zer hzi p34,zer hzi p35⟩,hd.grown g2 hd.size (fun q hq=>by injection hq with hq;subst hq;exact m2),v2,_,v9,v15,v21,v32,kb,pt,tq,rfl,fun h=>⟨rfl,m2,?_⟩,fun h=>(by rw[zes hzi (by decide),d0]at h;cases h),fun h=>(by rw[zes hzi (by decide)]at h;exact⟨(hc6 h).1,(hc6 h).2.map m3 g2⟩),fun h=>(by rw[zes hzi (by decide)]at h⊢;exact hi7 h),fun h=>(by rw[zes hzi (by decide)]at h;exact⟨(hc13 h).1,(hc13 h).2.map m3 g2⟩),fun h=>(by rw[zes hzi (by decide)]at h⊢;exact hi14 h),fun h=>(by rw[zes hzi (by decide)]at h;exact⟨(hc20 h).1,(hc20 h).2.map m3 g2⟩),fun h=>(by rw[zes hzi (by decide)]at h⊢;exact hi21 h),fun h=>(by rw[zes hzi (by decide)]at h⊢;exact h37 h),fun h=>(by rw[zes hzi (by decide)]at h⊢;exact h38 h)⟩;rw[e1];exact h2.ext fun s=>zmd (k:=5) (x:=zlE) rfl e2 e3 s
  ·rw[p31]at hr1;cases hr1
  ·rw[p32]at hr1;cases hr1
  ·obtain rfl:=Option.some.inj ho;have d0:=haft ⟨0,.data⟩ (by simp) rfl;obtain⟨m1,m2,m3⟩:=hM d0;subst m1;obtain⟨e1,e2,e3⟩:=zfn hzi hr1
   have hnm:insN l<maxLen:=by
    have hb:∀b:Bool,b.toNat≤1:=by decide
    unfold insN maxLen;have:=hb (l.getD 7 false);have:=hb (l.getD 14 false);have:=hb (l.getD 21 false);have:=hb (l.getD 24 false);have:=hb (l.getD 27 false);have:=hb (l.getD 30 false);have:=hb (l.getD 33 false);have:=hb (l.getD 36 false);omega
   obtain⟨w2,r2,h2,g2⟩:=m3.put (t:=90) Tryz.underlying9 Tryz.underlying90 hnm (⟨#[36,118,97,114]⟩:ByteArray) (by unfold maxLen;decide) (mB 92 B);go_simp;refine hK.out _ _ trivial ⟨by simpa using hz,⟨zer hzi p1,zer hzi p2,zer hzi p3,zer hzi p4,zer hzi p5,zer hzi p8,zer hzi p9,zer hzi p10,zer hzi p11,zer hzi p12,zer hzi p15,zer hzi p16,zer hzi p17,zer hzi p18,zer hzi p19,zer hzi p22,zer hzi p23,zer hzi p25,zer hzi p26,zer hzi p28,zer hzi p29,zer hzi p31,zer hzi p32,zer hzi p34,zer hzi p35⟩,hd.grown g2 hd.size (fun q hq=>by injection hq with hq;subst hq;exact m2),v2,_,v9,v15,v21,v32,kb,pt,tq,rfl,fun h=>⟨rfl,m2,?_⟩,fun h=>(by rw[zes hzi (by decide),d0]at h;cases h),fun h=>(by rw[zes hzi (by decide)]at h;exact⟨(hc6 h).1,(hc6 h).2.map m3 g2⟩),fun h=>(by rw[zes hzi (by decide)]at h⊢;exact hi7 h),fun h=>(by rw[zes hzi (by decide)]at h;exact⟨(hc13 h).1,(hc13 h).2.map m3 g2⟩),fun h=>(by rw[zes hzi (by decide)]at h⊢;exact hi14 h),fun h=>(by rw[zes hzi (by decide)]at h;exact⟨(hc20 h).1,(hc20 h).2.map m3 g2⟩),fun h=>(by rw[zes hzi (by decide)]at h⊢;exact hi21 h),fun h=>(by rw[zes hzi (by decide)]at h⊢;exact h37 h),fun h=>(by rw[zes hzi (by decide)]at h⊢;exact h38 h)⟩;rw[e1];exact h2.ext fun s=>zmd (k:=6) (x:=sVar) rfl e2 e3 s
  ·rw[p34]at hr1;cases hr1
  ·rw[p35]at hr1;cases hr1
  ·obtain rfl:=Option.some.inj ho;have d0:=haft ⟨0,.data⟩ (by simp) rfl;obtain⟨m1,m2,m3⟩:=hM d0;subst m1;obtain⟨e1,e2,e3⟩:=zfo hzi hr1
   have hnm:insN l<maxLen:=by
    have hb:∀b:Bool,b.toNat≤1:=by decide
    unfold insN maxLen;have:=hb (l.getD 7 false);have:=hb (l.getD 14 false);have:=hb (l.getD 21 false);have:=hb (l.getD 24 false);have:=hb (l.getD 27 false);have:=hb (l.getD 30 false);have:=hb (l.getD 33 false);have:=hb (l.getD 36 false);omega
   obtain⟨w2,r2,h2,g2⟩:=m3.put (t:=90) Tryz.underlying9 Tryz.underlying90 hnm (⟨#[36,101,110,100,100,101,102,105,110,105,116,105,111,110,115]⟩:ByteArray) (by unfold maxLen;decide) (mB 93 B);go_simp;refine hK.out _ _ trivial ⟨by simpa using hz,⟨zer hzi p1,zer hzi p2,zer hzi p3,zer hzi p4,zer hzi p5,zer hzi p8,zer hzi p9,zer hzi p10,zer hzi p11,zer hzi p12,zer hzi p15,zer hzi p16,zer hzi p17,zer hzi p18,zer hzi p19,zer hzi p22,zer hzi p23,zer hzi p25,zer hzi p26,zer hzi p28,zer hzi p29,zer hzi p31,zer hzi p32,zer hzi p34,zer hzi p35⟩,hd.grown g2 hd.size (fun q hq=>by injection hq with hq;subst hq;exact m2),v2,_,v9,v15,v21,v32,kb,pt,tq,rfl,fun h=>⟨rfl,m2,?_⟩,fun h=>(by rw[zes hzi (by decide),d0]at h;cases h),fun h=>(by rw[zes hzi (by decide)]at h;exact⟨(hc6 h).1,(hc6 h).2.map m3 g2⟩),fun h=>(by rw[zes hzi (by decide)]at h⊢;exact hi7 h),fun h=>(by rw[zes hzi (by decide)]at h;exact⟨(hc13 h).1,(hc13 h).2.map m3 g2⟩),fun h=>(by rw[zes hzi (by decide)]at h⊢;exact hi14 h),fun h=>(by rw[zes hzi (by decide)]at h;exact⟨(hc20 h).1,(hc20 h).2.map m3 g2⟩),fun h=>(by rw[zes hzi (by decide)]at h⊢;exact hi21 h),fun h=>(by rw[zes hzi (by decide)]at h⊢;exact h37 h),fun h=>(by rw[zes hzi (by decide)]at h⊢;exact h38 h)⟩;rw[e1];exact h2.ext fun s=>zmd (k:=7) (x:=zlB) rfl e2 e3 s
  ·obtain rfl:=Option.some.inj ho;have d0:=haft ⟨0,.data⟩ (by simp) rfl;obtain⟨m1,m2,m3⟩:=hM d0;subst m1;obtain⟨e1,e2⟩:=zfq hzi (by decide);go_simp;refine hK.out _ _ trivial ⟨by simpa using hz,⟨zer hzi p1,zer hzi p2,zer hzi p3,zer hzi p4,zer hzi p5,zer hzi p8,zer hzi p9,zer hzi p10,zer hzi p11,zer hzi p12,zer hzi p15,zer hzi p16,zer hzi p17,zer hzi p18,zer hzi p19,zer hzi p22,zer hzi p23,zer hzi p25,zer hzi p26,zer hzi p28,zer hzi p29,zer hzi p31,zer hzi p32,zer hzi p34,zer hzi p35⟩,hd,v2,_,v9,v15,v21,_,kb,pt,tq,rfl,fun h=>⟨rfl,m2,by rw[e1,e2];exact m3⟩,fun h=>(by rw[zes hzi (by decide),d0]at h;cases h),fun h=>(by rw[zes hzi (by decide)]at h;exact hc6 h),fun h=>(by rw[zes hzi (by decide)]at h⊢;exact hi7 h),fun h=>(by rw[zes hzi (by decide)]at h;exact hc13 h),fun h=>(by rw[zes hzi (by decide)]at h⊢;exact hi14 h),fun h=>(by rw[zes hzi (by decide)]at h;exact hc20 h),fun h=>(by rw[zes hzi (by decide)]at h⊢;exact hi21 h),fun h=>⟨by rw[zes hzi (by decide)];exact d0,rfl⟩,fun h=>(by rw[zes hzi (by decide)]at h;have:=(h38 h).1;rw[hr1]at this;cases this)⟩
  ·obtain rfl:=Option.some.inj ho;have d37:=haft ⟨37,.data⟩ (by simp) rfl;obtain⟨q0,q1⟩:=h37 d37;subst q1;obtain⟨m1,m2,m3⟩:=hM q0;subst m1;obtain⟨e1,e2⟩:=zfq hzi (by decide);go_simp;refine hK.out _ _ trivial ⟨by simpa using hz,⟨zer hzi p1,zer hzi p2,zer hzi p3,zer hzi p4,zer hzi p5,zer hzi p8,zer hzi p9,zer hzi p10,zer hzi p11,zer hzi p12,zer hzi p15,zer hzi p16,zer hzi p17,zer hzi p18,zer hzi p19,zer hzi p22,zer hzi p23,zer hzi p25,zer hzi p26,zer hzi p28,zer hzi p29,zer hzi p31,zer hzi p32,zer hzi p34,zer hzi p35⟩,hd,.map (some kb),.map (some kb),v9,v15,v21,.map (some kb),kb,pt,tq,rfl,fun h=>(by rw[zes hzi (by decide)]at h;rw[e1,e2];exact hM h),fun h=>(by rw[zes hzi (by decide)]at h;rw[e1];exact hM0 h),fun h=>(by rw[zes hzi (by decide)]at h;exact hc6 h),fun h=>(by rw[zes hzi (by decide)]at h⊢;exact hi7 h),fun h=>(by rw[zes hzi (by decide)]at h;exact hc13 h),fun h=>(by rw[zes hzi (by decide)]at h⊢;exact hi14 h),fun h=>(by rw[zes hzi (by decide)]at h;exact hc20 h),fun h=>(by rw[zes hzi (by decide)]at h⊢;exact hi21 h),fun h=>(by rw[zes hzi (by decide)]at h⊢;exact⟨(h37 h).1,rfl⟩),fun h=>⟨by rw[zes hzi (by decide)];exact d37,rfl⟩⟩
 ·obtain⟨hz,hp,hd,v2,v3,v9,v15,v21,v32,kb,pt,tq,rfl,hM,hM0,hc6,hi7,hc13,hi14,hc20,hi21,h37,h38⟩:=hI;obtain⟨p1,p2,p3,p4,p5,p8,p9,p10,p11,p12,p15,p16,p17,p18,p19,p22,p23,p25,p26,p28,p29,p31,p32,p34,p35⟩:=hp;have hz':=hz;have g0:=zg2 hr hz (i:=0) rfl (fun e he _=>by simp at he)
  have g6:=zg2 hr hz (i:=6) rfl (fun e he _=>by
   simp at he;rcases he with rfl|rfl<;>assumption)
  have g13:=zg2 hr hz (i:=13) rfl (fun e he _=>by
   simp at he;rcases he with rfl|rfl|rfl<;>assumption)
  have g20:=zg2 hr hz (i:=20) rfl (fun e he _=>by
   simp at he;rcases he with rfl|rfl|rfl<;>assumption)
  have g7:=zg2 hr hz (i:=7) rfl (fun e he _=>by
   simp at he;rcases he with rfl|rfl<;>assumption)
  have g14:=zg2 hr hz (i:=14) rfl (fun e he _=>by
   simp at he;rcases he with rfl|rfl<;>assumption)
  have g21:=zg2 hr hz (i:=21) rfl (fun e he _=>by
   simp at he;rcases he with rfl|rfl<;>assumption)
  have g24:=zg2 hr hz (i:=24) rfl (fun e he _=>by
   simp at he;rcases he with rfl|rfl<;>assumption)
  have g27:=zg2 hr hz (i:=27) rfl (fun e he _=>by
   simp at he;rcases he with rfl|rfl<;>assumption)
  have g30:=zg2 hr hz (i:=30) rfl (fun e he _=>by
   simp at he;rcases he with rfl|rfl<;>assumption)
  have g33:=zg2 hr hz (i:=33) rfl (fun e he _=>by
   simp at he;rcases he with rfl|rfl<;>assumption)
  have g36:=zg2 hr hz (i:=36) rfl (fun e he _=>by
   simp at he;rcases he with rfl|rfl<;>assumption)
  have ha37:∀j,j<37→l.getD j false=true:=fun j hj=>by
   rcases(by omega:j=0∨j=1∨j=2∨j=3∨j=4∨j=5∨j=6∨j=7∨j=8∨j=9∨j=10∨j=11∨j=12∨j=13∨j=14∨j=15∨j=16∨j=17∨j=18∨j=19∨j=20∨j=21∨j=22∨j=23∨j=24∨j=25∨j=26∨j=27∨j=28∨j=29∨j=30∨j=31∨j=32∨j=33∨j=34∨j=35∨j=36)with rfl|rfl|rfl|rfl|rfl|rfl|rfl|rfl|rfl|rfl|rfl|rfl|rfl|rfl|rfl|rfl|rfl|rfl|rfl|rfl|rfl|rfl|rfl|rfl|rfl|rfl|rfl|rfl|rfl|rfl|rfl|rfl|rfl|rfl|rfl|rfl|rfl<;>assumption
  have g37:=zg1 hr hz (i:=37) (n:=37) rfl (by kernel_rfl) ha37
  have ha38:∀j,j<38→l.getD j false=true:=fun j hj=>by
   rcases Nat.lt_or_ge j 37 with h|h
   ·exact ha37 j h
   ·obtain rfl:j=37:=by omega
    exact g37
  have g38:=zg1 hr hz (i:=38) (n:=38) rfl (by kernel_rfl) ha38;obtain⟨m1,m2,m3⟩:=hM g0;obtain⟨-,e38⟩:=h38 g38;subst m1 e38;have HM:=lhd m3;have HC0:=lhd (hc6 g6).2;have HC1:=lhd (hc13 g13).2;have HC2:=lhd (hc20 g20).2;have HD:=lhd hd
  have HI:=lhd (show ∀k,k<8→insL l k=true from fun k hk=>by
   rcases(by omega:k=0∨k=1∨k=2∨k=3∨k=4∨k=5∨k=6∨k=7)with rfl|rfl|rfl|rfl|rfl|rfl|rfl|rfl<;>assumption)
  clear hM hM0 hc6 hc13 hc20 hi7 hi14 hi21 h37 h38 m3 hd hr ha37 ha38;go_wp2_with fail;go_ret;refine⟨kb,_,pt,tq,rfl,m2,HM.out.ext fun s=>?_,HC0.out,HC1.out,HC2.out,HD.out⟩;unfold secF;cases hf:secL.findIdx? (fun y=>decide (y=s))with
  |none=>rfl
  |some j=>
   dsimp only;rw[HI.out j (List.findIdx?_eq_some_iff_getElem.1 hf).1]
 ·exact fun l a w1 hI=>hI.z
 ·exact⟨by decide+kernel,⟨by decide+kernel,by decide+kernel,by decide+kernel,by decide+kernel,by decide+kernel,by decide+kernel,by decide+kernel,by decide+kernel,by decide+kernel,by decide+kernel,by decide+kernel,by decide+kernel,by decide+kernel,by decide+kernel,by decide+kernel,by decide+kernel,by decide+kernel,by decide+kernel,by decide+kernel,by decide+kernel,by decide+kernel,by decide+kernel,by decide+kernel,by decide+kernel,by decide+kernel⟩,(Below.refl _ _).drew,_,_,_,_,_,_,0,fun _=>0,fun _=>0,rfl,fun h=>absurd h (by decide+kernel),fun _=>by decide+kernel,fun h=>absurd h (by decide+kernel),fun h=>absurd h (by decide+kernel),fun h=>absurd h (by decide+kernel),fun h=>absurd h (by decide+kernel),fun h=>absurd h (by decide+kernel),fun h=>absurd h (by decide+kernel),fun h=>absurd h (by decide+kernel),fun h=>absurd h (by decide+kernel)⟩
open Go.RowKit
set_option linter.unusedSimpArgs false
theorem zrH {S:List Sc} {j:Nat} (h:j<S.length):parS S j=S[j].2.2:=by
 unfold parS;rw[List.getD,List.getElem?_eq_getElem h];rfl
theorem zsk (v:Value) (S:List Sc) (outer i0:Int) (f0:Nat) (w:World) (hs:SlR w v S.length (scs S)) (hF:Fst (parS S) S.length) (ho:0≤outer) (hi:i0<(S.length:Int)) (hi2: -1≤i0) (hf:i0≤(f0:Int)):
 Calls Tryz.prog 131 #[v,.int .i64 outer,.int .i64 i0] w fun e w'=>e=.returned (.bool (insF (parS S) f0 outer i0))∧w=w':=by
 obtain⟨a,cap,rfl,hc,hm⟩:=hs.shape;unfold maxLen at hm;have HS:=lhd hs;have HF:=lhd hF;clear hs hF;obtain⟨R,hR⟩:∃R,R=insF (parS S) f0 outer i0:=⟨_,rfl⟩;rw[←hR];have HR:=lhd hR;clear hR;go_enter Tryz.func131,Tryz.ntmps131;go_wp2_with fail
 go_loopw [2] (fun u wr=>∃(i:Int) (f:Nat),u=.int .i64 i∧ -1≤i∧i<(S.length:Int)∧i≤(f:Int)∧R=insF (parS S) f outer i∧w=wr)
  (fun u _=>(intOf u+1).toNat)
 case atStart=>exact⟨i0,f0,rfl,hi2,hi,hf,HR.out,rfl⟩
 case round=>
  obtain⟨i,f,rfl,h1,h2,h3,hgo,rfl⟩:=hrel;have HGO:=lhd hgo;clear hgo;by_cases hlt:outer<i
  ·obtain⟨j,rfl⟩:∃j:Nat,i=(j:Int):=⟨i.toNat,by omega⟩;have hjl:j<S.length:=by omega
   obtain⟨g,rfl⟩:∃g,f=g+1:=⟨f-1,by omega⟩;obtain⟨b,o,rfl,hcell⟩:=HS.out.scs hjl;have d2:w.cell? ⟨b,o+j*3+2,none⟩=some (.int .i64 S[j].2.2):=hcell 2 _ rfl;have hfs:=HF.out j hjl;rw[zrH hjl]at hfs
   have HNX:=lhd (show R=insF (parS S) g outer S[j].2.2 by
    rw[HGO.out];show(if(j:Int)≤outer then decide ((j:Int)=outer)else insF (parS S) g outer (parS S (j:Int).toNat))=_;rw[if_neg (by omega),Int.toNat_natCast,zrH hjl])
   generalize S[j].2.2=x at*;clear hcell;have hj0:(0:Int)≤(j:Int):=by omega
   go_wp2_with fail;go_roundw;case rel=>exact⟨x,g,rfl,hfs.1,by omega,by omega,HNX.out,by first|trivial|rfl⟩
   case measure=>simp[intOf];omega
  ·have hle:i≤outer:=by omega
   have HE:=lhd (HGO.out.trans (zfh hle));by_cases he:i=outer
   ·have HR2:=lhd (show R=true by rw[HE.out,decide_eq_true he]);have hb:(i==outer)=true:=by rw[beq_iff_eq];exact he
    clear he;go_wp2_with fail;go_ret;exact⟨zle HR2.out.symm,rfl⟩
   ·have HR2:=lhd (show R=false by rw[HE.out,decide_eq_false he]);have hb:(i==outer)=false:=by rw[beq_eq_false_iff_ne];exact he
    clear he;go_wp2_with fail;go_ret;exact⟨zle HR2.out.symm,rfl⟩
def zsv (x y:Vr):Bool:=decide (x.nm=y.nm)&&(decide (x.rg=y.rg)&&(decide (x.mb=y.mb)&&decide (x.lb=y.lb)))
theorem zsw {x y:Vr}:zsv x y=true↔x.nm=y.nm∧x.rg=y.rg∧x.mb=y.mb∧x.lb=y.lb:=by
 unfold zsv;simp only[Bool.and_eq_true,decide_eq_true_iff]
theorem zsr (x y:Vr) (w:World):Calls Tryz.prog 164 #[vrV x,vrV y] w fun e w'=>e=.returned (.bool (zsv x y))∧Below w.heap.size w w':=by
 obtain⟨R,hR⟩:∃R,R=zsv x y:=⟨_,rfl⟩;rw[←hR]
 have hn:∀(h:¬(x.nm=y.nm∧x.rg=y.rg∧x.mb=y.mb∧x.lb=y.lb)),R=false:=fun h=>by
  rw[hR,←Bool.not_eq_true,zsw];exact h
 have hy:x.nm=y.nm→x.rg=y.rg→x.mb=y.mb→x.lb=y.lb→R=true:=fun a b c d=>by rw[hR,zsw];exact⟨a,b,c,d⟩
 have HB:=lhd (show Below w.heap.size w ((w.alloc (.cells #[.string (bsB x.nm),.int .i64 x.ty,.int .i64 x.sc,.int .i64 x.sg,.bool x.rg,.int .i64 x.mb,.int .i64 x.lb] 48)).alloc (.cells #[.string (bsB y.nm),.int .i64 y.ty,.int .i64 y.sc,.int .i64 y.sg,.bool y.rg,.int .i64 y.mb,.int .i64 y.lb] 48))from((Below.refl _ _).alloc (Nat.le_refl _) _).alloc (by simp) _);have HN:=lhd hn;have HY:=lhd hy;obtain⟨nm,ty,sc,sg,rg,mb,lb⟩:=x;obtain⟨nm2,ty2,sc2,sg2,rg2,mb2,lb2⟩:=y;dsimp only at*;clear hn hy hR;by_cases h0:nm=nm2
 rotate_left
 ·have HR:=lhd (HN.out fun h=>h0 h.1);have hss:=zaW (zbl h0);clear h0 HN HY;go_enter Tryz.func164,Tryz.ntmps164;go_wp2_with fail;go_ret;exact⟨zle HR.out.symm,HB.out⟩
 subst h0;by_cases h1:rg=rg2
 rotate_left
 ·have HR:=lhd (HN.out fun h=>h1 h.2.1);have hbb:(rg=true∧rg2=false)∨(rg=false∧rg2=true):=by cases rg<;>cases rg2<;>simp_all
  clear h1 HN HY;rcases hbb with⟨rfl,rfl⟩|⟨rfl,rfl⟩
  ·skip
   go_enter Tryz.func164,Tryz.ntmps164;go_wp2_with fail;go_ret;exact⟨zle HR.out.symm,HB.out⟩
  ·skip
   go_enter Tryz.func164,Tryz.ntmps164;go_wp2_with fail;go_ret;exact⟨zle HR.out.symm,HB.out⟩
 subst h1;by_cases h2:mb=mb2
 rotate_left
 ·have HR:=lhd (HN.out fun h=>h2 h.2.2.1);have hnb:(mb==mb2)=false:=by rw[beq_eq_false_iff_ne];exact h2
  clear h2 HN HY;go_enter Tryz.func164,Tryz.ntmps164;go_wp2_with fail;go_ret;exact⟨zle HR.out.symm,HB.out⟩
 subst h2;by_cases h3:lb=lb2
 rotate_left
 ·have HR:=lhd (HN.out fun h=>h3 h.2.2.2);have hnb:(lb==lb2)=false:=by rw[beq_eq_false_iff_ne];exact h3
  clear h3 HN HY;go_enter Tryz.func164,Tryz.ntmps164;go_wp2_with fail;go_ret;exact⟨zle HR.out.symm,HB.out⟩
 subst h3;have HR:=lhd (HY.out rfl rfl rfl rfl);clear HN HY;go_enter Tryz.func164,Tryz.ntmps164;go_wp2_with fail;go_ret;exact⟨zle HR.out.symm,HB.out⟩
theorem zsq (c:UInt8) (w:World):Calls Tryz.prog 132 #[.int .u8 (c.toNat:Int)] w fun e w'=>e=.returned (.bool (prn c))∧w=w':=by
 obtain⟨R,hR⟩:∃R,R=prn c:=⟨_,rfl⟩;rw[←hR];unfold prn at hR;generalize c.toNat=n at*;by_cases h1:33≤n
 ·have b1:decide (33≤(n:Int))=true:=by rw[decide_eq_true_iff];omega
  by_cases h2:n≤126
  ·have b2:decide ((n:Int)≤126)=true:=by rw[decide_eq_true_iff];omega
   have HR:=lhd (show R=true by rw[hR,decide_eq_true h1,decide_eq_true h2];rfl);clear hR h1 h2;go_enter Tryz.func132,Tryz.ntmps132;go_wp2_with fail;go_ret;exact⟨zle HR.out.symm,rfl⟩
  ·have b2:decide ((n:Int)≤126)=false:=by rw[decide_eq_false_iff_not];omega
   have HR:=lhd (show R=false by rw[hR,decide_eq_false h2,Bool.and_false]);clear hR h1 h2;go_enter Tryz.func132,Tryz.ntmps132;go_wp2_with fail;go_ret;exact⟨zle HR.out.symm,rfl⟩
 ·have b1:decide (33≤(n:Int))=false:=by rw[decide_eq_false_iff_not];omega
  have HR:=lhd (show R=false by rw[hR,decide_eq_false h1,Bool.false_and]);clear hR h1;go_enter Tryz.func132,Tryz.ntmps132;go_wp2_with fail;go_ret;exact⟨zle HR.out.symm,rfl⟩
theorem zsp (s:ByteArray) (w:World) (hm:s.size≤1000000):Calls Tryz.prog 166 #[.string s] w fun e w'=>e=.returned (.bool (s.data.toList.all prn))∧w=w':=by
 obtain⟨R,hR⟩:∃R,R=s.data.toList.all prn:=⟨_,rfl⟩;rw[←hR];have HRR:=lhd hR;clear hR;go_enter Tryz.func166,Tryz.ntmps166;go_wp2_with fail;go_loopw [3] (fun i wr=>∃k:Nat,k≤s.size∧i=.int .i64 k∧(s.data.toList.take k).all prn=true∧w=wr) (fun i _=>s.size-(intOf i).toNat)
 case atStart=>exact⟨0,Nat.zero_le _,rfl,rfl,rfl⟩
 case round=>
  obtain⟨k,hk,rfl,hall,rfl⟩:=hrel;have HA:=lhd hall;clear hall;by_cases hlt:k<s.size
  ·have hlt2:(k:Int)<(s.size:Int):=by omega
   have HT:=lhd (zaG (p:=prn) hlt);have HN:=lhd (fun h=>zaF (p:=prn) hlt h);have HP:=lhd (zsq (s[k]'hlt) w);have hw1:=zrz k (by omega);cases hp:prn (s[k]'hlt)
   ·have HR:=lhd (show s.data.toList.all prn=false from HN.out hp);rw[hp]at HP;clear hp;go_wp2_with fail;refine HP.out.mono ?_;rintro e w1 ⟨rfl,rfl⟩;go_wp2_with fail;go_ret;exact⟨zle (HRR.out.trans HR.out).symm,rfl⟩
   ·have HA2:=lhd (show(s.data.toList.take (k+1)).all prn=true by
     rw[HT.out,HA.out,hp];rfl)
    rw[hp]at HP;clear hp;go_wp2_with fail;refine HP.out.mono ?_;rintro e w1 ⟨rfl,rfl⟩;go_wp2_with fail;go_roundw;case rel=>exact⟨k+1,by omega,by go_num,HA2.out,by first|trivial|rfl⟩
    case measure=>simp[intOf];omega
  ·obtain rfl:k=s.size:=by omega
   have HR:=lhd (show s.data.toList.all prn=true by
    have:=HA.out;rwa [List.take_of_length_le (by simp)]at this)
   go_wp2_with fail;go_ret;exact⟨zle (HRR.out.trans HR.out).symm,rfl⟩
theorem zrc {s:ByteArray} {k:Nat} (h:k<s.size) {c:UInt8}:(s.data.toList.take (k+1)).contains c=((s.data.toList.take k).contains c||(s[k]'h==c)):=by
 have hl:k<s.data.toList.length:=by simpa using h
 have e:s.data.toList[k]=s[k]:=by simp;rfl
 rw[List.take_succ_eq_append_getElem hl,e,Bool.eq_iff_iff];simp only[List.contains_iff_mem,List.mem_append,List.mem_singleton,Bool.or_eq_true,beq_iff_eq];exact⟨fun h=>h.imp_right Eq.symm,fun h=>h.imp_right Eq.symm⟩
theorem zsl (s:ByteArray) (c:UInt8) (z:Int) (hz:(c.toNat:Int)=z) (w:World) (hm:s.size≤1000000):Calls Tryz.prog 167 #[.string s,.int .u8 z,.int .i64 0] w fun e w'=>(∃r:Int,e=.returned (.int .i64 r)∧decide (r<0)=!s.data.toList.contains c)∧w=w':=by
 obtain⟨R,hR⟩:∃R,R=!s.data.toList.contains c:=⟨_,rfl⟩;rw[←hR];have HRR:=lhd hR;have HZ:=lhd hz;clear hR hz;go_enter Tryz.func167,Tryz.ntmps167;go_wp2_with fail;go_loop [7] (fun i=>∃k:Nat,k≤s.size∧i=.int .i64 k∧(s.data.toList.take k).contains c=false) (fun i=>s.size-(intOf i).toNat)
 case atStart=>exact⟨0,Nat.zero_le _,rfl,rfl⟩
 case round=>
  obtain⟨k,hk,rfl,hno⟩:=hrel;have HNO:=lhd hno;clear hno;by_cases hlt:k<s.size
  ·have hlt2:(k:Int)<(s.size:Int):=by omega
   have HT:=lhd (zrc (c:=c) hlt);have hw1:=zrz k (by omega);by_cases he:s[k]'hlt=c
   ·have hb:(((s[k]'hlt).toNat:Int)==z)=true:=by rw[he,HZ.out];simp
    have HR:=lhd (show decide ((k:Int)<0)=R by
     rw[HRR.out];have h1:(s.data.toList.take (k+1)).contains c=true:=by rw[HT.out,he];simp
     have h2:s.data.toList.contains c=true:=by
      rw[List.contains_iff_mem]at h1⊢;exact List.mem_of_mem_take h1
     rw[h2,Bool.not_true,decide_eq_false_iff_not];omega)
    clear he;go_wp2_with fail;go_ret;exact⟨⟨_,rfl,HR.out⟩,rfl⟩
   ·have hb:(((s[k]'hlt).toNat:Int)==z)=false:=by
     rw[beq_eq_false_iff_ne,←HZ.out];intro h;apply he;apply UInt8.toNat_inj.1;omega
    have HN:=lhd (show(s.data.toList.take (k+1)).contains c=false by rw[HT.out,HNO.out,Bool.false_or,beq_eq_false_iff_ne];exact he);clear he;go_wp2_with fail;go_round
    case rel=>exact⟨k+1,by omega,by go_num,HN.out⟩
    case measure=>simp[intOf];omega
  ·obtain rfl:k=s.size:=by omega
   have HR:=lhd (show decide ((-1:Int)<0)=R by
    rw[HRR.out];have:=HNO.out;rw[List.take_of_length_le (by simp)]at this;rw[this];rfl)
   go_wp2_with fail;go_ret;exact⟨⟨_,rfl,HR.out⟩,rfl⟩
theorem zqU (s:Bs):(bsB s).size=s.length:=zbk s
theorem zqT {c:UInt8} {t:Bs} (h:0<(bsB (c::t)).size):(bsB (c::t))[0]'h=c:=rfl
theorem zrV (s:Bs) (w:World) (hm:s.length≤100000):Calls Tryz.prog 165 #[.string (bsB s)] w fun e w'=>e=.returned (.bool (escN s))∧w=w':=by
 obtain⟨R,hR⟩:∃R,R=escN s:=⟨_,rfl⟩;rw[←hR];have HP:=lhd (zsp (bsB s) w (by rw[zqU];omega));have hsz:=zqU s;by_cases h1:2≤s.length
 rotate_left
 ·have HR:=lhd (show R=false by rw[hR];unfold escN;rw[decide_eq_false h1];rfl);have b1:decide ((2:Int)≤((bsB s).size:Int))=false:=by rw[hsz,decide_eq_false_iff_not];omega
  clear hR h1 HP hsz;go_enter Tryz.func165,Tryz.ntmps165;go_wp2_with fail;go_ret;exact⟨zle HR.out.symm,rfl⟩
 have b1:decide ((2:Int)≤((bsB s).size:Int))=true:=by rw[hsz,decide_eq_true_iff];omega
 by_cases h2:s.length≤32
 rotate_left
 ·have HR:=lhd (show R=false by rw[hR];unfold escN;rw[decide_eq_false h2,Bool.false_and,Bool.and_false]);have b2:decide (((bsB s).size:Int)≤32)=false:=by rw[hsz,decide_eq_false_iff_not];omega
  clear hR h1 h2 HP hsz;go_enter Tryz.func165,Tryz.ntmps165;go_wp2_with fail;go_ret;exact⟨zle HR.out.symm,rfl⟩
 have b2:decide (((bsB s).size:Int)≤32)=true:=by rw[hsz,decide_eq_true_iff];omega
 obtain⟨c,t,rfl⟩:∃c t,s=c::t:=by
  cases s with
  |nil=>simp at h1
  |cons c t=>exact⟨c,t,rfl⟩
 have h0:0<(bsB (c::t)).size:=by rw[hsz];simp
 have hix:=zqT h0;have e92:=zn8 c 92 (by decide);by_cases hc:c=92
 rotate_left
 ·have HR:=lhd (show R=false by
   rw[hR];unfold escN;rw[List.head?_cons,decide_eq_false (show ¬some c=some 92 by simpa using hc),Bool.false_and,Bool.and_false,Bool.and_false])
  have b3:((c.toNat:Int)==92)=false:=by rw[show(92:Int)=((92:Nat):Int)from rfl,e92];simpa using hc
  clear hR h1 h2 HP hsz e92 hc;generalize bsB (c::t)=x at*;go_enter Tryz.func165,Tryz.ntmps165;go_wp2_with fail;go_ret;exact⟨zle HR.out.symm,rfl⟩
 have b3:((c.toNat:Int)==92)=true:=by rw[show(92:Int)=((92:Nat):Int)from rfl,e92];simp[hc]
 have HR:=lhd (show R=((bsB (c::t)).data.toList.all prn)by
  rw[hR,zbh];unfold escN;rw[List.head?_cons,decide_eq_true h1,decide_eq_true h2,decide_eq_true (show some c=some 92 by rw[hc]),Bool.true_and,Bool.true_and,Bool.true_and])
 clear hR h1 h2 hsz e92 hc;generalize (bsB (c::t)).data.toList.all prn=q at HP HR;generalize bsB (c::t)=x at*;go_enter Tryz.func165,Tryz.ntmps165;go_wp2_with fail;refine HP.out.mono ?_;rintro e w1 ⟨rfl,rfl⟩;go_wp2_with fail;go_ret;exact⟨zle HR.out.symm,rfl⟩
theorem zsn (s:Bs) (w:World) (hm:s.length≤100000):Calls Tryz.prog 135 #[.string (bsB s)] w fun e w'=>e=.returned (.bool (zhz s))∧w=w':=by
 obtain⟨R,hR⟩:∃R,R=zhz s:=⟨_,rfl⟩;rw[←hR];rw[←zrI]at hR;unfold refN at hR;have HE:=lhd (zrV s w hm);have HP:=lhd (zsp (bsB s) w (by rw[zqU];omega));have HI:=lhd (fun c z hz=>zsl (bsB s) c z hz w (by rw[zqU];omega));have hsz:=zqU s;rw[zbh]at HP HI;cases he:escN s
 rotate_left
 ·have HR:=lhd (show R=true by rw[hR,he];rfl);rw[he]at HE;clear hR he HP HI hsz;go_enter Tryz.func135,Tryz.ntmps135;go_wp2_with fail;refine HE.out.mono ?_;rintro e w1 ⟨rfl,rfl⟩;go_wp2_with fail;go_ret;exact⟨zle HR.out.symm,rfl⟩
 rw[he]at HE;rw[he,Bool.false_or]at hR;clear he;obtain⟨x0,hx0⟩:∃x,x=bsB s:=⟨_,rfl⟩;rw[←hx0]at HE HP HI hsz⊢;cases s with
 |nil=>
  obtain rfl:x0=⟨#[]⟩:=hx0;have HR:=lhd (show R=false by rw[hR];rfl);have hb1:(⟨#[]⟩:ByteArray).toList.isEmpty=true:=by rw[ByteArray.toList_eq];rfl
  clear hR HP HI hsz;go_enter Tryz.func135,Tryz.ntmps135;go_wp2_with fail;refine HE.out.mono ?_;rintro e w1 ⟨rfl,rfl⟩;go_wp2_with fail;go_ret;exact⟨zle HR.out.symm,rfl⟩
 |cons c t=>
  subst hx0;have hne:(bsB (c::t)).toList.isEmpty=false:=znN (by rw[zqU];simp);rw[decide_eq_true (show(c::t)≠ []by simp),Bool.true_and]at hR;have h0:0<(bsB (c::t)).size:=by rw[hsz];simp
  have hix:=zqT h0;have e36:=zn8 c 36 (by decide);by_cases h2:(c::t).length≤32
  rotate_left
  ·have HR:=lhd (show R=false by rw[hR,decide_eq_false h2,Bool.false_and]);have b2:decide (((bsB (c::t)).size:Int)≤32)=false:=by rw[hsz,decide_eq_false_iff_not];omega
   clear hR HP HI hsz h2;generalize bsB (c::t)=x at*;go_enter Tryz.func135,Tryz.ntmps135;go_wp2_with fail;refine HE.out.mono ?_;rintro e w1 ⟨rfl,rfl⟩;go_wp2_with fail;go_ret;exact⟨zle HR.out.symm,rfl⟩
  have b2:decide (((bsB (c::t)).size:Int)≤32)=true:=by rw[hsz,decide_eq_true_iff];omega
  rw[decide_eq_true h2,Bool.true_and]at hR;cases hp:(c::t).all prn
  ·have HR:=lhd (show R=false by rw[hR,hp,Bool.false_and]);rw[hp]at HP;clear hR HI hsz h2 hp;generalize bsB (c::t)=x at*;go_enter Tryz.func135,Tryz.ntmps135;go_wp2_with fail;refine HE.out.mono ?_;rintro e w1 ⟨rfl,rfl⟩;go_wp2_with fail;refine HP.out.mono ?_;rintro e w1 ⟨rfl,rfl⟩;go_wp2_with fail;go_ret;exact⟨zle HR.out.symm,rfl⟩
  rw[hp]at HP;rw[hp,Bool.true_and]at hR;by_cases hc:c=36
  ·have HR:=lhd (show R=false by rw[hR,List.head?_cons,decide_eq_false (show ¬some c≠some 36 by simpa using hc),Bool.false_and]);have b3:((c.toNat:Int)==36)=true:=by rw[show(36:Int)=((36:Nat):Int)from rfl,e36];simp[hc]
   have b5:((c.toNat:Int) !=36)=false:=by rw[bne,b3];rfl
   clear hR HI hsz h2 hp e36 hc;generalize bsB (c::t)=x at*;go_enter Tryz.func135,Tryz.ntmps135;go_wp2_with fail;refine HE.out.mono ?_;rintro e w1 ⟨rfl,rfl⟩;go_wp2_with fail;refine HP.out.mono ?_;rintro e w1 ⟨rfl,rfl⟩;go_wp2_with fail;go_ret;exact⟨zle HR.out.symm,rfl⟩
  have b3:((c.toNat:Int)==36)=false:=by rw[show(36:Int)=((36:Nat):Int)from rfl,e36];simpa using hc
  have b5:((c.toNat:Int) !=36)=true:=by rw[bne,b3];rfl
  rw[List.head?_cons,decide_eq_true (show some c≠some 36 by simpa using hc),Bool.true_and]at hR;have I1:=lhd (HI.out 92 92 rfl);have I2:=lhd (HI.out 46 46 rfl);have I3:=lhd (HI.out 91 91 rfl);have I4:=lhd (HI.out 93 93 rfl);clear hsz h2 hp e36 hc HI;generalize (c::t).contains 92=q1 at*;generalize (c::t).contains 46=q2 at*;generalize (c::t).contains 91=q3 at*;generalize (c::t).contains 93=q4 at*;generalize bsB (c::t)=x at*;cases q1
  rotate_left
  ·have HR:=lhd (show R=false from hR);clear hR;go_enter Tryz.func135,Tryz.ntmps135;go_wp2_with fail;refine HE.out.mono ?_;rintro e w1 ⟨rfl,rfl⟩;go_wp2_with fail;refine HP.out.mono ?_;rintro e w1 ⟨rfl,rfl⟩;go_wp2_with fail;refine(I1).out.mono ?_;rintro e w1 ⟨⟨r,rfl,hr⟩,rfl⟩;go_wp2_with fail;go_ret;exact⟨zle HR.out.symm,rfl⟩
  cases q2
  rotate_left
  ·have HR:=lhd (show R=false from hR);clear hR;go_enter Tryz.func135,Tryz.ntmps135;go_wp2_with fail;refine HE.out.mono ?_;rintro e w1 ⟨rfl,rfl⟩;go_wp2_with fail;refine HP.out.mono ?_;rintro e w1 ⟨rfl,rfl⟩;go_wp2_with fail;refine(I1).out.mono ?_;rintro e w1 ⟨⟨r,rfl,hr⟩,rfl⟩;go_wp2_with fail;clear hr;refine(I2).out.mono ?_;rintro e w1 ⟨⟨r,rfl,hr⟩,rfl⟩;go_wp2_with fail;go_ret;exact⟨zle HR.out.symm,rfl⟩
  cases q3
  rotate_left
  ·have HR:=lhd (show R=false from hR);clear hR;go_enter Tryz.func135,Tryz.ntmps135;go_wp2_with fail;refine HE.out.mono ?_;rintro e w1 ⟨rfl,rfl⟩;go_wp2_with fail;refine HP.out.mono ?_;rintro e w1 ⟨rfl,rfl⟩;go_wp2_with fail;refine(I1).out.mono ?_;rintro e w1 ⟨⟨r,rfl,hr⟩,rfl⟩;go_wp2_with fail;clear hr;refine(I2).out.mono ?_;rintro e w1 ⟨⟨r,rfl,hr⟩,rfl⟩;go_wp2_with fail;clear hr;refine(I3).out.mono ?_;rintro e w1 ⟨⟨r,rfl,hr⟩,rfl⟩;go_wp2_with fail;go_ret;exact⟨zle HR.out.symm,rfl⟩
  have HR:=lhd (show R=!q4 from hR);clear hR;go_enter Tryz.func135,Tryz.ntmps135;go_wp2_with fail;refine HE.out.mono ?_;rintro e w1 ⟨rfl,rfl⟩;go_wp2_with fail;refine HP.out.mono ?_;rintro e w1 ⟨rfl,rfl⟩;go_wp2_with fail;refine(I1).out.mono ?_;rintro e w1 ⟨⟨r,rfl,hr⟩,rfl⟩;go_wp2_with fail;clear hr;refine(I2).out.mono ?_;rintro e w1 ⟨⟨r,rfl,hr⟩,rfl⟩;go_wp2_with fail;clear hr;refine(I3).out.mono ?_;rintro e w1 ⟨⟨r,rfl,hr⟩,rfl⟩;go_wp2_with fail;clear hr;refine I4.out.mono ?_;rintro e w1 ⟨⟨r,rfl,hr⟩,rfl⟩;go_wp2_with fail;go_ret;exact⟨zle (by first|(rw[HR.out];done)|(rw[HR.out];exact hr)),rfl⟩
end Go.Proofs.YtcdekelomkcahaaGreatDoor
