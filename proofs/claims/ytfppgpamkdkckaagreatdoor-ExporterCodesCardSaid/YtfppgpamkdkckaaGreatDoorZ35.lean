import Derived.Test.YtfppgpamkdkckaaGreatDoorZ00
import Derived.Test.YtfppgpamkdkckaaGreatDoorZ25
import Derived.Test.YtfppgpamkdkckaaGreatDoorZ29
set_option maxRecDepth 100000
set_option maxHeartbeats 16000000
namespace Go.Proofs.YtfppgpamkdkckaaGreatDoor
open Go.RowKit
set_option linter.unusedSimpArgs false
def WrAt (B b:Nat) (d0 d1 d2 d3 d4 d5 p:Value) (bs:List Value) (w:World):Prop:=
 B≤b∧∃v,w.heap[b]? =some (.cells #[d0,d1,d2,d3,d4,d5,p,v] 103 (0,0))∧w.ownsRow B 5 1 v bs.length bs
def WrI (B b:Nat) (d0 d1 d2 d3 d4 d5:Value) (bs:List Value) (w:World):Prop:=
 WrAt B b d0 d1 d2 d3 d4 d5 (.pointer none) bs w∨WrAt B b d0 d1 d2 d3 d4 d5 (.pointer (some ⟨b,6,none⟩)) bs w
structure KW (B:Nat) (W V:World):Prop where
 b:Below B W V
 keep:∀(i:Nat) (o:Obj),W.heap[i]? =some o→(∀C T fr,o=.cells C T fr→T≠5∧T≠103∧T≠9)→V.heap[i]? =some o
theorem KW.refl (B:Nat) (W:World):KW B W W:=⟨Below.refl _ _,fun _ _ h _=>h⟩
theorem KW.trans {B:Nat} {X Y Z:World} (h:KW B X Y) (k:KW B Y Z):KW B X Z:=⟨h.b.trans k.b,fun i o ho hT=>k.keep i o (h.keep i o ho hT) hT⟩
theorem KW.of_below {B:Nat} {W V:World} (h:Below W.heap.size W V) (hB:B≤W.heap.size):KW B W V:=
 ⟨h.mono hB,fun i o ho _=>by rw[h.block i (Array.getElem?_eq_some_iff.1 ho).1];exact ho⟩
theorem KW.set {B:Nat} {W:World} {b:Nat} {C:Array Value} {T:TypeId} {fr:Nat×Nat} (hb:W.heap[b]? =some (.cells C T fr)) (hT:T=5∨T=103∨T=9) (hB:B≤b) (j:Nat) (u:Value):KW B W (W.setCell ⟨b,j,none⟩ u):=
 ⟨(Below.refl _ _).setCell (p:=⟨b,j,none⟩) hB _,fun i o ho hk=>by
  have hne:i≠b:=by
   rintro rfl;rw[hb]at ho;injection ho with ho;have:=hk _ _ _ ho.symm;rcases hT with rfl|rfl|rfl
   ·exact this.1 rfl
   ·exact this.2.1 rfl
   ·exact this.2.2 rfl
  rw[Below.heap_setCell _ _ _ _ hne];exact ho⟩
theorem KW.grown {B e size n:Nat} {W V:World} {v:Value} {xs:List Value} (ho:W.ownsRow B e size v n xs) (he:e=5∨e=9) (hg:W.grownBy V v.ownBlock) (hB:B≤W.heap.size):KW B W V:=
 ⟨(Below.refl _ _).grown hg hB (fun k hk=>(ho.lt k hk).1),fun i o hi hT=>by
  rw[hg.block i (Array.getElem?_eq_some_iff.1 hi).1 (fun q=>by
   rcases ho.2 with⟨rfl,-⟩|⟨g,cap',cur,rfl,-,hgb,-⟩
   ·cases q
   ·injection q with q;subst q;rw[hgb]at hi;injection hi with hi;rcases he with rfl|rfl
    ·exact(hT _ _ _ hi.symm).1 rfl
    ·exact(hT _ _ _ hi.symm).2.2 rfl)]
  exact hi⟩
theorem KW.row {B:Nat} {W V:World} {b:Nat} {xs:List Value} {C:Array Value} {T:TypeId} (h:KW B W V) (hb:W.heap[b]? =some (.cells C T (0,0))) (hT:T≠5∧T≠103∧T≠9) (hx:zan W b xs):zan V b xs:=by
 have:=h.keep b _ hb (fun C' T' fr' e=>by injection e with _ e _;rw[←e];exact hT);exact hx.same (this.trans hb.symm)
section
variable {B b : Nat} {d0 d1 d2 d3 d4 d5 : Value}
theorem WrAt.lt {p:Value} {bs:List Value} {w:World} (h:WrAt B b d0 d1 d2 d3 d4 d5 p bs w):b<w.heap.size:=by
 obtain⟨-,v,hb,-⟩:=h;exact(Array.getElem?_eq_some_iff.1 hb).1
theorem WrAt.below {p:Value} {bs:List Value} {w w':World} (h:WrAt B b d0 d1 d2 d3 d4 d5 p bs w) (hb:Below w.heap.size w w'):WrAt B b d0 d1 d2 d3 d4 d5 p bs w':=by
 have hlt:=h.lt;obtain⟨hB,v,hk,ho⟩:=h;exact⟨hB,v,by rw[hb.block b hlt];exact hk,zln ho hb⟩
theorem WrI.below {bs:List Value} {w w':World} (h:WrI B b d0 d1 d2 d3 d4 d5 bs w) (hb:Below w.heap.size w w'):WrI B b d0 d1 d2 d3 d4 d5 bs w':=h.imp (·.below hb) (·.below hb)
theorem WrI.lt {bs:List Value} {w:World} (h:WrI B b d0 d1 d2 d3 d4 d5 bs w):b<w.heap.size:=h.elim (·.lt) (·.lt)
theorem WrAt.grown {p:Value} {bs:List Value} {w w':World} (h:WrAt B b d0 d1 d2 d3 d4 d5 p bs w) {B' e size n:Nat} {v:Value} {xs:List Value} (ho:w.ownsRow B' e size v n xs) (he:e=9) (hg:w.grownBy w' v.ownBlock):WrAt B b d0 d1 d2 d3 d4 d5 p bs w':=by
 subst he;have hlt:=h.lt;obtain⟨hB,v1,hk,ho1⟩:=h;refine⟨hB,v1,?_,ho1.kept hg (zlB ho1 ho (by decide))⟩
 rw[hg.block b hlt (fun q=>by
  rcases ho.2 with⟨rfl,-⟩|⟨g,cap',cur,rfl,-,hgb,-⟩
  ·cases q
  ·injection q with q;subst q;rw[hgb]at hk;injection hk with hk;injection hk with _ hk _;exact absurd hk (by decide))]
 exact hk
theorem WrI.grown {bs:List Value} {w w':World} (h:WrI B b d0 d1 d2 d3 d4 d5 bs w) {B' e size n:Nat} {v:Value} {xs:List Value} (ho:w.ownsRow B' e size v n xs) (he:e=9) (hg:w.grownBy w' v.ownBlock):WrI B b d0 d1 d2 d3 d4 d5 bs w':=h.imp (·.grown ho he hg) (·.grown ho he hg)
end
theorem ztY (b:Nat) (w:World) (h0:w.cell? ⟨b,6,none⟩=some (.pointer (some ⟨b,6,none⟩))):
 Calls Tryz.prog 118 #[.pointer (some ⟨b,6,none⟩)] w fun e w'=>e=.returned (.tuple #[])∧w'=w:=by
 obtain⟨j,hj,_⟩:=Option.map_eq_some_iff.1 (show(Tryz.prog.info? 101).map (·.size)=some 2 by kernel_rfl);go_enter Tryz.func118,Tryz.ntmps118;go_wp2_with fail;rw[Lib.run_neq_ptr_same w _ Tryz.underlying99 hj];go_wp2_with fail;go_end0
 exact⟨rfl,rfl⟩
theorem ztX (b:Nat) (w:World) (h0:w.cell? ⟨b,6,none⟩=some (.pointer none)) (hsh:w.shape? b=some (103,8)) (hfz:w.frozen? ⟨b,6,none⟩=false):
 Calls Tryz.prog 118 #[.pointer (some ⟨b,6,none⟩)] w fun e w'=>e=.returned (.tuple #[])∧w'=w.setCell ⟨b,6,none⟩ (.pointer (some ⟨b,6,none⟩)):=by
 obtain⟨j,hj,hjs⟩:=Option.map_eq_some_iff.1 (show(Tryz.prog.info? 101).map (·.size)=some 2 by kernel_rfl);go_enter Tryz.func118,Tryz.ntmps118;go_wp2_with fail;rw[Lib.run_to_unsafe w ⟨b,6,none⟩ Tryz.underlying99 Tryz.underlying195 hj (by rw[hjs];decide) hsh (show(6:Nat)<8 by decide)];simp only[Result.andThen];rw[Oper.upon_value];go_wp2_with fail;rw[run_callFunc_extern Tryz.func167 (by kernel_rfl) (by kernel_rfl) (by kernel_rfl) (e:=Extern.AbiNoEscape.same) (by kernel_rfl)];rw[Lib.run_noEscape];simp only[Result.andThen];rw[Oper.upon_value];go_wp2_with fail;rw[Lib.run_from_unsafe w ⟨b,6,none⟩ Tryz.underlying195 Tryz.underlying99 hj hsh (by kernel_rfl)];simp only[Result.andThen];rw[Oper.upon_value];go_wp2_with fail;go_end0
 exact⟨rfl,rfl⟩
theorem WrAt.set {B b:Nat} {d0 d1 d2 d3 d4 d5 p q:Value} {bs:List Value} {w:World} (h:WrAt B b d0 d1 d2 d3 d4 d5 p bs w):WrAt B b d0 d1 d2 d3 d4 d5 q bs (w.setCell ⟨b,6,none⟩ q):=by
 obtain⟨hB,v,hk,ho⟩:=h;refine⟨hB,v,?_,?_⟩
 ·simp[World.setCell,Array.getElem?_modify,hk]
 ·exact ownsRow_setCell_other ho (a:=⟨b,6,none⟩) (Lib.ownBlock_ne ho hk (by decide)) q
theorem ztW (B b:Nat) (d0 d1 d2 d3 d4 d5:Value) (bs:List Value) (w:World) (h:WrI B b d0 d1 d2 d3 d4 d5 bs w):
 Calls Tryz.prog 118 #[.pointer (some ⟨b,6,none⟩)] w fun e w'=>e=.returned (.tuple #[])∧WrAt B b d0 d1 d2 d3 d4 d5 (.pointer (some ⟨b,6,none⟩)) bs w'∧KW B w w':=by
 rcases h with h|h
 ·obtain⟨hB,v,hk,ho⟩:=id h;refine(ztX b w (by rw[Lib.cell_of_heap hk];rfl) (by simp[World.shape?,hk]) (Lib.frozen_of_heap hk 6)).mono ?_;rintro e w' ⟨rfl,rfl⟩;exact⟨rfl,h.set,KW.set hk (.inr (.inl rfl)) hB _ _⟩
 ·obtain⟨hB,v,hk,ho⟩:=id h;refine(ztY b w (by rw[Lib.cell_of_heap hk];rfl)).mono ?_;rintro e w' ⟨rfl,rfl⟩;exact⟨rfl,h,KW.refl _ _⟩
theorem ztV (B b:Nat) (d0 d1 d2 d3 d4 d5:Value) (bs:List Value) (s:ByteArray) (w:World) (h:WrI B b d0 d1 d2 d3 d4 d5 bs w) (hlen:bs.length+s.size≤140737488355328) (hBw:B≤w.heap.size):
 Calls Tryz.prog 55 #[.pointer (some ⟨b,6,none⟩),.string s] w fun e w'=>e=.returned (.tuple #[.int .i64 s.size,.nilIface])∧WrI B b d0 d1 d2 d3 d4 d5 (bs++Lib.strCells s) w'∧KW B w w':=by
 obtain⟨i0,hi,hz0,hz1,hz2⟩:=info_parts (P:=Tryz.prog) zbF;go_enter Tryz.func55,Tryz.ntmps55;go_wp2_with (go_at_call 118;refine(ztW B b d0 d1 d2 d3 d4 d5 bs _ h).mono ?_)
 rintro e w1 ⟨rfl,h1,hb1⟩;obtain⟨hB,v,hbk,hown⟩:=h1;have hne:v.ownBlock≠some b:=Lib.ownBlock_ne hown hbk (by decide);have c0:w1.cell? ⟨b,6,none⟩=some (.pointer (some ⟨b,6,none⟩)):=by rw[Lib.cell_of_heap hbk];rfl
 have c1:w1.cell? ⟨b,7,none⟩=some v:=by rw[Lib.cell_of_heap hbk];rfl
 have hsz1:=hb1.b.size;go_wp2_with (at_builtin;refine Lib.wpList_append_own_string _ rfl _ _ 62 9 rfl B 5 i0 Tryz.underlying62 Tryz.underlying9 hi hz0 hz1 hz2 _ _ _ rfl hown s rfl (by unfold maxLen;omega) (by omega) (by omega) ?_)
 intro v' w2 hown' hgrow _;have hlt:b<w1.heap.size:=(Array.getElem?_eq_some_iff.1 hbk).1
 have hb2:w2.heap[b]? =some (.cells #[d0,d1,d2,d3,d4,d5,.pointer (some ⟨b,6,none⟩),v] 103 (0,0)):=by
  rw[hgrow.block b hlt (fun e=>hne e.symm)];exact hbk
 have e0:w2.cell? ⟨b,6,none⟩=some (.pointer (some ⟨b,6,none⟩)):=by rw[Lib.cell_of_heap hb2];rfl
 have e1:w2.cell? ⟨b,7,none⟩=some v:=by rw[Lib.cell_of_heap hb2];rfl
 have f1:w2.frozen? ⟨b,7,none⟩=false:=Lib.frozen_of_heap hb2 7
 obtain⟨ao,n',cap,rfl⟩:∃ao n' cap,v'=.slice ao n' cap:=by
  rcases hown'.2 with⟨hv,_⟩|⟨g,cap,cur,hv,_⟩
  ·exact⟨_,_,_,hv⟩
  ·exact⟨_,_,_,hv⟩
 have k2:KW B w1 w2:=KW.grown hown (.inl rfl) hgrow (by omega);have hown2:w2.ownsRow B 5 1 (.slice ao n' cap) (bs++Lib.strCells s).length (bs++Lib.strCells s):=by simpa[Lib.strCells_length] using hown'
 have hWr:=lhd (show WrI B b d0 d1 d2 d3 d4 d5 (bs++Lib.strCells s) (w2.setCell ⟨b,7,none⟩ (.slice ao n' cap))from .inr ⟨hB,.slice ao n' cap,by simp[World.setCell,Array.getElem?_modify,hb2],ownsRow_setCell_other hown2 (a:=⟨b,7,none⟩) (Lib.ownBlock_ne hown2 hb2 (by decide)) _⟩);have hKW:=lhd ((hb1.trans k2).trans (KW.set hb2 (.inr (.inl rfl)) hB 7 (.slice ao n' cap)));clear hown' hown2 k2 hgrow;go_wp2_with fail;go_ret2
 exact⟨rfl,hWr.out,hKW.out⟩
open Go.RowKit
set_option linter.unusedSimpArgs false
def ziq (L:List Bs):Bs:=joinL (L++ [sEnd])++ [10]
theorem ztZ (B b:Nat) (d0 d1 d2 d3 d4 d5:Value) (bs:Bs) (v:Value) (L:List Bs) (w:World) (h:WrI B b d0 d1 d2 d3 d4 d5 (Lib.byteCells bs) w) (ho:w.ownsRow B 9 1 v L.length (strs L)) (hL:L.length≤1000) (hz:bs.length+(ziq L).length≤140737488355328) (hBw:B≤w.heap.size):
 Calls Tryz.prog 49 #[.pointer (some ⟨b,0,none⟩),v] w fun e w'=>e=.returned (.tuple #[])∧WrI B b d0 d1 d2 d3 d4 d5 (Lib.byteCells (bs++ziq L)) w'∧KW B w w':=by
 obtain⟨i0,hi,iz0,iz1,iz2⟩:=info_parts (P:=Tryz.prog) zpS;obtain⟨a,cap,rfl,-,-⟩:=(SlR.of_own ho).shape;have hal:Below w.heap.size w (w.drew.alloc (.cells #[.string ⟨#[36,101,110,100]⟩] 9)):=((Below.refl _ _).drew).alloc (Nat.le_refl _) _;have HA:=lhd (zln ho hal);have HW:=lhd (h.below hal);have HK:=lhd (KW.of_below hal hBw);have HT:=lhd (show ∀l:List Bs,strs l++ [Value.string ⟨#[36,101,110,100]⟩]=strs (l++ [sEnd])from fun l=>by simp[strs,strV];rfl);have hlt:=h.lt;have hzz:(joinL (L++ [sEnd])).length+1=(ziq L).length:=by unfold ziq;simp
 clear h hal;go_enter Tryz.func49,Tryz.ntmps49;go_wp2_with fail;refine wp_region_held_drew (S:=fun _=>True) (by kernel_rfl) trivial (fun hHeld=>?_);refine tkH 0 hHeld (v:=?_) ?_;simp only[tkS];refine tkH 1 hHeld (v:=?_) ?_;simp only[tkS];refine tkH 2 hHeld (v:=?_) ?_;simp only[tkS];refine tkH 3 hHeld (v:=?_) ?_;simp only[tkS];refine oneH 4 (fun K hK=>?_);go_simp;refine hK.out _ _ trivial (fun hHeld=>?_);clear hK;try simp only[tkS]
 refine oneH 5 (fun K hK=>?_);refine step_append_lies _ (by rfl) _ _ _ (by rfl) B 9 i0 _ 1 16 Tryz.underlying107 hi iz0 iz1 iz2 rfl (by omega) (.slice a L.length cap) L.length (strs L) (by rfl) (by exact HA.out) ⟨w.heap.size,0,none⟩ 1 1 [.string ⟨#[36,101,110,100]⟩] (by rfl) (by rfl) (World.news_of_block (cs:=#[.string ⟨#[36,101,110,100]⟩]) (t:=9) (fr:=(0,0)) (by exact heap_alloc_new _ _)) (by simp[Value.oneCell']) (by omega) (by unfold maxLen;omega) (by omega) (by simp;omega) (w.heap.size+1) (by simp) ?_;intro gg cap9 w9 ho9 hg9 hat hlt9;have hW9:=HW.out.grown HA.out rfl hg9;have HK9:=lhd (HK.out.trans (KW.grown HA.out (.inr rfl) hg9 (by simp;omega)));rw[HT.out]at ho9;have hL9:(L++ [sEnd]).length=L.length+1:=by simp
 have HJ:=lhd (zc9 B 9 (.slice (some ⟨gg,0,none⟩) (L.length+1) cap9) (L++ [sEnd]) w9 (by rw[hL9];exact ho9) (by omega) (by omega));have HW9:=lhd hW9;have hB9:=HK9.out.b.size;clear ho9 hg9 hat hlt9 hW9 hL9;refine hK.out _ _ trivial (fun hHeld=>?_);clear hK;try simp only[tkS]
 refine oneH 6 (fun K hK=>?_);go_simp;refine HJ.out.mono ?_;rintro e w10 ⟨rfl,hb10⟩;have HW10:=lhd (HW9.out.below hb10);have HK10:=lhd (HK9.out.trans (KW.of_below hb10 (by omega)));have hs10:=zbt (joinL (L++ [sEnd]));have hq:¬9223372036854775807<(bsB (joinL (L++ [sEnd]))).size+1:=by omega
 have hq2:¬9223372036854775807<(joinL (L++ [sEnd])).length+1:=by omega
 have hB10:=hb10.size
 have HWS:=lhd (ztV B b d0 d1 d2 d3 d4 d5 _ (bsB (joinL (L++ [sEnd]))++⟨#[10]⟩) w10 HW10.out (by
  rw[ByteArray.size_append,hs10,show(⟨#[10]⟩:ByteArray).size=1 from rfl,Lib.byteCells_length];omega) (by omega))
 have HE:=lhd (show Lib.byteCells bs++Lib.strCells (bsB (joinL (L++ [sEnd]))++⟨#[10]⟩)=Lib.byteCells (bs++ziq L)by
  simp[Lib.byteCells,Lib.strCells,ziq,bsB])
 clear hb10 hzz hs10 hz hBw hlt hB9 hB10 hq2;generalize bsB (joinL (L++ [sEnd]))=zz at*;clear hHeld;go_wp2_with fail;refine hK.out _ _ trivial (fun hHeld=>?_);clear hK;try simp only[tkS]
 refine tkH 7 hHeld (v:=?_) ?_;simp only[tkS];refine oneH 8 (fun K hK=>?_);go_simp;refine HWS.out.mono ?_;rintro e w11 ⟨rfl,h11,k11⟩;rw[HE.out]at h11;have HW11:=lhd h11;have HK11:=lhd (HK10.out.trans k11);clear hHeld h11 k11;go_wp2_with fail;refine hK.out _ _ trivial (fun hHeld=>?_);clear hK;try simp only[tkS]
 refine wpAnyH_done (by kernel_rfl) ?_ _;clear hHeld;go_wp2_with fail;go_end0
 exact⟨rfl,HW11.out,HK11.out⟩
end Go.Proofs.YtfppgpamkdkckaaGreatDoor
