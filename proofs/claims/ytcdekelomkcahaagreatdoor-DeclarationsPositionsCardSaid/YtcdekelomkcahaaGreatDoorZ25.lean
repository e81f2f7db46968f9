import Derived.Test.YtcdekelomkcahaaGreatDoorZ00
import Derived.Test.YtcdekelomkcahaaGreatDoorZ21
import Derived.Test.YtcdekelomkcahaaGreatDoorZ22
set_option maxRecDepth 100000
set_option maxHeartbeats 16000000
namespace Go.Proofs.YtcdekelomkcahaaGreatDoor
open Go.RowKit
set_option linter.unusedSimpArgs false
def WrAt (B b:Nat) (d0 d1 d2 d3 d4 d5 p:Value) (bs:List Value) (w:World):Prop:=
 B≤b∧∃v,w.heap[b]? =some (.cells #[d0,d1,d2,d3,d4,d5,p,v] 74 (0,0))∧w.ownsRow B 5 1 v bs.length bs
def WrI (B b:Nat) (d0 d1 d2 d3 d4 d5:Value) (bs:List Value) (w:World):Prop:=
 WrAt B b d0 d1 d2 d3 d4 d5 (.pointer none) bs w∨WrAt B b d0 d1 d2 d3 d4 d5 (.pointer (some ⟨b,6,none⟩)) bs w
structure KW (B:Nat) (W V:World):Prop where
 b:Below B W V
 keep:∀(i:Nat) (o:Obj),W.heap[i]? =some o→(∀C T fr,o=.cells C T fr→T≠5∧T≠74∧T≠9)→V.heap[i]? =some o
theorem KW.refl (B:Nat) (W:World):KW B W W:=⟨Below.refl _ _,fun _ _ h _=>h⟩
theorem KW.trans {B:Nat} {X Y Z:World} (h:KW B X Y) (k:KW B Y Z):KW B X Z:=⟨h.b.trans k.b,fun i o ho hT=>k.keep i o (h.keep i o ho hT) hT⟩
theorem KW.of_below {B:Nat} {W V:World} (h:Below W.heap.size W V) (hB:B≤W.heap.size):KW B W V:=
 ⟨h.mono hB,fun i o ho _=>by rw[h.block i (Array.getElem?_eq_some_iff.1 ho).1];exact ho⟩
theorem KW.set {B:Nat} {W:World} {b:Nat} {C:Array Value} {T:TypeId} {fr:Nat×Nat} (hb:W.heap[b]? =some (.cells C T fr)) (hT:T=5∨T=74∨T=9) (hB:B≤b) (j:Nat) (u:Value):KW B W (W.setCell ⟨b,j,none⟩ u):=
 ⟨(Below.refl _ _).setCell (p:=⟨b,j,none⟩) hB _,fun i o ho hk=>by
  have hne:i≠b:=by
   rintro rfl;rw[hb]at ho;injection ho with ho;have:=hk _ _ _ ho.symm;rcases hT with rfl|rfl|rfl
   ·exact this.1 rfl
   ·exact this.2.1 rfl
   ·exact this.2.2 rfl
  rw[Below.heap_setCell _ _ _ _ hne];exact ho⟩
theorem KW.grown {B e size n:Nat} {W V:World} {v:Value} {xs:List Value} (ho:W.ownsRow B e size v n xs) (he:e=5∨e=9) (hg:W.grownBy V v.ownBlock) (hB:B≤W.heap.size):KW B W V:=
 ⟨(Below.refl _ _).grown hg hB (fun k hk=>(ho.lt k hk).1),fun i o hi hT=>by
  rw[hg.block i (Array.getElem?_eq_some_iff.1 hi).1 (fun q=>by
   rcases ho.2 with⟨rfl,-⟩|⟨g,cap',cur,rfl,-,hgb,-⟩
   ·cases q
   ·injection q with q;subst q;rw[hgb]at hi;injection hi with hi;rcases he with rfl|rfl
    ·exact(hT _ _ _ hi.symm).1 rfl
    ·exact(hT _ _ _ hi.symm).2.2 rfl)]
  exact hi⟩
theorem KW.row {B:Nat} {W V:World} {b:Nat} {xs:List Value} {C:Array Value} {T:TypeId} (h:KW B W V) (hb:W.heap[b]? =some (.cells C T (0,0))) (hT:T≠5∧T≠74∧T≠9) (hx:zaq W b xs):zaq V b xs:=by
 have:=h.keep b _ hb (fun C' T' fr' e=>by injection e with _ e _;rw[←e];exact hT);exact hx.same (this.trans hb.symm)
section
variable {B b : Nat} {d0 d1 d2 d3 d4 d5 : Value}
theorem WrAt.lt {p:Value} {bs:List Value} {w:World} (h:WrAt B b d0 d1 d2 d3 d4 d5 p bs w):b<w.heap.size:=by
 obtain⟨-,v,hb,-⟩:=h;exact(Array.getElem?_eq_some_iff.1 hb).1
theorem WrAt.below {p:Value} {bs:List Value} {w w':World} (h:WrAt B b d0 d1 d2 d3 d4 d5 p bs w) (hb:Below w.heap.size w w'):WrAt B b d0 d1 d2 d3 d4 d5 p bs w':=by
 have hlt:=h.lt;obtain⟨hB,v,hk,ho⟩:=h;exact⟨hB,v,by rw[hb.block b hlt];exact hk,zjb ho hb⟩
theorem WrI.below {bs:List Value} {w w':World} (h:WrI B b d0 d1 d2 d3 d4 d5 bs w) (hb:Below w.heap.size w w'):WrI B b d0 d1 d2 d3 d4 d5 bs w':=h.imp (·.below hb) (·.below hb)
theorem WrI.lt {bs:List Value} {w:World} (h:WrI B b d0 d1 d2 d3 d4 d5 bs w):b<w.heap.size:=h.elim (·.lt) (·.lt)
theorem WrAt.grown {p:Value} {bs:List Value} {w w':World} (h:WrAt B b d0 d1 d2 d3 d4 d5 p bs w) {B' e size n:Nat} {v:Value} {xs:List Value} (ho:w.ownsRow B' e size v n xs) (he:e=9) (hg:w.grownBy w' v.ownBlock):WrAt B b d0 d1 d2 d3 d4 d5 p bs w':=by
 subst he;have hlt:=h.lt;obtain⟨hB,v1,hk,ho1⟩:=h;refine⟨hB,v1,?_,ho1.kept hg (zjl ho1 ho (by decide))⟩
 rw[hg.block b hlt (fun q=>by
  rcases ho.2 with⟨rfl,-⟩|⟨g,cap',cur,rfl,-,hgb,-⟩
  ·cases q
  ·injection q with q;subst q;rw[hgb]at hk;injection hk with hk;injection hk with _ hk _;exact absurd hk (by decide))]
 exact hk
theorem WrI.grown {bs:List Value} {w w':World} (h:WrI B b d0 d1 d2 d3 d4 d5 bs w) {B' e size n:Nat} {v:Value} {xs:List Value} (ho:w.ownsRow B' e size v n xs) (he:e=9) (hg:w.grownBy w' v.ownBlock):WrI B b d0 d1 d2 d3 d4 d5 bs w':=h.imp (·.grown ho he hg) (·.grown ho he hg)
end
theorem zqs (b:Nat) (w:World) (h0:w.cell? ⟨b,6,none⟩=some (.pointer (some ⟨b,6,none⟩))):
 Calls Tryz.prog 125 #[.pointer (some ⟨b,6,none⟩)] w fun e w'=>e=.returned (.tuple #[])∧w'=w:=by
 obtain⟨j,hj,_⟩:=Option.map_eq_some_iff.1 (show(Tryz.prog.info? 72).map (·.size)=some 2 by kernel_rfl);go_enter Tryz.func125,Tryz.ntmps125;go_wp2_with fail;rw[Lib.run_neq_ptr_same w _ Tryz.underlying69 hj];go_wp2_with fail;go_end0
 exact⟨rfl,rfl⟩
theorem zqr (b:Nat) (w:World) (h0:w.cell? ⟨b,6,none⟩=some (.pointer none)) (hsh:w.shape? b=some (74,8)) (hfz:w.frozen? ⟨b,6,none⟩=false):
 Calls Tryz.prog 125 #[.pointer (some ⟨b,6,none⟩)] w fun e w'=>e=.returned (.tuple #[])∧w'=w.setCell ⟨b,6,none⟩ (.pointer (some ⟨b,6,none⟩)):=by
 obtain⟨j,hj,hjs⟩:=Option.map_eq_some_iff.1 (show(Tryz.prog.info? 72).map (·.size)=some 2 by kernel_rfl);go_enter Tryz.func125,Tryz.ntmps125;go_wp2_with fail;rw[Lib.run_to_unsafe w ⟨b,6,none⟩ Tryz.underlying69 Tryz.underlying189 hj (by rw[hjs];decide) hsh (show(6:Nat)<8 by decide)];simp only[Result.andThen];rw[Oper.upon_value];go_wp2_with fail;rw[run_callFunc_extern Tryz.func157 (by kernel_rfl) (by kernel_rfl) (by kernel_rfl) (e:=Extern.AbiNoEscape.same) (by kernel_rfl)];rw[Lib.run_noEscape];simp only[Result.andThen];rw[Oper.upon_value];go_wp2_with fail;rw[Lib.run_from_unsafe w ⟨b,6,none⟩ Tryz.underlying189 Tryz.underlying69 hj hsh (by kernel_rfl)];simp only[Result.andThen];rw[Oper.upon_value];go_wp2_with fail;go_end0
 exact⟨rfl,rfl⟩
theorem WrAt.set {B b:Nat} {d0 d1 d2 d3 d4 d5 p q:Value} {bs:List Value} {w:World} (h:WrAt B b d0 d1 d2 d3 d4 d5 p bs w):WrAt B b d0 d1 d2 d3 d4 d5 q bs (w.setCell ⟨b,6,none⟩ q):=by
 obtain⟨hB,v,hk,ho⟩:=h;refine⟨hB,v,?_,?_⟩
 ·simp[World.setCell,Array.getElem?_modify,hk]
 ·exact ownsRow_setCell_other ho (a:=⟨b,6,none⟩) (Lib.ownBlock_ne ho hk (by decide)) q
theorem zqq (B b:Nat) (d0 d1 d2 d3 d4 d5:Value) (bs:List Value) (w:World) (h:WrI B b d0 d1 d2 d3 d4 d5 bs w):
 Calls Tryz.prog 125 #[.pointer (some ⟨b,6,none⟩)] w fun e w'=>e=.returned (.tuple #[])∧WrAt B b d0 d1 d2 d3 d4 d5 (.pointer (some ⟨b,6,none⟩)) bs w'∧KW B w w':=by
 rcases h with h|h
 ·obtain⟨hB,v,hk,ho⟩:=id h;refine(zqr b w (by rw[Lib.cell_of_heap hk];rfl) (by simp[World.shape?,hk]) (Lib.frozen_of_heap hk 6)).mono ?_;rintro e w' ⟨rfl,rfl⟩;exact⟨rfl,h.set,KW.set hk (.inr (.inl rfl)) hB _ _⟩
 ·obtain⟨hB,v,hk,ho⟩:=id h;refine(zqs b w (by rw[Lib.cell_of_heap hk];rfl)).mono ?_;rintro e w' ⟨rfl,rfl⟩;exact⟨rfl,h,KW.refl _ _⟩
theorem zqp (B b:Nat) (d0 d1 d2 d3 d4 d5:Value) (bs:List Value) (s:ByteArray) (w:World) (h:WrI B b d0 d1 d2 d3 d4 d5 bs w) (hlen:bs.length+s.size≤140737488355328) (hBw:B≤w.heap.size):
 Calls Tryz.prog 71 #[.pointer (some ⟨b,6,none⟩),.string s] w fun e w'=>e=.returned (.tuple #[.int .i64 s.size,.nilIface])∧WrI B b d0 d1 d2 d3 d4 d5 (bs++Lib.strCells s) w'∧KW B w w':=by
 obtain⟨i0,hi,hz0,hz1,hz2⟩:=info_parts (P:=Tryz.prog) zbr;go_enter Tryz.func71,Tryz.ntmps71;go_wp2_with (go_at_call 125;refine(zqq B b d0 d1 d2 d3 d4 d5 bs _ h).mono ?_)
 rintro e w1 ⟨rfl,h1,hb1⟩;obtain⟨hB,v,hbk,hown⟩:=h1;have hne:v.ownBlock≠some b:=Lib.ownBlock_ne hown hbk (by decide);have c0:w1.cell? ⟨b,6,none⟩=some (.pointer (some ⟨b,6,none⟩)):=by rw[Lib.cell_of_heap hbk];rfl
 have c1:w1.cell? ⟨b,7,none⟩=some v:=by rw[Lib.cell_of_heap hbk];rfl
 have hsz1:=hb1.b.size;go_wp2_with (at_builtin;refine Lib.wpList_append_own_string _ rfl _ _ 70 9 rfl B 5 i0 Tryz.underlying70 Tryz.underlying9 hi hz0 hz1 hz2 _ _ _ rfl hown s rfl (by unfold maxLen;omega) (by omega) (by omega) ?_)
 intro v' w2 hown' hgrow _;have hlt:b<w1.heap.size:=(Array.getElem?_eq_some_iff.1 hbk).1
 have hb2:w2.heap[b]? =some (.cells #[d0,d1,d2,d3,d4,d5,.pointer (some ⟨b,6,none⟩),v] 74 (0,0)):=by
  rw[hgrow.block b hlt (fun e=>hne e.symm)];exact hbk
 have e0:w2.cell? ⟨b,6,none⟩=some (.pointer (some ⟨b,6,none⟩)):=by rw[Lib.cell_of_heap hb2];rfl
 have e1:w2.cell? ⟨b,7,none⟩=some v:=by rw[Lib.cell_of_heap hb2];rfl
 have f1:w2.frozen? ⟨b,7,none⟩=false:=Lib.frozen_of_heap hb2 7
 obtain⟨ao,n',cap,rfl⟩:∃ao n' cap,v'=.slice ao n' cap:=by
  rcases hown'.2 with⟨hv,_⟩|⟨g,cap,cur,hv,_⟩
  ·exact⟨_,_,_,hv⟩
  ·exact⟨_,_,_,hv⟩
 have k2:KW B w1 w2:=KW.grown hown (.inl rfl) hgrow (by omega);have hown2:w2.ownsRow B 5 1 (.slice ao n' cap) (bs++Lib.strCells s).length (bs++Lib.strCells s):=by simpa[Lib.strCells_length] using hown'
 have hWr:=lhd (show WrI B b d0 d1 d2 d3 d4 d5 (bs++Lib.strCells s) (w2.setCell ⟨b,7,none⟩ (.slice ao n' cap))from .inr ⟨hB,.slice ao n' cap,by simp[World.setCell,Array.getElem?_modify,hb2],ownsRow_setCell_other hown2 (a:=⟨b,7,none⟩) (Lib.ownBlock_ne hown2 hb2 (by decide)) _⟩);have hKW:=lhd ((hb1.trans k2).trans (KW.set hb2 (.inr (.inl rfl)) hB 7 (.slice ao n' cap)));clear hown' hown2 k2 hgrow;go_wp2_with fail;go_ret2
 exact⟨rfl,hWr.out,hKW.out⟩
open Go.RowKit
set_option linter.unusedSimpArgs false
def cmdW:List Bs:=[zlA,zlx,zlz,zly]
theorem zdq (w:World):Calls Tryz.prog 50 #[] w fun e w'=>e=.returned (.slice (some ⟨w.heap.size,0,none⟩) 4 4)∧w'=w.alloc (.cells (strs cmdW).toArray 9):=by
 go_enter Tryz.func50,Tryz.ntmps50;go_wp2_with fail;go_ret;exact⟨rfl,rfl⟩
theorem zcl (l:List Bs) (x:Bs):Lib.containsS (l.map bsB) (bsB x)=decide (x∈l):=by
 unfold Lib.containsS;rw[ze7];by_cases h:x∈l
 ·rw[if_pos h,decide_eq_true h];simp
 ·rw[if_neg h,decide_eq_false h];rfl
theorem zcq (v:Value) (l:List Bs) (x:Bs) (w:World) (hs:SlR w v l.length (strs l)) (h0:0<l.length) (hl:l.length≤1000000):
 Calls Tryz.prog 49 #[v,.string (bsB x)] w fun e w'=>e=.returned (.bool (decide (x∈l)))∧w'=w:=by
 obtain⟨b,o,cap,rfl,-,-,hcell⟩:=hs.at h0
 have hx:=Tryz.slices_Contains_string b o l.length cap (l.map bsB) (bsB x) w (by simp) (by omega) (fun j hj=>hcell j _ (by
  rw[List.length_map]at hj;simp[strs,strV,List.getD,hj]))
 rw[List.take_of_length_le (by simp),zcl]at hx;exact hx
end Go.Proofs.YtcdekelomkcahaaGreatDoor
