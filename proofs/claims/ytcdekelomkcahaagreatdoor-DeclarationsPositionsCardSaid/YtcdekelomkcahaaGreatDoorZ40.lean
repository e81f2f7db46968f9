import Derived.Test.YtcdekelomkcahaaGreatDoorZ00
import Derived.Deep.RegionLawGrows
import Derived.Test.YtcdekelomkcahaaGreatDoorZ38
set_option maxRecDepth 100000
set_option maxHeartbeats 16000000
namespace Go.Proofs.YtcdekelomkcahaaGreatDoor
open Go.RowKit
set_option linter.unusedSimpArgs false
theorem zqu (B b:Nat) (d0 d1 d2 d3 d4 d5:Value) (bs:Bs) (g:Nat) (C:Array Value) (T:TypeId) (L:List Bs) (w:World) (h:WrI B b d0 d1 d2 d3 d4 d5 (Lib.byteCells bs) w) (hg:w.heap[g]? =some (.cells C T (0,0))) (hC:C.toList=strs L) (hL:L.length≤1000) (hz:bs.length+(zgL L).length≤140737488355328) (hBw:B≤w.heap.size):
 Calls Tryz.prog 39 #[.pointer (some ⟨b,0,none⟩),.slice (some ⟨g,0,none⟩) L.length L.length] w fun e w'=>e=.returned (.tuple #[])∧WrI B b d0 d1 d2 d3 d4 d5 (Lib.byteCells (bs++zgL L)) w'∧KW B w w':=by
 obtain⟨i0,hi,iz0,iz1,iz2⟩:=info_parts (P:=Tryz.prog) zno;have hal:Below w.heap.size w (w.drew.alloc (.cells #[.string ⟨#[36,101,110,100]⟩] 9)):=((Below.refl _ _).drew).alloc (Nat.le_refl _) _
 have HA:=lhd (show ∀(j:Nat) (u:Value),(strs L)[j]? =some u→(w.drew.alloc (.cells #[.string ⟨#[36,101,110,100]⟩] 9)).cell? ((⟨g,0,none⟩:Addr).add j)=some u from by
  rw[←hC];exact World.news_of_block ((hal.block g (Array.getElem?_eq_some_iff.1 hg).1).trans hg))
 have HW:=lhd (h.below hal);have HK:=lhd (KW.of_below hal hBw);have HT:=lhd (show ∀l:List Bs,strs l++ [Value.string ⟨#[36,101,110,100]⟩]=strs (l++ [sEnd])from fun l=>by simp[strs,strV];rfl);have hsl:(strs L).length=L.length:=by simp[strs]
 have hlt:=h.lt;have hzz:(zgc (L++ [sEnd])).length+1=(zgL L).length:=by unfold zgL;simp
 clear h hal hg hC;go_enter Tryz.func39,Tryz.ntmps39;go_wp2_with fail;refine wp_region_held_drew (S:=fun _=>True) (by kernel_rfl) trivial (fun hHeld=>?_);refine tkH 0 hHeld (v:=?_) ?_ ?_;rotate_left
 ·intro w h;(try dsimp only at h);go_simp;all_goals with_reducible rfl
 simp only[tkS];refine tkH 1 hHeld (v:=?_) ?_ ?_;rotate_left
 ·intro w h;(try dsimp only at h);go_simp;all_goals with_reducible rfl
 simp only[tkS];refine tkH 2 hHeld (v:=?_) ?_ ?_;rotate_left
 ·intro w h;(try dsimp only at h);go_simp;all_goals with_reducible rfl
 simp only[tkS];refine tkH 3 hHeld (v:=?_) ?_ ?_;rotate_left
 ·intro w h;(try dsimp only at h);go_simp;all_goals with_reducible rfl
 simp only[tkS];refine oneH 4 (fun K hK=>?_);go_simp;refine hK.out _ _ trivial (fun hHeld=>?_);clear hK;try simp only[tkS]
 refine oneH 5 (fun K hK=>?_);refine step_append_grows (by rfl) _ _ _ (by rfl) 9 i0 _ 1 16 Tryz.underlying65 hi iz0 iz1 iz2 rfl (by omega) (some ⟨g,0,none⟩) L.length L.length (strs L) (by rfl) (by simp) (by rw[hsl];omega) (by rintro b' hb';injection hb' with hb';subst hb';exact HA.out) ⟨w.heap.size,0,none⟩ 1 1 [.string ⟨#[36,101,110,100]⟩] (by rfl) (by rfl) (World.news_of_block (cs:=#[.string ⟨#[36,101,110,100]⟩]) (t:=9) (fr:=(0,0)) (by exact heap_alloc_new _ _)) (by simp[Value.oneCell']) (by omega) (by unfold maxLen;omega) (by omega) ?_;intro v9 w9 ho9 hg9;have hb9:Below _ _ w9:=(Below.refl _ _).grown hg9 (Nat.le_refl _) (fun k hk=>by cases hk);have hW9:=HW.out.below hb9;have HK9:=lhd (HK.out.trans (KW.of_below hb9 (Nat.le_trans hBw HK.out.b.size)));rw[HT.out]at ho9;have hL9:(L++ [sEnd]).length=L.length+1:=by simp
 have HJ:=lhd (zcc _ 9 v9 (L++ [sEnd]) w9 (by rw[hL9];exact ho9) (by omega) (by omega));have HW9:=lhd hW9;have hB9:=HK9.out.b.size;clear ho9 hg9 hb9 hW9 hL9;refine hK.out _ _ trivial (fun hHeld=>?_);clear hK;try simp only[tkS]
 refine oneH 6 (fun K hK=>?_);go_simp;refine HJ.out.mono ?_;rintro e w10 ⟨rfl,hb10⟩;have HW10:=lhd (HW9.out.below hb10);have HK10:=lhd (HK9.out.trans (KW.of_below hb10 (by omega)));have hs10:=zbk (zgc (L++ [sEnd]));have hq:¬9223372036854775807<(bsB (zgc (L++ [sEnd]))).size+1:=by omega
 have hq2:¬9223372036854775807<(zgc (L++ [sEnd])).length+1:=by omega
 have hB10:=hb10.size
 have HWS:=lhd (zqp B b d0 d1 d2 d3 d4 d5 _ (bsB (zgc (L++ [sEnd]))++⟨#[10]⟩) w10 HW10.out (by
  rw[ByteArray.size_append,hs10,show(⟨#[10]⟩:ByteArray).size=1 from rfl,Lib.byteCells_length];omega) (by omega))
 have HE:=lhd (show Lib.byteCells bs++Lib.strCells (bsB (zgc (L++ [sEnd]))++⟨#[10]⟩)=Lib.byteCells (bs++zgL L)by
  simp[Lib.byteCells,Lib.strCells,zgL,bsB])
 clear hb10 hzz hs10 hz hBw hlt hB9 hB10 hq2;generalize bsB (zgc (L++ [sEnd]))=zz at*;clear hHeld;go_wp2_with fail;refine hK.out _ _ trivial (fun hHeld=>?_);clear hK;try simp only[tkS]
 refine tkH 7 hHeld (v:=?_) ?_ ?_;rotate_left
 ·intro w h;(try dsimp only at h);go_simp;all_goals with_reducible rfl
 simp only[tkS];refine oneH 8 (fun K hK=>?_);go_simp;refine HWS.out.mono ?_;rintro e w11 ⟨rfl,h11,k11⟩;rw[HE.out]at h11;have HW11:=lhd h11;have HK11:=lhd (HK10.out.trans k11);clear hHeld h11 k11;go_wp2_with fail;refine hK.out _ _ trivial (fun hHeld=>?_);clear hK;try simp only[tkS]
 refine wpAnyH_done (by kernel_rfl) ?_ _;clear hHeld;go_wp2_with fail;go_end0
 exact⟨rfl,HW11.out,HK11.out⟩
end Go.Proofs.YtcdekelomkcahaaGreatDoor
