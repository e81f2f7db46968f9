import Derived.Test.YtcdekelomkcahaaGreatDoorZ00
import Derived.Test.YtcdekelomkcahaaGreatDoorZ25
import Derived.Test.YtcdekelomkcahaaGreatDoorZ35
set_option maxRecDepth 100000
set_option maxHeartbeats 16000000
namespace Go.Proofs.YtcdekelomkcahaaGreatDoor
open Go.RowKit
set_option linter.unusedSimpArgs false
def zgL (L:List Bs):Bs:=zgc (L++ [sEnd])++ [10]
theorem zqt (B b:Nat) (d0 d1 d2 d3 d4 d5:Value) (bs:Bs) (v:Value) (L:List Bs) (w:World) (h:WrI B b d0 d1 d2 d3 d4 d5 (Lib.byteCells bs) w) (ho:w.ownsRow B 9 1 v L.length (strs L)) (hL:L.length≤1000) (hz:bs.length+(zgL L).length≤140737488355328) (hBw:B≤w.heap.size):
 Calls Tryz.prog 39 #[.pointer (some ⟨b,0,none⟩),v] w fun e w'=>e=.returned (.tuple #[])∧WrI B b d0 d1 d2 d3 d4 d5 (Lib.byteCells (bs++zgL L)) w'∧KW B w w':=by
 obtain⟨i0,hi,iz0,iz1,iz2⟩:=info_parts (P:=Tryz.prog) zno;obtain⟨a,cap,rfl,-,-⟩:=(SlR.of_own ho).shape;have hal:Below w.heap.size w (w.drew.alloc (.cells #[.string ⟨#[36,101,110,100]⟩] 9)):=((Below.refl _ _).drew).alloc (Nat.le_refl _) _;have HA:=lhd (zjb ho hal);have HW:=lhd (h.below hal);have HK:=lhd (KW.of_below hal hBw);have HT:=lhd (show ∀l:List Bs,strs l++ [Value.string ⟨#[36,101,110,100]⟩]=strs (l++ [sEnd])from fun l=>by simp[strs,strV];rfl);have hlt:=h.lt;have hzz:(zgc (L++ [sEnd])).length+1=(zgL L).length:=by unfold zgL;simp
 clear h hal;go_enter Tryz.func39,Tryz.ntmps39;go_wp2_with fail;refine wp_region_held_drew (S:=fun _=>True) (by kernel_rfl) trivial (fun hHeld=>?_);refine tkH 0 hHeld (v:=?_) ?_ ?_;rotate_left
 ·intro w h;(try dsimp only at h);go_simp;all_goals with_reducible rfl
 simp only[tkS];refine tkH 1 hHeld (v:=?_) ?_ ?_;rotate_left
 ·intro w h;(try dsimp only at h);go_simp;all_goals with_reducible rfl
 simp only[tkS];refine tkH 2 hHeld (v:=?_) ?_ ?_;rotate_left
 ·intro w h;(try dsimp only at h);go_simp;all_goals with_reducible rfl
 simp only[tkS];refine tkH 3 hHeld (v:=?_) ?_ ?_;rotate_left
 ·intro w h;(try dsimp only at h);go_simp;all_goals with_reducible rfl
 simp only[tkS];refine oneH 4 (fun K hK=>?_);go_simp;refine hK.out _ _ trivial (fun hHeld=>?_);clear hK;try simp only[tkS]
 refine oneH 5 (fun K hK=>?_);refine step_append_lies _ (by rfl) _ _ _ (by rfl) B 9 i0 _ 1 16 Tryz.underlying65 hi iz0 iz1 iz2 rfl (by omega) (.slice a L.length cap) L.length (strs L) (by rfl) (by exact HA.out) ⟨w.heap.size,0,none⟩ 1 1 [.string ⟨#[36,101,110,100]⟩] (by rfl) (by rfl) (World.news_of_block (cs:=#[.string ⟨#[36,101,110,100]⟩]) (t:=9) (fr:=(0,0)) (by exact heap_alloc_new _ _)) (by simp[Value.oneCell']) (by omega) (by unfold maxLen;omega) (by omega) (by simp;omega) (w.heap.size+1) (by simp) ?_;intro gg cap9 w9 ho9 hg9 hat hlt9;have hW9:=HW.out.grown HA.out rfl hg9;have HK9:=lhd (HK.out.trans (KW.grown HA.out (.inr rfl) hg9 (by simp;omega)));rw[HT.out]at ho9;have hL9:(L++ [sEnd]).length=L.length+1:=by simp
 have HJ:=lhd (zcc B 9 (.slice (some ⟨gg,0,none⟩) (L.length+1) cap9) (L++ [sEnd]) w9 (by rw[hL9];exact ho9) (by omega) (by omega));have HW9:=lhd hW9;have hB9:=HK9.out.b.size;clear ho9 hg9 hat hlt9 hW9 hL9;refine hK.out _ _ trivial (fun hHeld=>?_);clear hK;try simp only[tkS]
 refine oneH 6 (fun K hK=>?_);go_simp;refine HJ.out.mono ?_;rintro e w10 ⟨rfl,hb10⟩;have HW10:=lhd (HW9.out.below hb10);have HK10:=lhd (HK9.out.trans (KW.of_below hb10 (by omega)));have hs10:=zbk (zgc (L++ [sEnd]));have hq:¬9223372036854775807<(bsB (zgc (L++ [sEnd]))).size+1:=by omega
 have hq2:¬9223372036854775807<(zgc (L++ [sEnd])).length+1:=by omega
 have hB10:=hb10.size
 have HWS:=lhd (zqp B b d0 d1 d2 d3 d4 d5 _ (bsB (zgc (L++ [sEnd]))++⟨#[10]⟩) w10 HW10.out (by
  rw[ByteArray.size_append,hs10,show(⟨#[10]⟩:ByteArray).size=1 from rfl,Lib.byteCells_length];omega) (by omega))
 have HE:=lhd (show Lib.byteCells bs++Lib.strCells (bsB (zgc (L++ [sEnd]))++⟨#[10]⟩)=Lib.byteCells (bs++zgL L)by
  simp[Lib.byteCells,Lib.strCells,zgL,bsB])
 clear hb10 hzz hs10 hz hBw hlt hB9 hB10 hq2;generalize bsB (zgc (L++ [sEnd]))=zz at*;clear hHeld;go_wp2_with fail;refine hK.out _ _ trivial (fun hHeld=>?_);clear hK;try simp only[tkS]
 refine tkH 7 hHeld (v:=?_) ?_ ?_;rotate_left
 ·intro w h;(try dsimp only at h);go_simp;all_goals with_reducible rfl
 simp only[tkS];refine oneH 8 (fun K hK=>?_);go_simp;refine HWS.out.mono ?_;rintro e w11 ⟨rfl,h11,k11⟩;rw[HE.out]at h11;have HW11:=lhd h11;have HK11:=lhd (HK10.out.trans k11);clear hHeld h11 k11;go_wp2_with fail;refine hK.out _ _ trivial (fun hHeld=>?_);clear hK;try simp only[tkS]
 refine wpAnyH_done (by kernel_rfl) ?_ _;clear hHeld;go_wp2_with fail;go_end0
 exact⟨rfl,HW11.out,HK11.out⟩
end Go.Proofs.YtcdekelomkcahaaGreatDoor
