import Derived.Test.YtcdekelomkcahaaGreatDoorZ00
import Derived.Test.YtcdekelomkcahaaGreatDoorZ33
set_option maxRecDepth 100000
set_option maxHeartbeats 16000000
namespace Go.Proofs.YtcdekelomkcahaaGreatDoor
open Go.RowKit
set_option linter.unusedSimpArgs false
theorem zdu (c:DC) (s:DS) (vS vD vr:Value) (w:Wd) (a:Option Addr) (cap:Nat) (cw:List Wd) (W:World) (h:DPar c s vS vD vr W) (hl:s.wrong.length≤1000000):
 Calls Tryz.prog 93 #[.pointer (some ⟨c.B,0,none⟩),wdV w,.slice a cw.length cap] W (zad c (endD s w cw)):=by
 obtain⟨tx,o1,o2,o3⟩:=w;have hal:Below W.heap.size W (W.alloc (.cells #[.string (bsB tx),.int .i64 o1,.int .i64 o2,.int .i64 o3] 58)):=(Below.refl _ _).alloc (Nat.le_refl _) _;have hx:=zaq.fresh W #[.string (bsB tx),.int .i64 o1,.int .i64 o2,.int .i64 o3] 58;have hz:W.heap.size<(W.alloc (.cells #[.string (bsB tx),.int .i64 o1,.int .i64 o2,.int .i64 o3] 58)).heap.size:=by simp
 have H:=lhd (h.later hal);generalize hw1:W.alloc (.cells #[.string (bsB tx),.int .i64 o1,.int .i64 o2,.int .i64 o3] 58)=w1 at*;have x0:=hx.cell (j:=0) rfl;have x1:=hx.cell (j:=1) rfl;have x2:=hx.cell (j:=2) rfl;have x3:=hx.cell (j:=3) rfl;clear h hal hx;have c11:=H.out.row.cell (j:=11) rfl;have f11:=H.out.row.free (j:=11) (by simp[zdR]);have H2:=lhd (H.out.set (s':={s with ended:=true}) 11 (.bool true) rfl rfl rfl rfl ⟨rfl,rfl,rfl⟩);by_cases h0:0<cw.length
 ·have HR:=lhd (show({s with ended:=true}:DS).prob 3 (tx,o1,o2,o3)=endD s (tx,o1,o2,o3) cw by unfold endD;rw[if_pos h0]);go_enter Tryz.func93,Tryz.ntmps93;go_wp2_with fail;refine(zdz c _ _ _ _ 3 (tx,o1,o2,o3) _ H2.out hl).mono ?_;rintro e w9 ⟨rfl,vS9,vD9,vr9,h9⟩;have H9:=lhd h9;clear h9;go_wp2_with fail;go_end0
  exact⟨rfl,_,_,_,HR.out▸H9.out⟩
 ·have HR:=lhd (show({s with ended:=true}:DS)=endD s (tx,o1,o2,o3) cw by unfold endD;rw[if_neg h0]);go_enter Tryz.func93,Tryz.ntmps93;go_wp2_with fail;go_end0
  exact⟨rfl,_,_,_,HR.out▸H2.out⟩
theorem zdJ (c:DC) (s:DS) (vS vD vr:Value) (w:Wd) (a:Option Addr) (cap:Nat) (cw:List Wd) (W:World) (h:DPar c s vS vD vr W) (hv:VP s) (hl:s.wrong.length≤1000000) (hk:s.skip≤1000000):
 Calls Tryz.prog 91 #[.pointer (some ⟨c.B,0,none⟩),wdV w,.slice a cw.length cap] W (zad c (upP s w cw)):=by
 obtain⟨tx,o1,o2,o3⟩:=w;obtain⟨aS,cS,rfl,-,-⟩:=(SlR.of_own h.S).shape;have hal:Below W.heap.size W (W.alloc (.cells #[.string (bsB tx),.int .i64 o1,.int .i64 o2,.int .i64 o3] 58)):=(Below.refl _ _).alloc (Nat.le_refl _) _;have hx:=zaq.fresh W #[.string (bsB tx),.int .i64 o1,.int .i64 o2,.int .i64 o3] 58;have hz:W.heap.size<(W.alloc (.cells #[.string (bsB tx),.int .i64 o1,.int .i64 o2,.int .i64 o3] 58)).heap.size:=by simp
 have H:=lhd (h.later hal);generalize hw1:W.alloc (.cells #[.string (bsB tx),.int .i64 o1,.int .i64 o2,.int .i64 o3] 58)=w1 at*;have x0:=hx.cell (j:=0) rfl;have x1:=hx.cell (j:=1) rfl;have x2:=hx.cell (j:=2) rfl;have x3:=hx.cell (j:=3) rfl;clear h hal hx;have c4:=H.out.row.cell (j:=4) rfl;have c8:=H.out.row.cell (j:=8) rfl;have f8:=H.out.row.free (j:=8) (by simp[zdR]);have c9:=H.out.row.cell (j:=9) rfl;have f9:=H.out.row.free (j:=9) (by simp[zdR]);by_cases h0:0<s.skip
 ·have hw0:IntKind.i64.wrap (s.skip-1)=s.skip-1:=IntWalk.i64_in _ (by omega);have HR:=lhd (show({s with skip:=s.skip-1}:DS)=upP s (tx,o1,o2,o3) cw by unfold upP;rw[if_pos h0]);have H2:=lhd (H.out.set (s':={s with skip:=s.skip-1}) 9 (.int .i64 (s.skip-1)) rfl rfl rfl rfl ⟨rfl,rfl,rfl⟩);go_enter Tryz.func91,Tryz.ntmps91;go_wp2_with fail;go_end0
  exact⟨rfl,_,_,_,HR.out▸H2.out⟩
 by_cases h1:s.now<0
 ·have HR:=lhd (show s.prob 10 (tx,o1,o2,o3)=upP s (tx,o1,o2,o3) cw by unfold upP;rw[if_neg h0,if_pos h1]);go_enter Tryz.func91,Tryz.ntmps91;go_wp2_with fail;refine(zdz c _ _ _ _ 10 (tx,o1,o2,o3) _ H.out hl).mono ?_;rintro e w9 ⟨rfl,vS9,vD9,vr9,h9⟩;have H9:=lhd h9;clear h9;go_wp2_with fail;go_end0
  exact⟨rfl,_,_,_,HR.out▸H9.out⟩
 have hnw:=hv.nw;obtain⟨k,hk2⟩:∃k:Nat,s.now=(k:Int):=⟨s.now.toNat,by omega⟩;have hkl:k<s.S.length:=by omega
 obtain⟨b,o,rfl,hcell⟩:=SlR.scs (SlR.of_own H.out.S) hkl;have hp:=hcell 2 _ rfl;have H2:=lhd (H.out.set (s':={s with now:=s.S[k].2.2}) 8 (.int .i64 s.S[k].2.2) rfl rfl rfl rfl ⟨rfl,rfl,rfl⟩);have HP:=lhd (show parS s.S s.now.toNat=s.S[k].2.2 by rw[hk2,Int.toNat_natCast];exact zjD hkl);by_cases h2:0<cw.length
 ·have HR:=lhd (show({s with now:=s.S[k].2.2}:DS).prob 3 (tx,o1,o2,o3)=upP s (tx,o1,o2,o3) cw by unfold upP;rw[if_neg h0,if_neg h1,HP.out];dsimp only;rw[if_pos h2]);rw[hk2]at c8 h1;clear hk2 hnw hcell HP;generalize s.S[k].2.2=pp at*;go_enter Tryz.func91,Tryz.ntmps91;go_wp2_with fail;go_region
  go_wp2_with fail;refine(zdz c _ _ _ _ 3 (tx,o1,o2,o3) _ (H2.out.later ((Below.refl _ _).drew)) hl).mono ?_;rintro e w9 ⟨rfl,vS9,vD9,vr9,h9⟩;have H9:=lhd h9;clear h9;go_wp2_with fail;go_end0
  exact⟨rfl,_,_,_,HR.out▸H9.out⟩
 ·have HR:=lhd (show({s with now:=s.S[k].2.2}:DS)=upP s (tx,o1,o2,o3) cw by unfold upP;rw[if_neg h0,if_neg h1,HP.out];dsimp only;rw[if_neg h2]);rw[hk2]at c8 h1;clear hk2 hnw hcell HP;generalize s.S[k].2.2=pp at*;go_enter Tryz.func91,Tryz.ntmps91;go_wp2_with fail;go_region
  go_wp2_with fail;go_end0
  exact⟨rfl,_,_,_,HR.out▸(H2.out.later ((Below.refl _ _).drew))⟩
end Go.Proofs.YtcdekelomkcahaaGreatDoor
