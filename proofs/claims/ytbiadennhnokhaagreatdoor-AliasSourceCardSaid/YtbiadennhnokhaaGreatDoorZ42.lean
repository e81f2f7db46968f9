import Derived.Test.YtbiadennhnokhaaGreatDoorZ00
import Derived.Test.YtbiadennhnokhaaGreatDoorZ41
set_option maxRecDepth 100000
set_option maxHeartbeats 16000000
namespace Go.Proofs.YtbiadennhnokhaaGreatDoor
open Go.RowKit
set_option linter.unusedSimpArgs false
structure AsR (T t:Tr) (L:List (Sg×Value)) (D:List Dv):Prop where
 g:L.map Prod.fst=T.G
 dl:D.length=L.length
 en:t.en=T.en
 e0:0≤T.en
 e1:T.en≤1099511627776
 s:SrcB t
 sv:∀s∈T.G,svS s=true
 d:∀(i:Nat) (hi:i<L.length) (hd:i<D.length),Dsp t.G L[i].1 D[i]
 n:T.G.length≤8
 m:t.G.length≤64
 le:∀s∈t.G,∀c∈s.2.2,c.1≤T.en
theorem AsR.len {T t:Tr} {L:List (Sg×Value)} {D:List Dv} (R:AsR T t L D):L.length=T.G.length:=by rw[←R.g,List.length_map]
theorem AsR.at {T t:Tr} {L:List (Sg×Value)} {D:List Dv} (R:AsR T t L D) {j:Nat} (hj:j<L.length):sgI T.G (j:Int)=L[j].1:=by
 unfold sgI;rw[←R.g,Int.toNat_natCast,List.getD,List.getElem?_map,List.getElem?_eq_getElem hj];rfl
theorem AsR.svj {T t:Tr} {L:List (Sg×Value)} {D:List Dv} (R:AsR T t L D) {j:Nat} (hj:j<L.length):svS L[j].1=true:=
 R.sv _ (by rw[←R.g];exact List.mem_map.2 ⟨_,List.getElem_mem hj,rfl⟩)
abbrev pB (b:Nat):Value:=.pointer (some ⟨b,0,none⟩)
theorem zbi {w:World} {b:Nat} {T t:Tr} {q:TP} {L:List (Sg×Value)} {D:List Dv} {vl vd:Value} (h:AsM w b t q L D vl vd) (hl:L.length=T.G.length) (n tm lo hi:Int):
 Calls Tryz.prog 376 #[pB b,.int .i64 n,.int .i64 tm,.int .i64 lo,.int .i64 hi] w fun e W'=>e=.returned (.bool (hasS T n tm lo hi))∧Below w.heap.size w W':=by
 obtain⟨al,cl,rfl,-,-⟩:=h.l.s.shape;have x1:=h.x.cell (j:=1) rfl;rw[hl]at x1;clear h hl;by_cases h1:0≤n
 ·have b1:decide (0≤n)=true:=by simpa using h1
  by_cases h2:n<(T.G.length:Int)
  ·have b2:decide (n<(T.G.length:Int))=true:=by simpa using h2
   by_cases h3:lo≤tm
   ·have b3:decide (lo≤tm)=true:=by simpa using h3
    by_cases h4:tm≤hi
    ·have b4:decide (tm≤hi)=true:=by simpa using h4
     have HR:=lhd (show true=hasS T n tm lo hi by unfold hasS;rw[b1,b2,b3,b4];rfl);go_enter Tryz.func376,Tryz.ntmps376;go_wp2_with fail;go_ret;first|exact⟨zlE HR.out,Below.refl _ _⟩|exact⟨rfl,Below.refl _ _⟩
    ·have b4:decide (tm≤hi)=false:=by simpa using h4
     have HR:=lhd (show false=hasS T n tm lo hi by unfold hasS;rw[b1,b2,b3,b4];rfl);go_enter Tryz.func376,Tryz.ntmps376;go_wp2_with fail;go_ret;first|exact⟨zlE HR.out,Below.refl _ _⟩|exact⟨rfl,Below.refl _ _⟩
   ·have b3:decide (lo≤tm)=false:=by simpa using h3
    have HR:=lhd (show false=hasS T n tm lo hi by unfold hasS;rw[b1,b2,b3];rfl);go_enter Tryz.func376,Tryz.ntmps376;go_wp2_with fail;go_ret;first|exact⟨zlE HR.out,Below.refl _ _⟩|exact⟨rfl,Below.refl _ _⟩
  ·have b2:decide (n<(T.G.length:Int))=false:=by simpa using h2
   have HR:=lhd (show false=hasS T n tm lo hi by unfold hasS;rw[b1,b2];rfl);go_enter Tryz.func376,Tryz.ntmps376;go_wp2_with fail;go_ret;first|exact⟨zlE HR.out,Below.refl _ _⟩|exact⟨rfl,Below.refl _ _⟩
 ·have b1:decide (0≤n)=false:=by simpa using h1
  have HR:=lhd (show false=hasS T n tm lo hi by unfold hasS;rw[b1];rfl);go_enter Tryz.func376,Tryz.ntmps376;go_wp2_with fail;go_ret;first|exact⟨zlE HR.out,Below.refl _ _⟩|exact⟨rfl,Below.refl _ _⟩
theorem zba {w:World} {b:Nat} {T t:Tr} {q:TP} {L:List (Sg×Value)} {D:List Dv} {vl vd:Value} (h:AsM w b t q L D vl vd) (R:AsR T t L D) (n:Int):
 Calls Tryz.prog 370 #[pB b,.int .i64 n] w fun e W'=>e=.returned (.tuple #[.int .i64 (znB T n).1,.int .i64 (znB T n).2.1,.int .i64 (znB T n).2.2])∧Below w.heap.size w W':=by
 obtain⟨al,cl,rfl,-,-⟩:=h.l.s.shape;have x1:=h.x.cell (j:=1) rfl;have hlen:=R.len;have hn8:=R.n;by_cases h0:n<0
 ·have HR:=lhd (show znB T n=(0,0,2)by unfold znB;rw[if_neg (fun h=>by have:=zfJ.1 h;omega)]);rw[HR.out];clear h R hlen HR;go_enter Tryz.func370,Tryz.ntmps370;go_wp2_with fail;go_ret3
  exact⟨rfl,Below.refl _ _⟩
 by_cases h1:(L.length:Int)≤n
 ·have HR:=lhd (show znB T n=(0,0,2)by unfold znB;rw[if_neg (fun h=>by have:=zfJ.1 h;omega)]);rw[HR.out];clear h R hlen HR;go_enter Tryz.func370,Tryz.ntmps370;go_wp2_with fail;go_ret3
  exact⟨rfl,Below.refl _ _⟩
 obtain⟨j,rfl⟩:∃j:Nat,n=(j:Int):=⟨n.toNat,by omega⟩;have hj:j<L.length:=by omega
 have HR:=lhd (show znB T (j:Int)=(L[j].1.1,L[j].1.2.1,0)by
  unfold znB;rw[if_pos (zfJ.2 ⟨by omega,by omega,by omega,by omega⟩),R.at hj])
 rw[HR.out];obtain⟨bb,o,rfl,d0,d1,-,-⟩:=h.l.at hj;generalize L[j]=x at d0 d1⊢;clear h R h0 h1 HR;go_enter Tryz.func370,Tryz.ntmps370;go_wp2_with fail;go_quiet (fail);go_wp2_with fail;go_ret3
 exact⟨rfl,zbz (Below.refl _ _) _⟩
theorem zbj {w:World} {b:Nat} {t:Tr} {q:TP} {L:List (Sg×Value)} {D:List Dv} {vl vd:Value} (h:AsM w b t q L D vl vd) {j:Nat} (hj:j<L.length) (_hl:L.length≤64):
 Calls Tryz.prog 377 #[pB b,.int .i64 (j:Int)] w fun e W'=>e=.returned (.bool (L[j].1.1 !=0))∧Below w.heap.size w W':=by
 obtain⟨al,cl,rfl,-,-⟩:=h.l.s.shape;have x1:=h.x.cell (j:=1) rfl;obtain⟨bb,o,rfl,d0,-,-,-⟩:=h.l.at hj;generalize L[j]=x at d0⊢;clear h;go_enter Tryz.func377,Tryz.ntmps377;go_wp2_with fail;go_ret;exact⟨rfl,Below.refl _ _⟩
theorem zbh {w:World} {b:Nat} {t:Tr} {q:TP} {L:List (Sg×Value)} {D:List Dv} {vl vd:Value} (h:AsM w b t q L D vl vd) (hg:Glob w) {j:Nat} (hj:j<L.length) (hd:j<D.length) (_hl:L.length≤64) (_hdl:D.length≤64) (s:ByteArray) (hs:s.size≤maxLen):
 Calls Tryz.prog 379 #[pB b,.int .i64 (j:Int),.string s] w fun e W'=>e=.returned (.string (zll D[j] L[j].1.1 L[j].1.2.1 s))∧Below w.heap.size w W':=by
 obtain⟨al,cl,rfl,-,-⟩:=h.l.s.shape;obtain⟨ad,cd,rfl,-,-⟩:=h.d.shape;have x1:=h.x.cell (j:=1) rfl;have x2:=h.x.cell (j:=2) rfl;obtain⟨bb,o,rfl,d0,d1,-,-⟩:=h.l.at hj;obtain⟨b3,o3,rfl,z0,z1,z2⟩:=zdZ h.d hd;generalize L[j]=x at d0 d1⊢;generalize D[j]=d at z0 z1 z2⊢;obtain⟨⟨xk,xn,xl⟩,xv⟩:=x;dsimp only at d0 d1;have HRD:=lhd (fun W (hW:Below w.heap.size w W)=>zaL d xk xn s W (hg.below hW) hs);obtain⟨p0,p1,p2⟩:=d;dsimp only at z0 z1 z2 HRD;clear h hg hs;go_enter Tryz.func379,Tryz.ntmps379;go_upto_region 1 with fail
 go_region_held3 (fun w'=>w'.cell? ⟨b,1,none⟩=some (.slice (some ⟨bb,o,none⟩) L.length cl)∧w'.cell? ⟨b,2,none⟩=some (.slice (some ⟨b3,o3,none⟩) D.length cd)∧w'.cell? ⟨bb,o+j*3,none⟩=some (.int .i64 xk)∧w'.cell? ⟨bb,o+j*3+1,none⟩=some (.int .i64 xn)∧
  w'.cell? ⟨b3,o3+j*3,none⟩=some (.int .i64 p0)∧w'.cell? ⟨b3,o3+j*3+1,none⟩=some (.int .i64 p1)∧w'.cell? ⟨b3,o3+j*3+2,none⟩=some (.bool p2))
  (first|exact⟨x1,x2,d0,d1,z0,z1,z2⟩|exact⟨(b5.cell (zcn x1)).trans x1,(b5.cell (zcn x2)).trans x2,(b5.cell (zcn d0)).trans d0,(b5.cell (zcn d1)).trans d1,(b5.cell (zcn z0)).trans z0,(b5.cell (zcn z1)).trans z1,(b5.cell (zcn z2)).trans z2⟩|go_keep)
  (first
    |(go_at_call 103;(with_reducible refine(HRD.out _ ?_).mono ?_);(exact zbz (Below.refl _ _) _);rintro e w5 ⟨rfl,hb5⟩;have b5:Below w.heap.size w w5:=zbL hb5;clear hb5)
    |fail "no arm")
 go_wp2_with fail;go_ret;exact⟨rfl,b5⟩
end Go.Proofs.YtbiadennhnokhaaGreatDoor
