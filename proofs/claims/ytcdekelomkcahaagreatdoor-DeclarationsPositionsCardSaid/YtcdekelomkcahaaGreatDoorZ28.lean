import Derived.Test.YtcdekelomkcahaaGreatDoorZ00
import Derived.Test.YtcdekelomkcahaaGreatDoorZ24
import Derived.Test.YtcdekelomkcahaaGreatDoorZ25
set_option maxRecDepth 100000
set_option maxHeartbeats 16000000
namespace Go.Proofs.YtcdekelomkcahaaGreatDoor
open Go.RowKit
set_option linter.unusedSimpArgs false
abbrev ddV (d:DD) (vS vD:Value):Value:=.agg #[.int .i64 d.sc,.string (bsB d.dt),.string (bsB d.vn),.string (bsB d.cm),vS,vD]
theorem zlg (d:DD) (vS vD vS' vD':Value) (w:World) (hS:SlR w vS d.S.length (scs d.S)) (hD:SlR w vD d.D.length (dcls d.D)) (hS':SlR w vS' d.S.length (scs d.S)) (hD':SlR w vD' d.D.length (dcls d.D)):
 Calls Tryz.prog 22 #[ddV d vS vD,ddV d vS' vD'] w fun e w'=>e=.returned (.bool true)∧Below w.heap.size w w':=by
 obtain⟨a1,k1,rfl,hc1,hm1⟩:=hS.shape;obtain⟨a2,k2,rfl,hc2,hm2⟩:=hD.shape;obtain⟨a3,k3,rfl,-,-⟩:=hS'.shape;obtain⟨a4,k4,rfl,-,-⟩:=hD'.shape;unfold maxLen at hm1 hm2;have H1:=lhd hS;have H2:=lhd hD;have H3:=lhd hS';have H4:=lhd hD';obtain⟨sc,dt,vn,cm,S,D⟩:=d;dsimp only at H1 H2 H3 H4 hc1 hc2⊢;have hb1:Below w.heap.size w (w.alloc (.cells #[.int .i64 sc,.string (bsB dt),.string (bsB vn),.string (bsB cm),.slice a1 S.length k1,.slice a2 D.length k2] 25)):=(Below.refl _ _).alloc (Nat.le_refl _) _;have hz1:w.heap.size<(w.alloc (.cells #[.int .i64 sc,.string (bsB dt),.string (bsB vn),.string (bsB cm),.slice a1 S.length k1,.slice a2 D.length k2] 25)).heap.size:=by simp
 have hx1:=zaq.fresh w #[.int .i64 sc,.string (bsB dt),.string (bsB vn),.string (bsB cm),.slice a1 S.length k1,.slice a2 D.length k2] 25;have hb2:Below (w.alloc (.cells #[.int .i64 sc,.string (bsB dt),.string (bsB vn),.string (bsB cm),.slice a1 S.length k1,.slice a2 D.length k2] 25)).heap.size (w.alloc (.cells #[.int .i64 sc,.string (bsB dt),.string (bsB vn),.string (bsB cm),.slice a1 S.length k1,.slice a2 D.length k2] 25)) ((w.alloc (.cells #[.int .i64 sc,.string (bsB dt),.string (bsB vn),.string (bsB cm),.slice a1 S.length k1,.slice a2 D.length k2] 25)).alloc (.cells #[.int .i64 sc,.string (bsB dt),.string (bsB vn),.string (bsB cm),.slice a3 S.length k3,.slice a4 D.length k4] 25)):=(Below.refl _ _).alloc (Nat.le_refl _) _;have hx2:=zaq.fresh (w.alloc (.cells #[.int .i64 sc,.string (bsB dt),.string (bsB vn),.string (bsB cm),.slice a1 S.length k1,.slice a2 D.length k2] 25)) #[.int .i64 sc,.string (bsB dt),.string (bsB vn),.string (bsB cm),.slice a3 S.length k3,.slice a4 D.length k4] 25;rw[World.size_alloc]at hx2;have HX1:=lhd (hx1.below hb2 hz1);have HX2:=lhd hx2;have HB:=lhd (zd5 hb1 hb2);clear hS hD hS' hD' hb1 hb2 hx1 hx2 hz1;go_enter Tryz.func22,Tryz.ntmps22;go_upto_region 1 with fail;generalize (w.alloc (.cells #[.int .i64 sc,.string (bsB dt),.string (bsB vn),.string (bsB cm),.slice a1 S.length k1,.slice a2 D.length k2] 25)).alloc (.cells #[.int .i64 sc,.string (bsB dt),.string (bsB vn),.string (bsB cm),.slice a3 S.length k3,.slice a4 D.length k4] 25)=w2 at*;have x0:=HX1.out.cell (j:=0) rfl;have y0:=HX2.out.cell (j:=0) rfl;have x1:=HX1.out.cell (j:=1) rfl;have y1:=HX2.out.cell (j:=1) rfl;have x2:=HX1.out.cell (j:=2) rfl;have y2:=HX2.out.cell (j:=2) rfl;have x3:=HX1.out.cell (j:=3) rfl;have y3:=HX2.out.cell (j:=3) rfl;have x4:=HX1.out.cell (j:=4) rfl;have y4:=HX2.out.cell (j:=4) rfl;have x5:=HX1.out.cell (j:=5) rfl;have y5:=HX2.out.cell (j:=5) rfl;go_wp2_with fail;clear x0 x1 x2 x3 x4 x5 y0 y1 y2 y3 y4 y5;go_loopw [5] (fun i wr=>∃j:Nat,j≤S.length∧i=.int .i64 j∧zaq wr w.heap.size [.int .i64 sc,.string (bsB dt),.string (bsB vn),.string (bsB cm),.slice a1 S.length k1,.slice a2 D.length k2]∧zaq wr (w.heap.size+1) [.int .i64 sc,.string (bsB dt),.string (bsB vn),.string (bsB cm),.slice a3 S.length k3,.slice a4 D.length k4]∧Below w.heap.size w wr) (fun i _=>S.length-(intOf i).toNat)
 case atStart=>exact⟨0,Nat.zero_le _,rfl,HX1.out,HX2.out,HB.out⟩
 case round=>
  obtain⟨j,hj,rfl,hr1,hr2,hbr⟩:=hrel;have HR1:=lhd hr1;have HR2:=lhd hr2;have HBR:=lhd hbr;have x4:=hr1.cell (j:=4) rfl;have y4:=hr2.cell (j:=4) rfl;clear hr1 hr2 hbr HX1 HX2;by_cases hlt:j<S.length
  ·obtain⟨b,o,rfl,hcl⟩:=(H1.out.below HBR.out).scs hlt;obtain⟨b2,o2,rfl,hcl2⟩:=(H3.out.below HBR.out).scs hlt;have q1:(0:Int)≤(j:Int):=by omega
   have q2:(j:Int)<(S.length:Int):=by omega
   have hw:IntKind.i64.wrap ((j:Int)+1)=(j:Int)+1:=IntWalk.i64_in _ (by omega);generalize S[j]=c at hcl hcl2;obtain⟨nm,ty,pp⟩:=c;have d0:wr.cell? ⟨b,o+j*3,none⟩=some (.string (bsB nm)):=hcl 0 _ rfl;have d1:wr.cell? ⟨b,o+j*3+1,none⟩=some (.int .i64 ty):=hcl 1 _ rfl;have d2:wr.cell? ⟨b,o+j*3+2,none⟩=some (.int .i64 pp):=hcl 2 _ rfl;have g0:wr.cell? ⟨b2,o2+j*3,none⟩=some (.string (bsB nm)):=hcl2 0 _ rfl;have g1:wr.cell? ⟨b2,o2+j*3+1,none⟩=some (.int .i64 ty):=hcl2 1 _ rfl;have g2:wr.cell? ⟨b2,o2+j*3+2,none⟩=some (.int .i64 pp):=hcl2 2 _ rfl;clear hcl hcl2;go_wp2_with fail;go_quiet (fail);go_wp2_with fail;go_roundw;case rel=>exact⟨j+1,hlt,by go_num,HR1.out,HR2.out,za1 HBR.out _⟩
   case measure=>simp[intOf];omega
  ·obtain rfl:j=S.length:=by omega
   clear hlt;go_wp2_with fail;clear x4 y4;go_loopw [6] (fun i wr=>∃j:Nat,j≤D.length∧i=.int .i64 j∧zaq wr w.heap.size [.int .i64 sc,.string (bsB dt),.string (bsB vn),.string (bsB cm),.slice a1 S.length k1,.slice a2 D.length k2]∧zaq wr (w.heap.size+1) [.int .i64 sc,.string (bsB dt),.string (bsB vn),.string (bsB cm),.slice a3 S.length k3,.slice a4 D.length k4]∧Below w.heap.size w wr) (fun i _=>D.length-(intOf i).toNat)
   case atStart=>exact⟨0,Nat.zero_le _,rfl,HR1.out,HR2.out,HBR.out⟩
   case round=>
    obtain⟨j,hj,rfl,hr1,hr2,hbr⟩:=hrel;have HR1:=lhd hr1;have HR2:=lhd hr2;have HBR:=lhd hbr;have x5:=hr1.cell (j:=5) rfl;have y5:=hr2.cell (j:=5) rfl;clear hr1 hr2 hbr;by_cases hlt:j<D.length
    ·obtain⟨b,o,rfl,hcl⟩:=(H2.out.below HBR.out).dcls hlt;obtain⟨b2,o2,rfl,hcl2⟩:=(H4.out.below HBR.out).dcls hlt;have q1:(0:Int)≤(j:Int):=by omega
     have q2:(j:Int)<(D.length:Int):=by omega
     have hw:IntKind.i64.wrap ((j:Int)+1)=(j:Int)+1:=IntWalk.i64_in _ (by omega);generalize D[j]=c at hcl hcl2;obtain⟨n0,n1,n2,n3,n4,n5,n6,n7,n8,n9⟩:=c;have d0:wr.cell? ⟨b,o+j*10,none⟩=some (.string (bsB n0)):=hcl 0 _ rfl;have g0:wr.cell? ⟨b2,o2+j*10,none⟩=some (.string (bsB n0)):=hcl2 0 _ rfl;have d1:wr.cell? ⟨b,o+j*10+1,none⟩=some (.int .i64 n1):=hcl 1 _ rfl;have g1:wr.cell? ⟨b2,o2+j*10+1,none⟩=some (.int .i64 n1):=hcl2 1 _ rfl;have d2:wr.cell? ⟨b,o+j*10+2,none⟩=some (.int .i64 n2):=hcl 2 _ rfl;have g2:wr.cell? ⟨b2,o2+j*10+2,none⟩=some (.int .i64 n2):=hcl2 2 _ rfl;have d3:wr.cell? ⟨b,o+j*10+3,none⟩=some (.int .i64 n3):=hcl 3 _ rfl;have g3:wr.cell? ⟨b2,o2+j*10+3,none⟩=some (.int .i64 n3):=hcl2 3 _ rfl;have d4:wr.cell? ⟨b,o+j*10+4,none⟩=some (.bool n4):=hcl 4 _ rfl;have g4:wr.cell? ⟨b2,o2+j*10+4,none⟩=some (.bool n4):=hcl2 4 _ rfl;have d5:wr.cell? ⟨b,o+j*10+5,none⟩=some (.int .i64 n5):=hcl 5 _ rfl;have g5:wr.cell? ⟨b2,o2+j*10+5,none⟩=some (.int .i64 n5):=hcl2 5 _ rfl;have d6:wr.cell? ⟨b,o+j*10+6,none⟩=some (.int .i64 n6):=hcl 6 _ rfl;have g6:wr.cell? ⟨b2,o2+j*10+6,none⟩=some (.int .i64 n6):=hcl2 6 _ rfl;have d7:wr.cell? ⟨b,o+j*10+7,none⟩=some (.string (bsB n7)):=hcl 7 _ rfl;have g7:wr.cell? ⟨b2,o2+j*10+7,none⟩=some (.string (bsB n7)):=hcl2 7 _ rfl;have d8:wr.cell? ⟨b,o+j*10+8,none⟩=some (.int .i64 n8):=hcl 8 _ rfl;have g8:wr.cell? ⟨b2,o2+j*10+8,none⟩=some (.int .i64 n8):=hcl2 8 _ rfl;have d9:wr.cell? ⟨b,o+j*10+9,none⟩=some (.int .i64 n9):=hcl 9 _ rfl;have g9:wr.cell? ⟨b2,o2+j*10+9,none⟩=some (.int .i64 n9):=hcl2 9 _ rfl;clear hcl hcl2;go_wp2_with fail;go_quiet (fail);go_wp2_with fail;go_roundw;case rel=>exact⟨j+1,hlt,by go_num,HR1.out,HR2.out,za1 HBR.out _⟩
     case measure=>simp[intOf];omega
    ·obtain rfl:j=D.length:=by omega
     clear hlt;go_wp2_with fail;go_ret;exact⟨zle rfl,HBR.out⟩
theorem zqo (B b:Nat) (d0 d1 d2 d3 d4 d5:Value) (l:Bs) (w:World) (h:WrI B b d0 d1 d2 d3 d4 d5 (Lib.byteCells l) w) (h0:l≠ []):
 Calls Tryz.prog 41 #[.pointer (some ⟨b,6,none⟩)] w fun e w'=>e=.returned (.string (bsB l))∧Below B w w':=by
 obtain⟨p,hB,v,hbk,hown⟩:∃p,WrAt B b d0 d1 d2 d3 d4 d5 p (Lib.byteCells l) w:=by
  rcases h with h|h
  ·exact⟨_,h⟩
  ·exact⟨_,h⟩
 have hl0:l.length≠0:=by simpa using h0
 rw[Lib.byteCells_length]at hown
 obtain⟨g,cap,cur,rfl,hbg,hg,hnc,hcm,hcs,htake⟩:∃g cap cur,v=.slice (some ⟨g,0,none⟩) l.length cap∧B≤g∧w.heap[g]? =some (.cells cur 5 (0,0))∧l.length≤cap∧cap≤maxLen∧cur.size=cap*1∧cur.toList.take (l.length*1)=Lib.byteCells l:=by
  rcases hown.2 with⟨_,hz⟩|⟨g,cap,cur,hv,r⟩
  ·exact absurd hz hl0
  ·exact⟨g,cap,cur,hv,r⟩
 have c1:w.drew.cell? ⟨b,7,none⟩=some (.slice (some ⟨g,0,none⟩) l.length cap):=by
  have:w.drew.heap[b]? =some (.cells #[d0,d1,d2,d3,d4,d5,p,.slice (some ⟨g,0,none⟩) l.length cap] 74 (0,0)):=hbk;rw[Lib.cell_of_heap this];rfl
 have hSD:(Builtin.unsafeSliceData_ #[70] 130 #[.slice (some ⟨g,0,none⟩) l.length cap]).run Tryz.prog w.drew=.ok (.pointer (some ⟨g,0,none⟩)) w.drew:=
  Lib.run_unsafeSliceData_row _ _ _ _ _ _ (by omega)
 have hUS:(Builtin.unsafeString_ #[130,3] 9 #[.pointer (some ⟨g,0,none⟩),.int .i64 l.length]).run Tryz.prog w.drew=.ok (.string ⟨l.toArray⟩) (w.drew.freeze ⟨g,0,none⟩ l.length):=by
  refine Lib.run_unsafeString_row w.drew 130 3 9 5 Tryz.underlying130 (by kernel_rfl) g cur.size (by have hg':w.drew.heap[g]? =some (.cells cur 5 (0,0)):=hg;simp[World.shape?,hg']) l h0 (by omega) (by unfold maxLen at hcm;omega) ?_;intro j x hx;have:=hown.cells (g:=g) rfl j (.int .u8 x.toNat) (by simp[Lib.byteCells,hx]);exact this
 have hF:=lhd (Lib.below_freeze (Below.drew (Below.refl B w)) (p:=⟨g,0,none⟩) hbg l.length);clear hown htake;have hmx:Tryz.prog.follows .mixedOrders=true:=by kernel_rfl
 go_enter Tryz.func41,Tryz.ntmps41;go_wp2
 go_region_o
 all_goals (go_wp2;go_ret;exact⟨rfl,hF.out⟩)
end Go.Proofs.YtcdekelomkcahaaGreatDoor
