import Derived.Test.YtcdekelomkcahaaGreatDoorZ00
import Derived.Test.YtcdekelomkcahaaGreatDoorZ44
import Derived.Test.YtcdekelomkcahaaGreatDoorZ46
import Derived.Test.YtcdekelomkcahaaGreatDoorZ47
set_option maxRecDepth 100000
set_option maxHeartbeats 16000000
namespace Go.Proofs.YtcdekelomkcahaaGreatDoor
open Go.RowKit
set_option linter.unusedSimpArgs false
def zei (d:DD):Bs:=if zoN d=true then fmtD d else []
structure DOk (d:DD):Prop where
 l:d.S.length≤1000∧d.D.length≤1000
 t:d.dt.length≤100000∧d.vn.length≤100000∧d.cm.length≤100000
 n:(∀s∈d.S,s.1.length≤100000)∧∀x∈d.D,x.nm.length≤100000∧x.code.length≤140737488351232
theorem zdg (d:DD) (vS vD:Value) (w:World) (hG:Glob w) (hM:Glm w) (hS:SlR w vS d.S.length (scs d.S)) (hD:SlR w vD d.D.length (dcls d.D)) (ho:DOk d):
 Calls Tryz.prog 15 #[ddV d vS vD] w fun e w'=>e=.returned (.string (bsB (zei d)))∧Below w.heap.size w w':=by
 have HV:=lhd (fun W (hW:Below w.heap.size w W)=>zdK d vS vD W (hG.below hW) (hM.below hW) (hS.below hW) (hD.below hW) ho.l ho.t ho.n);by_cases hv:zoN d=true
 ·have hd:=zoP.1 hv;rw[show zei d=fmtD d from if_pos hv];refine zdf d vS vD w hG hS hD (fun x hx=>zpB (hd.dv x hx)) hd.sf ho.l.2 ho.l.1 (zej hd) fun W hW=>?_;have:=HV.out W hW;rwa [hv]at this
 ·have hv:zoN d=false:=by simpa using hv
  have HF:=lhd (show zei d=[]from if_neg (by rw[hv];simp));obtain⟨aS,cS,rfl,-,-⟩:=hS.shape;obtain⟨aD,cD,rfl,-,-⟩:=hD.shape;have hal:Below w.heap.size w (w.alloc (.cells #[.int .i64 d.sc,.string (bsB d.dt),.string (bsB d.vn),.string (bsB d.cm),.slice aS d.S.length cS,.slice aD d.D.length cD] 25)):=(Below.refl _ _).alloc (Nat.le_refl _) _;have HB1:=lhd hal;have hc:=HV.out _ hal;rw[hv]at hc;have HC:=lhd hc;have hx:=zaq.fresh w #[.int .i64 d.sc,.string (bsB d.dt),.string (bsB d.vn),.string (bsB d.cm),.slice aS d.S.length cS,.slice aD d.D.length cD] 25;have x0:=hx.cell (j:=0) rfl;have x1:=hx.cell (j:=1) rfl;have x2:=hx.cell (j:=2) rfl;have x3:=hx.cell (j:=3) rfl;have x4:=hx.cell (j:=4) rfl;have x5:=hx.cell (j:=5) rfl;clear hG hM hS hD ho HV hv hal hc hx;go_enter Tryz.func15,Tryz.ntmps15;go_wp2_with fail;refine HC.out.mono ?_;rintro e w1 ⟨rfl,hb1⟩;go_wp2_with fail;go_ret;exact⟨by rw[HF.out];rfl,zd5 HB1.out hb1⟩
def zcz:Nat→DS→List Wd→DS×Nat
 |0,s,_=>(s,0)
 |_+1,s,[]=>(s,0)
 |n+1,s,w::t=>
  if s.ended=true then(s,0)
  else match (zcF s w t).2 with
   |none=>((zcF s w t).1,0)
   |some k=>((zcz n (zcF s w t).1 (t.drop k)).1,(zcz n (zcF s w t).1 (t.drop k)).2+(k+1))
theorem zcA:∀(n:Nat) (ws:List Wd) (s:DS),ws.length≤n→dRun s ws=zcz n s ws
 |0,ws,s,h=>by
  obtain rfl:ws=[]:=List.length_eq_zero_iff.1 (by omega);rw[zcD];rfl
 |n+1,[],s,_=>by rw[zcD];rfl
 |n+1,w::t,s,h=>by
  rw[dRun];show _=if s.ended=true then(s,0)else _
  by_cases he:s.ended=true
  ·rw[if_pos he,if_pos he]
  ·rw[if_neg he,if_neg he];cases hk:(zcF s w t).2 with
   |none=>rfl
   |some k=>
    have:=zcA n (t.drop k) (zcF s w t).1 (by rw[List.length_drop];simp at h;omega);dsimp only;rw[this]
def aw1:Bs:=[36,115,99,111,112,101,32,109,111,100,117,108,101,32,116,111,112,32,36,101,110,100,32,36,118,97,114,32,119,105,114,101,32,52,32,33,32,98,117,115,32,91,51,58,48,93,32,36,101,110,100,32,36,117,112,115,99,111,112,101,32,36,101,110,100,32,36,101,110,100,100,101,102,105,110,105,116,105,111,110,115,32,36,101,110,100]
def aw2:Bs:=[36,115,99,111,112,101,32,109,111,100,117,108,101,32,116,111,112,32,36,101,110,100,32,36,118,97,114,32,119,105,114,101,32,52,32,33,32,98,117,115,32,91,52,58,48,93,32,36,101,110,100,32,36,117,112,115,99,111,112,101,32,36,101,110,100,32,36,101,110,100,100,101,102,105,110,105,116,105,111,110,115,32,36,101,110,100]
def awS:DS:=⟨-9,false,[],false,[],false,[],false,[([116,111,112],0,-1)],[⟨[98,117,115],17,0,0,true,3,0,[33],0,4⟩],-1,0,[],true⟩
theorem zaO:zp1 aw1=[[36,115,99,111,112,101],[109,111,100,117,108,101],[116,111,112],[36,101,110,100],[36,118,97,114],[119,105,114,101],[52],[33],[98,117,115],[91,51,58,48,93],[36,101,110,100],[36,117,112,115,99,111,112,101],[36,101,110,100],[36,101,110,100,100,101,102,105,110,105,116,105,111,110,115],[36,101,110,100]]:=by decide+kernel
theorem zaR:zp1 aw2=[[36,115,99,111,112,101],[109,111,100,117,108,101],[116,111,112],[36,101,110,100],[36,118,97,114],[119,105,114,101],[52],[33],[98,117,115],[91,52,58,48,93],[36,101,110,100],[36,117,112,115,99,111,112,101],[36,101,110,100],[36,101,110,100,100,101,102,105,110,105,116,105,111,110,115],[36,101,110,100]]:=by decide+kernel
theorem zaN (p0 p1 p2 p3 p4 p5 p6 p7 p8 p9 p10 p11 p12 p13 p14:Int×Int×Int):zjK [([36,115,99,111,112,101],p0),([109,111,100,117,108,101],p1),([116,111,112],p2),([36,101,110,100],p3),([36,118,97,114],p4),([119,105,114,101],p5),([52],p6),([33],p7),([98,117,115],p8),([91,51,58,48,93],p9),([36,101,110,100],p10),([36,117,112,115,99,111,112,101],p11),([36,101,110,100],p12),([36,101,110,100,100,101,102,105,110,105,116,105,111,110,115],p13),([36,101,110,100],p14)]=(awS,15):=by
 unfold zjK;rw[zcA 15 _ _ (Nat.le_refl _)];kernel_rfl
theorem zaQ (p0 p1 p2 p3 p4 p5 p6 p7 p8 p9 p10 p11 p12 p13 p14:Int×Int×Int):(zjK [([36,115,99,111,112,101],p0),([109,111,100,117,108,101],p1),([116,111,112],p2),([36,101,110,100],p3),([36,118,97,114],p4),([119,105,114,101],p5),([52],p6),([33],p7),([98,117,115],p8),([91,52,58,48,93],p9),([36,101,110,100],p10),([36,117,112,115,99,111,112,101],p11),([36,101,110,100],p12),([36,101,110,100,100,101,102,105,110,105,116,105,111,110,115],p13),([36,101,110,100],p14)]).1.wrong=[(8,p9)]:=by
 unfold zjK;rw[zcA 15 _ _ (Nat.le_refl _)];kernel_rfl
theorem zaU:zoN (toDD awS)=true:=by kernel_rfl
theorem zaM {ws:List Wd} (h:ws.map (·.1)=zp1 aw1):zjK ws=(awS,15)∧ws.length=15:=by
 rw[zaO]at h;obtain⟨⟨t0,p0⟩,ws,rfl,e0,h⟩:=List.map_eq_cons_iff.1 h;obtain⟨⟨t1,p1⟩,ws,rfl,e1,h⟩:=List.map_eq_cons_iff.1 h;obtain⟨⟨t2,p2⟩,ws,rfl,e2,h⟩:=List.map_eq_cons_iff.1 h;obtain⟨⟨t3,p3⟩,ws,rfl,e3,h⟩:=List.map_eq_cons_iff.1 h;obtain⟨⟨t4,p4⟩,ws,rfl,e4,h⟩:=List.map_eq_cons_iff.1 h;obtain⟨⟨t5,p5⟩,ws,rfl,e5,h⟩:=List.map_eq_cons_iff.1 h;obtain⟨⟨t6,p6⟩,ws,rfl,e6,h⟩:=List.map_eq_cons_iff.1 h;obtain⟨⟨t7,p7⟩,ws,rfl,e7,h⟩:=List.map_eq_cons_iff.1 h;obtain⟨⟨t8,p8⟩,ws,rfl,e8,h⟩:=List.map_eq_cons_iff.1 h;obtain⟨⟨t9,p9⟩,ws,rfl,e9,h⟩:=List.map_eq_cons_iff.1 h;obtain⟨⟨t10,p10⟩,ws,rfl,e10,h⟩:=List.map_eq_cons_iff.1 h;obtain⟨⟨t11,p11⟩,ws,rfl,e11,h⟩:=List.map_eq_cons_iff.1 h;obtain⟨⟨t12,p12⟩,ws,rfl,e12,h⟩:=List.map_eq_cons_iff.1 h;obtain⟨⟨t13,p13⟩,ws,rfl,e13,h⟩:=List.map_eq_cons_iff.1 h;obtain⟨⟨t14,p14⟩,ws,rfl,e14,h⟩:=List.map_eq_cons_iff.1 h;obtain rfl:=List.map_eq_nil_iff.1 h;dsimp only at e0 e1 e2 e3 e4 e5 e6 e7 e8 e9 e10 e11 e12 e13 e14;subst e0 e1 e2 e3 e4 e5 e6 e7 e8 e9 e10 e11 e12 e13 e14;exact⟨zaN p0 p1 p2 p3 p4 p5 p6 p7 p8 p9 p10 p11 p12 p13 p14,rfl⟩
theorem zaP {ws:List Wd} (h:ws.map (·.1)=zp1 aw2):∃p,(zjK ws).1.wrong=[(8,p)]:=by
 rw[zaR]at h;obtain⟨⟨t0,p0⟩,ws,rfl,e0,h⟩:=List.map_eq_cons_iff.1 h;obtain⟨⟨t1,p1⟩,ws,rfl,e1,h⟩:=List.map_eq_cons_iff.1 h;obtain⟨⟨t2,p2⟩,ws,rfl,e2,h⟩:=List.map_eq_cons_iff.1 h;obtain⟨⟨t3,p3⟩,ws,rfl,e3,h⟩:=List.map_eq_cons_iff.1 h;obtain⟨⟨t4,p4⟩,ws,rfl,e4,h⟩:=List.map_eq_cons_iff.1 h;obtain⟨⟨t5,p5⟩,ws,rfl,e5,h⟩:=List.map_eq_cons_iff.1 h;obtain⟨⟨t6,p6⟩,ws,rfl,e6,h⟩:=List.map_eq_cons_iff.1 h;obtain⟨⟨t7,p7⟩,ws,rfl,e7,h⟩:=List.map_eq_cons_iff.1 h;obtain⟨⟨t8,p8⟩,ws,rfl,e8,h⟩:=List.map_eq_cons_iff.1 h;obtain⟨⟨t9,p9⟩,ws,rfl,e9,h⟩:=List.map_eq_cons_iff.1 h;obtain⟨⟨t10,p10⟩,ws,rfl,e10,h⟩:=List.map_eq_cons_iff.1 h;obtain⟨⟨t11,p11⟩,ws,rfl,e11,h⟩:=List.map_eq_cons_iff.1 h;obtain⟨⟨t12,p12⟩,ws,rfl,e12,h⟩:=List.map_eq_cons_iff.1 h;obtain⟨⟨t13,p13⟩,ws,rfl,e13,h⟩:=List.map_eq_cons_iff.1 h;obtain⟨⟨t14,p14⟩,ws,rfl,e14,h⟩:=List.map_eq_cons_iff.1 h;obtain rfl:=List.map_eq_nil_iff.1 h;dsimp only at e0 e1 e2 e3 e4 e5 e6 e7 e8 e9 e10 e11 e12 e13 e14;subst e0 e1 e2 e3 e4 e5 e6 e7 e8 e9 e10 e11 e12 e13 e14;exact⟨_,zaQ p0 p1 p2 p3 p4 p5 p6 p7 p8 p9 p10 p11 p12 p13 p14⟩
end Go.Proofs.YtcdekelomkcahaaGreatDoor
