import Derived.Test.YtcdekelomkcahaaGreatDoorZ00
import Derived.Test.YtcdekelomkcahaaGreatDoorZ37
import Derived.Test.YtcdekelomkcahaaGreatDoorZ42
set_option maxRecDepth 100000
set_option maxHeartbeats 16000000
namespace Go.Proofs.YtcdekelomkcahaaGreatDoor
open Go.RowKit
set_option linter.unusedSimpArgs false
theorem znO (n:Int) (w:World):Calls Tryz.prog 66 #[.int .i64 n] w fun e w'=>e=.returned (.int .i64 (zgo n))∧w=w':=by
 by_cases h3:n=3
 ·subst h3;go_enter Tryz.func66,Tryz.ntmps66;go_wp2_with fail;go_ret;exact⟨rfl,rfl⟩
 have b3:(n==3)=false:=by simpa using h3
 by_cases h4:n=4
 ·subst h4;go_enter Tryz.func66,Tryz.ntmps66;go_wp2_with fail;go_ret;exact⟨rfl,rfl⟩
 have b4:(n==4)=false:=by simpa using h4
 by_cases h6:n=6
 ·subst h6;go_enter Tryz.func66,Tryz.ntmps66;go_wp2_with fail;go_ret;exact⟨rfl,rfl⟩
 have b6:(n==6)=false:=by simpa using h6
 by_cases h0:n=0
 ·subst h0;go_enter Tryz.func66,Tryz.ntmps66;go_wp2_with fail;go_ret;exact⟨rfl,rfl⟩
 have b0:(n==0)=false:=by simpa using h0
 have HR:=lhd (show 0=zgo n by unfold zgo;rw[if_neg (by omega),if_neg h6,if_neg h0]);clear h3 h4 h6 h0;go_enter Tryz.func66,Tryz.ntmps66;go_wp2_with fail;go_ret;exact⟨by rw[←HR.out];rfl,rfl⟩
theorem zpM {w:World} {b o n cap:Nat} {cw:List Wd} (hn:cw.length=n) (h:SlR w (.slice (some ⟨b,o,none⟩) n cap) n (wds cw)) {j:Nat} (hj:j<n) {t:Bs} {q1 q2 q3:Int} (he:(t,q1,q2,q3)=cAt cw j) {p:Nat} (hp:p=o+j*4):
 w.cell? ⟨b,p,none⟩=some (.string (bsB t))∧w.cell? ⟨b,p+1,none⟩=some (.int .i64 q1)∧w.cell? ⟨b,p+2,none⟩=some (.int .i64 q2)∧w.cell? ⟨b,p+3,none⟩=some (.int .i64 q3):=by
 subst hn hp;obtain⟨b',o',e,h0,h1,h2,h3⟩:=h.wds hj;injection e with e;injection e with e1 e2 _;subst e1 e2
 have e4:cw[j]=(t,q1,q2,q3):=by
  rw[he];unfold cAt;rw[List.getD_eq_getElem?_getD,List.getElem?_eq_getElem hj];rfl
 rw[e4]at h0 h1 h2 h3;exact⟨h0,h1,h2,h3⟩
theorem zqD (w:World):(zeroValue 50).run Tryz.prog w=.ok dclZ w:=by kernel_rfl
theorem zdo {w:World} {b n:Nat} {f:BsM→Option Value} (h:SMap Tryz.prog 9 w b n f) {x:Bs} (hc:x.length≤140737488351232):
 (Instr.lookup 87 (.map (some b)) (.string (bsB x)) true).run Tryz.prog w=.ok (.tuple #[(f x).getD dclZ,.bool (f x).isSome]) w:=by
 have:=h.look (t:=87) Tryz.underlying9 Tryz.underlying87 (zqD w) (bsB x) (by rw[zbk];unfold maxLen;omega);rw[zbh]at this;exact this
theorem zeB {w w':World} {row:Option Nat} (h:w.drew.grownBy w' row):w.grownBy w' row:=⟨h.os,h.tape,h.output,h.size,h.block⟩
theorem zcH:(Tryz.prog.info? 50).map (fun i=>(i.zero,i.size,i.bytes))=some (some dclZ,10,96):=by kernel_rfl
theorem zje {w:World} {b:Nat} {x:Value} {xs:List Value} (h:zaq w b (x::xs)):∃C T fr,w.heap[b]? =some (.cells C T fr):=by
 have:=h.cell (j:=0) (v:=x) rfl;unfold World.cell? at this;split at this
 ·rename_i C T fr he
  exact⟨C,T,fr,he⟩
 ·cases this
section
variable {s : DS} {w : Wd} {cw : List Wd} {m : Nat} {t0 t1 t2 t3 tm : Bs} {p1 p2 p3 q1 q2 q3 : Int}
theorem zc5 (hm:cw.length=m+1) (h3:3≤m) (h4:m≤4) (ha:(t0,p1,p2,p3)=cAt cw 0) (h:(zn4 varW t0).2=false):zcX s w cw=(s,7,(t0,p1,p2,p3)):=by
 have e:zc7 s w cw=some (7,cAt cw 0):=by
  unfold zc7;rw[if_neg (by omega),if_pos (by rw[←ha];exact h)]
 unfold zcX;rw[e,←ha]
theorem zcZ {e:Int} {a:Wd} (h:zc7 s w cw=some (e,a)):zcX s w cw=(s,e,a):=by unfold zcX;rw[h]
theorem zc3 (h:zc7 s w cw=none):zcX s w cw=({s with D:=s.D++ [dclF s cw]},0,w):=by unfold zcX;rw[h]
theorem zc4 (hm:cw.length=m+1) (h3:3≤m) (h4:m≤4) {a0 a1:Wd} (h0:a0=cAt cw 0) (h1:a1=cAt cw 1) {ty:Int} (ht:zn4 varW a0.1=(ty,true)) (hz:zmK a1.1=none):zc7 s w cw=some (3,a1):=by
 unfold zc7;rw[if_neg (by omega),if_neg (by rw[←h0,ht];simp),←h1,hz]
theorem zcY {a0 a1 a2:Wd} (h0:a0=cAt cw 0) (h1:a1=cAt cw 1) (h2:a2=cAt cw 2) {ty n:Int} (ht:zn4 varW a0.1=(ty,true)) (hz:zmK a1.1=some n) {nm:Bs} {rg:Bool} {mb lb er:Int} (hr:(nm,rg,mb,lb,er)=refF ((txt cw).drop 3)):
 dclF s cw=⟨nm,ty,s.now,0,rg,mb,lb,a2.1,zgo ty,if zgo ty=0 then n else 0⟩:=by
 unfold dclF;rw[←h0,←h1,←h2,ht,hz,←hr];rfl
theorem zc1 (hm:cw.length=m+1) (h3:3≤m) (h4:m≤4) {a0 a1 a2 a3 am:Wd} (h0:a0=cAt cw 0) (h1:a1=cAt cw 1) (h2:a2=cAt cw 2) (h3':a3=cAt cw 3) (hm':am=cAt cw m) {ty n:Int} (ht:zn4 varW a0.1=(ty,true)) (hz:zmK a1.1=some n) {nm:Bs} {rg:Bool} {mb lb er:Int} (hr:(nm,rg,mb,lb,er)=refF ((txt cw).drop 3)):
 zc7 s w cw=if zgo ty=0∧128<n then some (8,a1)else if zb1 a2.1=false then some (3,a2)else if er≠0 then some (er,a3)else if rg=true∧zgo ty≠0 then some (7,am)else if rg=true∧zpX mb lb≠n then some (8,am)
  else match knD s.D a2.1 with
   |some o=>if o.kind≠zgo ty then some (7,a2)else if o.width≠(if zgo ty=0 then n else 0)then some (8,a2)else if s.D.any (dupV ⟨nm,ty,s.now,0,rg,mb,lb,a2.1,zgo ty,if zgo ty=0 then n else 0⟩)=true then some (5,a3)else if 128≤s.D.length then some (9,w)else none
   |none=>if s.D.any (dupV ⟨nm,ty,s.now,0,rg,mb,lb,a2.1,zgo ty,if zgo ty=0 then n else 0⟩)=true then some (5,a3)else if 128≤s.D.length∨64≤zb5 s.D []then some (9,w)else none:=by
 have hd:=zcY (s:=s) h0 h1 h2 ht hz hr;unfold zc7;rw[if_neg (by omega),if_neg (by rw[←h0,ht];simp),←h1,hz];dsimp only;rw[show cw.length-1=m by omega,←h2,←h3',←hm',←hr,hd];rfl
end
theorem zpO {w:World} {b o m cap:Nat} {cw:List Wd} (hm:cw.length=m+1) (h3:3≤m) (hc:m+1≤cap) (h:SlR w (.slice (some ⟨b,o,none⟩) (m+1) cap) (m+1) (wds cw)):SlR w (.slice (some ⟨b,o+12,none⟩) (m-2) (cap-3)) (cw.drop 3).length (wds (cw.drop 3)):=by
 obtain⟨b',o',cap',hv,h1,h2,hcell⟩:=h.at (by omega);injection hv with e1 _ e3;injection e1 with e1;injection e1 with e1 e2 _;subst e1 e2 e3;have hl:(cw.drop 3).length=m-2:=by rw[List.length_drop];omega
 rw[hl];refine⟨_,_,rfl,by omega,by omega,fun h=>(by cases h),fun _=>⟨b,o+12,rfl,fun j u hj=>?_⟩⟩;have e:wds cw=wds (cw.take 3)++wds (cw.drop 3):=by rw[←zpK,List.take_append_drop]
 have hk:=hcell (12+j) u (by
  rw[e,List.getElem?_append_right (by rw[zpQ,List.length_take];omega),zpQ,List.length_take,Nat.min_eq_left (by omega)];rw[show 12+j-4*3=j by omega];exact hj)
 rwa [show o+(12+j)=o+12+j by omega]at hk
theorem zhT (B T:Nat) (v:Value) (L:List Bs) (w:World) (ho:w.ownsRow B T 1 v L.length (strs L)) (hg:zag w) (h1:1≤L.length) (h2:L.length≤2) (hx:∀x∈L,x.length≤2000000):Calls Tryz.prog 174 #[v] w (zau L w):=by
 obtain⟨g,cp,rfl,-,-,-,hcell⟩:=zjd ho (by omega);match L,h1,h2 with
 | [x],_,_=>exact zhR g 0 cp x w hg (hcell 0 _ rfl) (hx x (by simp))
 | [x,y],_,_=>exact zhS g 0 cp x y w hg (hcell 0 _ rfl) (hcell 1 _ rfl) (hx x (by simp)) (hx y (by simp))
structure DB (c:DC) (s:DS) (vS vD vr:Value) (W:World) (tx:Bs) (o1 o2 o3:Int) (b o n cap:Nat) (cw:List Wd) (V:World):Prop where
 h:DPar (c.from W) s vS vD vr V
 bl:Below W.heap.size W V
 xw:zaq V W.heap.size [.string (bsB tx),.int .i64 o1,.int .i64 o2,.int .i64 o3]
 rr:V.ownsRow c.w0.heap.size 58 4 (.slice (some ⟨W.heap.size+1,0,none⟩) 1 1) 1 [.string ⟨#[]⟩,.int .i64 0,.int .i64 0,.int .i64 0]
 sl:SlR V (.slice (some ⟨b,o,none⟩) n cap) n (wds cw)
 zz:W.heap.size+1<V.heap.size
section
variable {c : DC} {s : DS} {vS vD vr : Value} {W V V' : World} {tx : Bs} {o1 o2 o3 : Int} {b o n cap : Nat} {cw : List Wd}
theorem DB.later (h:DB c s vS vD vr W tx o1 o2 o3 b o n cap cw V) (hb:Below V.heap.size V V'):DB c s vS vD vr W tx o1 o2 o3 b o n cap cw V':=
 ⟨h.h.later hb,zd5 h.bl hb,h.xw.below hb (by have:=h.zz;omega),zjb h.rr hb,h.sl.below hb,Nat.lt_of_lt_of_le h.zz hb.size⟩
theorem DB.far (h:DB c s vS vD vr W tx o1 o2 o3 b o n cap cw V) {b' T size cap':Nat} {xs:List Value} (hb:W.heap.size+1<b') (hs0:b<W.heap.size) (hr:V.ownsRow c.w0.heap.size T size (.slice (some ⟨b',0,none⟩) 1 cap') 1 xs)
 (hT:T≠89∧T≠84∧T≠55∧T≠58) (hD:vD.ownBlock≠some b') (j:Nat) (u:Value):DB c s vS vD vr W tx o1 o2 o3 b o n cap cw (V.setCell ⟨b',j,none⟩ u):=by
 have nt:c.tb≠b':=fun e=>h.h.t.s.ne_row hr (by rw[←e];rfl);have ng:c.cb≠b':=fun e=>h.h.g.s.ne_row hr (by rw[←e];rfl);have nk:c.kb≠b':=fun e=>h.h.k.ne_row hr (by rw[←e];rfl)
 refine⟨⟨zjs h.h.p hr (Ne.symm hT.1) j u,zjs h.h.S hr (Ne.symm hT.2.1) j u,ownsRow_setCell_other h.h.D (a:=⟨b',j,none⟩) hD u,zjs h.h.r hr (Ne.symm hT.2.2.1) j u,h.h.t.setCell (a:=⟨b',j,none⟩) nt u,h.h.g.setCell (a:=⟨b',j,none⟩) ng u,h.h.k.setCell (a:=⟨b',j,none⟩) nk u,h.h.ne,h.h.tb,h.h.gb,h.h.b.setCell (p:=⟨b',j,none⟩) (hr.lt b' rfl).1 u,?_⟩,
  h.bl.setCell (p:=⟨b',j,none⟩) (by show W.heap.size≤b';omega) u,h.xw.setFar (by omega) j u,zjs h.rr hr (Ne.symm hT.2.2.2) j u,?_,by simpa using h.zz⟩
 ·intro b2 C T' fr h1 h2 h3 h4 h5;have:=h.h.kp b2 C T' fr h1 h2 h3 h4 h5
  rw[Below.heap_setCell _ _ _ _ (show b2≠b' from fun e=>by
   have:b2<W.heap.size:=(Array.getElem?_eq_some_iff.1 h5).1;omega)]
  exact this
 ·obtain⟨a',cp,hv,k1,k2,k3,k4⟩:=h.sl;refine⟨a',cp,hv,k1,k2,k3,fun hn=>?_⟩;obtain⟨b2,o2',ha,hc⟩:=k4 hn;refine⟨b2,o2',ha,fun i v hv2=>?_⟩;injection hv with hv _ _;rw[ha]at hv;injection hv with hv;injection hv with hv _ _;rw[World.cell?_setCell_far _ _ _ _ (show b'≠b2 by omega)];exact hc i v hv2
structure DX (c:DC) (s:DS) (vS vD vr:Value) (W:World) (tx:Bs) (o1 o2 o3:Int) (b o n cap:Nat) (cw:List Wd) (ty:Int) (bt bx:Nat) (X:List Value) (V:World):Prop where
 q:DB c s vS vD vr W tx o1 o2 o3 b o n cap cw V
 t:zaq V bt [.int .i64 ty]
 x:V.ownsRow c.w0.heap.size 50 10 (.slice (some ⟨bx,0,none⟩) 1 1) 1 X
 lt:W.heap.size+1<bt∧bt<bx∧bx<V.heap.size
theorem DX.later {ty:Int} {bt bx:Nat} {X:List Value} (h:DX c s vS vD vr W tx o1 o2 o3 b o n cap cw ty bt bx X V) (hb:Below V.heap.size V V'):DX c s vS vD vr W tx o1 o2 o3 b o n cap cw ty bt bx X V':=
 ⟨h.q.later hb,h.t.below hb (by have:=h.lt;omega),zjb h.x hb,h.lt.1,h.lt.2.1,Nat.lt_of_lt_of_le h.lt.2.2 hb.size⟩
theorem DX.set {ty:Int} {bt bx:Nat} {X:List Value} (h:DX c s vS vD vr W tx o1 o2 o3 b o n cap cw ty bt bx X V) (hs0:b<W.heap.size) (hD:vD.ownBlock≠some bx) (j:Nat) (u:Value):DX c s vS vD vr W tx o1 o2 o3 b o n cap cw ty bt bx (X.set j u) (V.setCell ⟨bx,j,none⟩ u):=
 ⟨h.q.far (by have:=h.lt;omega) hs0 h.x (by decide) hD j u,h.t.setFar (by have:=h.lt;omega) j u,zjr h.x j u,h.lt.1,h.lt.2.1,by simpa using h.lt.2.2⟩
end
theorem zds (c:DC) (s:DS) (vS vD vr:Value) (w:Wd) (a:Option Addr) (cap:Nat) (cw:List Wd) (W:World) (h:DPar c s vS vD vr W) (hg:Glob W) (hE:zag W)
 (hs:SlR W (.slice a cw.length cap) cw.length (wds cw)) (hx:∀x∈cw,x.1.length≤2000000) (hL:cw.length≤100000):
 Calls Tryz.prog 142 #[.pointer (some ⟨c.B,0,none⟩),wdV w,.slice a cw.length cap] W (zam c (zcX s w cw)):=by
 obtain⟨tx,o1,o2,o3⟩:=w;obtain⟨aD,cD,rfl,-,-⟩:=(SlR.of_own h.D).shape;have HLO:=lhd h.lo;have HKP:=lhd h.kp;have HDL:=lhd h.D.lt;have h:=h.start W (zah.refl _ _);have hx1:=zaq.fresh W #[.string (bsB tx),.int .i64 o1,.int .i64 o2,.int .i64 o3] 58;have hal1:Below W.heap.size W (W.alloc (.cells #[.string (bsB tx),.int .i64 o1,.int .i64 o2,.int .i64 o3] 58)):=(Below.refl _ _).alloc (Nat.le_refl _) _;have hz1:(W.alloc (.cells #[.string (bsB tx),.int .i64 o1,.int .i64 o2,.int .i64 o3] 58)).heap.size=W.heap.size+1:=by simp
 generalize hw1:W.alloc (.cells #[.string (bsB tx),.int .i64 o1,.int .i64 o2,.int .i64 o3] 58)=w1 at*;have hal2:Below w1.heap.size w1 (w1.alloc (.cells #[.string ⟨#[]⟩,.int .i64 0,.int .i64 0,.int .i64 0] 58)):=(Below.refl _ _).alloc (Nat.le_refl _) _;have hx2:=zji w1 #[.string ⟨#[]⟩,.int .i64 0,.int .i64 0,.int .i64 0] 58 c.w0.heap.size 4 (by have:=HLO.out;omega) rfl;have hx1:=hx1.below hal2 (by omega);have hz2:(w1.alloc (.cells #[.string ⟨#[]⟩,.int .i64 0,.int .i64 0,.int .i64 0] 58)).heap.size=W.heap.size+1+1:=by simp[hz1]
 rw[hz1]at hx2;generalize hw2:w1.alloc (.cells #[.string ⟨#[]⟩,.int .i64 0,.int .i64 0,.int .i64 0] 58)=w2 at*;have hal:=zd5 hal1 hal2;have H:=lhd (h.later hal);have HB:=lhd hal;have HR:=lhd hx2;have HG:=lhd hg;have HGE:=lhd hE;clear h hal hal1 hal2 hg hE;have x0:=hx1.cell (j:=0) rfl;have x1:=hx1.cell (j:=1) rfl;have x2:=hx1.cell (j:=2) rfl;have x3:=hx1.cell (j:=3) rfl;have r0:=(zjo hx2).cell (j:=0) rfl;have f0:=(zjo hx2).free (j:=0) (by simp);have r1:=(zjo hx2).cell (j:=1) rfl;have f1:=(zjo hx2).free (j:=1) (by simp);have r2:=(zjo hx2).cell (j:=2) rfl;have f2:=(zjo hx2).free (j:=2) (by simp);have r3:=(zjo hx2).cell (j:=3) rfl;have f3:=(zjo hx2).free (j:=3) (by simp);by_cases hlen:cw.length<4∨5<cw.length
 ·have hE:zcX s (tx,o1,o2,o3) cw=(s,3,(tx,o1,o2,o3)):=by unfold zcX zc7;rw[if_pos hlen]
  rcases hlen with hlen|hlen
  all_goals
   go_enter Tryz.func142,Tryz.ntmps142;go_wp2_with fail;have HF:=lhd (DPar.far4 H.out HKP.out (Nat.le_succ _) HR.out (.string (bsB tx)) (.int .i64 o1) (.int .i64 o2) (.int .i64 o3));have HF2:=lhd (row4 HR.out (.string (bsB tx)) (.int .i64 o1) (.int .i64 o2) (.int .i64 o3));have HEQ:=lhd hE;go_region
   go_wp2_with fail;have hrr:=HF2.out;refine bodyPost_ret (v:=.tuple #[.int .i64 3,.agg #[.string (bsB tx),.int .i64 o1,.int .i64 o2,.int .i64 o3]]) (by simp[results,Tryz.results142,go_sem,hrr.cell (j:=0) rfl,hrr.cell (j:=1) rfl,hrr.cell (j:=2) rfl,hrr.cell (j:=3) rfl]) rfl ?_;exact⟨by rw[HEQ.out],by rw[HEQ.out];exact⟨_,_,_,HF.out⟩⟩
 obtain⟨m,hm⟩:∃m,cw.length=m+1:=⟨cw.length-1,by omega⟩;have hm3:3≤m:=by omega
 have hm4:m≤4:=by omega
 rw[hm]at hs⊢;obtain⟨b,o,cp,e1,hcap,-,-⟩:=hs.at (by omega);injection e1 with e1 _ e3;subst e1 e3
 have HB0:=lhd (show b<W.heap.size from by
  obtain⟨q0,q1,q2,q3⟩:=zpM hm hs (j:=0) (by omega) (show((cAt cw 0).1,(cAt cw 0).2.1,(cAt cw 0).2.2.1,(cAt cw 0).2.2.2)=cAt cw 0 from rfl) (p:=o) (by omega);exact zbA q0)
 have HQ:=lhd (show DB c s _ _ vr W tx o1 o2 o3 b o (m+1) cap cw w2 from⟨H.out,HB.out,hx1,hx2,hs.below HB.out,by omega⟩)
 have hl:∀j,j<m+1→(cAt cw j).1.length≤2000000:=fun j hj=>hx _ (by
  unfold cAt;rw[List.getD_eq_getElem?_getD,List.getElem?_eq_getElem (by omega)];exact List.getElem_mem _)
 obtain⟨⟨t0,p01,p02,p03⟩,ha0⟩:∃a,a=cAt cw 0:=⟨_,rfl⟩;obtain⟨⟨t1,p11,p12,p13⟩,ha1⟩:∃a,a=cAt cw 1:=⟨_,rfl⟩;obtain⟨⟨t2,p21,p22,p23⟩,ha2⟩:∃a,a=cAt cw 2:=⟨_,rfl⟩;obtain⟨⟨t3,p31,p32,p33⟩,ha3⟩:∃a,a=cAt cw 3:=⟨_,rfl⟩;obtain⟨⟨tm,pm1,pm2,pm3⟩,ham⟩:∃a,a=cAt cw m:=⟨_,rfl⟩;obtain⟨⟨nm,rg,mb,lb,er⟩,hrf⟩:∃r,r=refF ((txt cw).drop 3):=⟨_,rfl⟩;have hl1:t1.length≤2000000:=by have:=hl 1 (by omega);rwa [←ha1]at this
 have hl2:t2.length≤2000000:=by have:=hl 2 (by omega);rwa [←ha2]at this
 have hi0:(0:Int)<(m:Int)+1:=by omega
 have hi1:(1:Int)<(m:Int)+1:=by omega
 have hi2:(2:Int)<(m:Int)+1:=by omega
 have hi3:(3:Int)<(m:Int)+1:=by omega
 have HHX:=lhd hx;have HRF:=lhd hrf;clear hx hL hs hx1 hx2 H HR hlen hrf;have HVT:=lhd (zdl t0 w2);obtain⟨ty,hty⟩:∃ty,ty=zn4 varW t0:=⟨_,rfl⟩;rw[←hty]at HVT;obtain⟨ty,tok⟩:=ty;obtain⟨d0,d1,d2,d3⟩:=zpM hm (HQ.out).sl (j:=0) (by omega) ha0 (p:=o) (by omega);cases tok
 ·have hE:zcX s (tx,o1,o2,o3) cw=(s,7,(t0,p01,p02,p03)):=zc5 hm hm3 hm4 ha0 (by rw[←hty]);clear hty;go_enter Tryz.func142,Tryz.ntmps142;go_wp2_with fail;refine HVT.out.mono ?_;rintro e w3 ⟨rfl,hb3⟩;have hb3:=hb3.alloc hb3.size (.cells #[.int .i64 ty] 3);have HQ3:=lhd (HQ.out.later hb3);clear hb3 d0 d1 d2 d3 r0 r1 r2 r3 f0 f1 f2 f3;go_upto_region 5 with fail;generalize w3.alloc (.cells #[.int .i64 ty] 3)=w4 at*;obtain⟨d0,d1,d2,d3⟩:=zpM hm (HQ3.out).sl (j:=0) (by omega) ha0 (p:=o) (by omega);have r0:=(zjo (HQ3.out).rr).cell (j:=0) rfl;have f0:=(zjo (HQ3.out).rr).free (j:=0) (by simp);have r1:=(zjo (HQ3.out).rr).cell (j:=1) rfl;have f1:=(zjo (HQ3.out).rr).free (j:=1) (by simp);have r2:=(zjo (HQ3.out).rr).cell (j:=2) rfl;have f2:=(zjo (HQ3.out).rr).free (j:=2) (by simp);have r3:=(zjo (HQ3.out).rr).cell (j:=3) rfl;have f3:=(zjo (HQ3.out).rr).free (j:=3) (by simp);have HF:=lhd (DPar.far4 HQ3.out.h HKP.out (Nat.le_succ _) HQ3.out.rr (.string (bsB t0)) (.int .i64 p01) (.int .i64 p02) (.int .i64 p03));have HF2:=lhd (row4 HQ3.out.rr (.string (bsB t0)) (.int .i64 p01) (.int .i64 p02) (.int .i64 p03));have HEQ:=lhd hE;go_region
  go_wp2_with fail;have hrr:=HF2.out;refine bodyPost_ret (v:=.tuple #[.int .i64 7,.agg #[.string (bsB t0),.int .i64 p01,.int .i64 p02,.int .i64 p03]]) (by simp[results,Tryz.results142,go_sem,hrr.cell (j:=0) rfl,hrr.cell (j:=1) rfl,hrr.cell (j:=2) rfl,hrr.cell (j:=3) rfl]) rfl ?_;exact⟨by rw[HEQ.out],by rw[HEQ.out];exact⟨_,_,_,HF.out⟩⟩
 have HTY:=lhd (show zn4 varW t0=(ty,true)from hty.symm);clear hty;go_enter Tryz.func142,Tryz.ntmps142;go_wp2_with fail;refine HVT.out.mono ?_;rintro e w3 ⟨rfl,hb3⟩;have HT4:=lhd (zaq.fresh w3 #[.int .i64 ty] 3);have HZT:=lhd (show w3.heap.size<(w3.alloc (.cells #[.int .i64 ty] 3)).heap.size by simp);have hzw3:W.heap.size+1<w3.heap.size:=by have:=hb3.size;omega
 have hb3:=hb3.alloc hb3.size (.cells #[.int .i64 ty] 3);have HQ4:=lhd (HQ.out.later hb3);clear hb3 d0 d1 d2 d3 r0 r1 r2 r3 f0 f1 f2 f3 x0 x1 x2 x3 HVT HB HQ;go_upto_region 6 with fail;generalize w3.alloc (.cells #[.int .i64 ty] 3)=w4 at*;have hbx0:∃bx,bx=w4.heap.size:=⟨_,rfl⟩;obtain⟨bx,hbx⟩:=hbx0;have HKD:=lhd (fun W=>znO ty W);obtain⟨kd,hkd⟩:∃kd,kd=zgo ty:=⟨_,rfl⟩;rw[←hkd]at HKD;have HKD9:=lhd hkd;clear hkd;obtain⟨XA,hXA⟩:∃XA:Array Value,XA=#[.string ⟨#[]⟩,.int .i64 0,.int .i64 0,.int .i64 0,.bool false,.int .i64 0,.int .i64 0,.string (bsB t2),.int .i64 kd,.int .i64 0]:=⟨_,rfl⟩;have hb5:Below w4.heap.size w4 (w4.alloc (.cells #[.string ⟨#[]⟩,.int .i64 0,.int .i64 0,.int .i64 0,.bool false,.int .i64 0,.int .i64 0,.string (bsB t2),.int .i64 kd,.int .i64 0] 50)).drew:=((Below.refl _ _).alloc (Nat.le_refl _) _).drew;have hzx:w4.heap.size<(w4.alloc (.cells #[.string ⟨#[]⟩,.int .i64 0,.int .i64 0,.int .i64 0,.bool false,.int .i64 0,.int .i64 0,.string (bsB t2),.int .i64 kd,.int .i64 0] 50)).drew.heap.size:=by show _<(w4.alloc _).heap.size;simp
 have HX5:=lhd (show DX c s _ _ vr W tx o1 o2 o3 b o (m+1) cap cw ty w3.heap.size w4.heap.size [.string ⟨#[]⟩,.int .i64 0,.int .i64 0,.int .i64 0,.bool false,.int .i64 0,.int .i64 0,.string (bsB t2),.int .i64 kd,.int .i64 0] (w4.alloc (.cells #[.string ⟨#[]⟩,.int .i64 0,.int .i64 0,.int .i64 0,.bool false,.int .i64 0,.int .i64 0,.string (bsB t2),.int .i64 kd,.int .i64 0] 50)).drew from
  ⟨HQ4.out.later hb5,HT4.out.below hb5 HZT.out,zji w4 #[.string ⟨#[]⟩,.int .i64 0,.int .i64 0,.int .i64 0,.bool false,.int .i64 0,.int .i64 0,.string (bsB t2),.int .i64 kd,.int .i64 0] 50 c.w0.heap.size 10 (by have:=HLO.out;have:=HQ4.out.zz;omega) rfl,hzw3,HZT.out,hzx⟩)
 clear hXA XA hb5;go_cut [10]from 42 to 50 (fun v wc=>v=.pointer (some ⟨w4.heap.size,0,none⟩)∧wc=(w4.alloc (.cells #[.string ⟨#[]⟩,.int .i64 0,.int .i64 0,.int .i64 0,.bool false,.int .i64 0,.int .i64 0,.string (bsB t2),.int .i64 kd,.int .i64 0] 50)).drew)
 case first=>
  obtain⟨d0,d1,d2,d3⟩:=zpM hm (HQ4.out).sl (j:=2) (by omega) ha2 (p:=(o+8)) (by omega);have y0:=HT4.out.cell (j:=0) rfl;have zt:(w4.alloc (.cells #[.string ⟨#[]⟩,.int .i64 0,.int .i64 0,.int .i64 0,.bool false,.int .i64 0,.int .i64 0,.string ⟨#[]⟩,.int .i64 0,.int .i64 0] 50)).cell? ⟨w3.heap.size,0,none⟩=some (.int .i64 ty)∧(w4.alloc (.cells #[.string ⟨#[]⟩,.int .i64 0,.int .i64 0,.int .i64 0,.bool false,.int .i64 0,.int .i64 0,.string ⟨#[]⟩,.int .i64 0,.int .i64 0] 50)).cell? ⟨b,o+8,none⟩=some (.string (bsB t2)):=⟨zbz y0 _,zbz d0 _⟩;have zf:(w4.alloc (.cells #[.string ⟨#[]⟩,.int .i64 0,.int .i64 0,.int .i64 0,.bool false,.int .i64 0,.int .i64 0,.string (bsB t2),.int .i64 kd,.int .i64 0] 50)).cell? ⟨w3.heap.size,0,none⟩=some (.int .i64 ty)∧(w4.alloc (.cells #[.string ⟨#[]⟩,.int .i64 0,.int .i64 0,.int .i64 0,.bool false,.int .i64 0,.int .i64 0,.string (bsB t2),.int .i64 kd,.int .i64 0] 50)).cell? ⟨b,o+8,none⟩=some (.string (bsB t2)):=⟨zbz y0 _,zbz d0 _⟩;refine wp_region_held_drew (S:=fun w'=>w'.cell? ⟨w3.heap.size,0,none⟩=some (.int .i64 ty)∧w'.cell? ⟨b,o+8,none⟩=some (.string (bsB t2))) (by kernel_rfl) ⟨y0,d0⟩ (fun hHeld=>?_);refine tkH 0 hHeld (v:=?_) ?_ ?_;rotate_left
  ·intro w h;(try dsimp only at h);go_simp;all_goals with_reducible rfl
  simp only[tkS];refine tkH 2 hHeld (v:=?_) ?_ ?_;rotate_left
  ·intro w h;(try dsimp only at h);go_simp;all_goals with_reducible rfl
  simp only[tkS];refine tkH 3 hHeld (v:=?_) ?_ ?_;rotate_left
  ·intro w h;(try dsimp only at h);go_simp;all_goals with_reducible rfl
  simp only[tkS];refine tkH 4 hHeld (v:=?_) ?_ ?_;rotate_left
  ·intro w h;(try dsimp only at h);go_simp;all_goals with_reducible rfl
  simp only[tkS];refine tkH 5 hHeld (v:=?_) ?_ ?_;rotate_left
  ·intro w h;(try dsimp only at h);go_simp;all_goals with_reducible rfl
  simp only[tkS];refine wpAnyH_ready (rs:=[1,7]) (by kernel_rfl) (by simp) ?_;refine AllReadyH.cons (o:=_) rfl (fun K hK=>?_) (AllReadyH.cons (o:=_) rfl (fun K hK=>?_) AllReadyH.nil)
  ·go_simp;refine(HKD.out _).mono ?_;rintro e w' ⟨rfl,rfl⟩;clear hHeld;go_wp2_with fail;refine hK.out _ _ ⟨y0,d0⟩ (fun hHeld=>?_);clear hK;try simp only[tkS]
   refine tkH 6 hHeld (v:=?_) ?_ ?_;rotate_left
   ·intro w h;(try dsimp only at h);go_simp;all_goals with_reducible rfl
   simp only[tkS];refine oneH 7 (fun K hK=>?_);go_simp;refine hK.out _ _ zt (fun hHeld=>?_);clear hK;try simp only[tkS]
   refine oneH 8 (fun K hK=>?_);go_simp;refine hK.out _ _ zf (fun hHeld=>?_);clear hK;try simp only[tkS]
   refine wpAnyH_done (by kernel_rfl) ?_ _;clear hHeld;go_wp2_with fail;go_meet
   case rel=>exact⟨rfl,rfl⟩
  ·go_simp;refine hK.out _ _ zt (fun hHeld=>?_);clear hK;try simp only[tkS]
   refine oneH 1 (fun K hK=>?_);go_simp;refine(HKD.out _).mono ?_;rintro e w' ⟨rfl,rfl⟩;clear hHeld;go_wp2_with fail;refine hK.out _ _ zt (fun hHeld=>?_);clear hK;try simp only[tkS]
   refine tkH 6 hHeld (v:=?_) ?_ ?_;rotate_left
   ·intro w h;(try dsimp only at h);go_simp;all_goals with_reducible rfl
   simp only[tkS];refine oneH 8 (fun K hK=>?_);go_simp;refine hK.out _ _ zf (fun hHeld=>?_);clear hK;try simp only[tkS]
   refine wpAnyH_done (by kernel_rfl) ?_ _;clear hHeld;go_wp2_with fail;go_meet
   case rel=>exact⟨rfl,rfl⟩
 case rest=>
 obtain⟨rfl,rfl⟩:=hcut;generalize (w4.alloc (.cells #[.string ⟨#[]⟩,.int .i64 0,.int .i64 0,.int .i64 0,.bool false,.int .i64 0,.int .i64 0,.string (bsB t2),.int .i64 kd,.int .i64 0] 50)).drew=w5 at*;rw[←hbx]at HX5;rw[←hbx];clear hbx hzx HKD HQ4 HT4 HZT;generalize w3.heap.size=bt at*;obtain⟨d0,d1,d2,d3⟩:=zpM hm (HX5.out.q).sl (j:=1) (by omega) ha1 (p:=(o+4)) (by omega);have HSZ:=lhd (zdE t1 w5 (HG.out.below HX5.out.q.bl) (HGE.out.below HX5.out.q.bl) (by omega));cases hsz:zmK t1 with
 |none=>
  have hE:zcX s (tx,o1,o2,o3) cw=(s,3,(t1,p11,p12,p13)):=zcZ (zc4 hm hm3 hm4 ha0 ha1 HTY.out hsz);rw[hsz]at HSZ;clear hsz;go_wp2_with fail;refine HSZ.out.mono ?_;rintro e w6 ⟨v,rfl,-,hb6⟩;have HX6:=lhd (HX5.out.later hb6);clear d0 d1 d2 d3 hb6;obtain⟨d0,d1,d2,d3⟩:=zpM hm (HX6.out.q).sl (j:=1) (by omega) ha1 (p:=(o+4)) (by omega);have r0:=(zjo (HX6.out.q).rr).cell (j:=0) rfl;have f0:=(zjo (HX6.out.q).rr).free (j:=0) (by simp);have r1:=(zjo (HX6.out.q).rr).cell (j:=1) rfl;have f1:=(zjo (HX6.out.q).rr).free (j:=1) (by simp);have r2:=(zjo (HX6.out.q).rr).cell (j:=2) rfl;have f2:=(zjo (HX6.out.q).rr).free (j:=2) (by simp);have r3:=(zjo (HX6.out.q).rr).cell (j:=3) rfl;have f3:=(zjo (HX6.out.q).rr).free (j:=3) (by simp);go_wp2_with fail;have HF:=lhd (DPar.far4 HX6.out.q.h HKP.out (Nat.le_succ _) HX6.out.q.rr (.string (bsB t1)) (.int .i64 p11) (.int .i64 p12) (.int .i64 p13));have HF2:=lhd (row4 HX6.out.q.rr (.string (bsB t1)) (.int .i64 p11) (.int .i64 p12) (.int .i64 p13));have HEQ:=lhd hE;go_region
  go_wp2_with fail;have hrr:=HF2.out;refine bodyPost_ret (v:=.tuple #[.int .i64 3,.agg #[.string (bsB t1),.int .i64 p11,.int .i64 p12,.int .i64 p13]]) (by simp[results,Tryz.results142,go_sem,hrr.cell (j:=0) rfl,hrr.cell (j:=1) rfl,hrr.cell (j:=2) rfl,hrr.cell (j:=3) rfl]) rfl ?_;exact⟨by rw[HEQ.out],by rw[HEQ.out];exact⟨_,_,_,HF.out⟩⟩
 |some n=>
 rw[hsz]at HSZ;have HN:=lhd hsz;have HNP:=lhd (zmN hsz);clear hsz;go_wp2_with fail;refine HSZ.out.mono ?_;rintro e w6 ⟨v,rfl,hvn,hb6⟩;obtain rfl:=hvn n rfl;have HX6:=lhd (HX5.out.later hb6);clear d0 d1 d2 d3 hb6 HX5 HSZ hvn;have x8:=(zjo HX6.out.x).cell (j:=8) rfl;have x7:=(zjo HX6.out.x).cell (j:=7) rfl;by_cases hwide:kd=0∧128<v
 ·obtain⟨hk0,hv128⟩:=hwide;have hE:zcX s (tx,o1,o2,o3) cw=(s,8,(t1,p11,p12,p13)):=zcZ (by rw[zc1 hm hm3 hm4 ha0 ha1 ha2 ha3 ham HTY.out HN.out HRF.out,if_pos ⟨by rw[←HKD9.out];exact hk0,hv128⟩]);have bk0:(kd==0)=true:=by rw[hk0];rfl
  obtain⟨d0,d1,d2,d3⟩:=zpM hm (HX6.out.q).sl (j:=1) (by omega) ha1 (p:=(o+4)) (by omega);have r0:=(zjo (HX6.out.q).rr).cell (j:=0) rfl;have f0:=(zjo (HX6.out.q).rr).free (j:=0) (by simp);have r1:=(zjo (HX6.out.q).rr).cell (j:=1) rfl;have f1:=(zjo (HX6.out.q).rr).free (j:=1) (by simp);have r2:=(zjo (HX6.out.q).rr).cell (j:=2) rfl;have f2:=(zjo (HX6.out.q).rr).free (j:=2) (by simp);have r3:=(zjo (HX6.out.q).rr).cell (j:=3) rfl;have f3:=(zjo (HX6.out.q).rr).free (j:=3) (by simp);clear hk0;go_wp2_with fail;have HF:=lhd (DPar.far4 HX6.out.q.h HKP.out (Nat.le_succ _) HX6.out.q.rr (.string (bsB t1)) (.int .i64 p11) (.int .i64 p12) (.int .i64 p13));have HF2:=lhd (row4 HX6.out.q.rr (.string (bsB t1)) (.int .i64 p11) (.int .i64 p12) (.int .i64 p13));have HEQ:=lhd hE;go_region
  go_wp2_with fail;have hrr:=HF2.out;refine bodyPost_ret (v:=.tuple #[.int .i64 8,.agg #[.string (bsB t1),.int .i64 p11,.int .i64 p12,.int .i64 p13]]) (by simp[results,Tryz.results142,go_sem,hrr.cell (j:=0) rfl,hrr.cell (j:=1) rfl,hrr.cell (j:=2) rfl,hrr.cell (j:=3) rfl]) rfl ?_;exact⟨by rw[HEQ.out],by rw[HEQ.out];exact⟨_,_,_,HF.out⟩⟩
 have HWD:=lhd hwide;have HCO:=lhd (zdm t2 w6 (HG.out.below HX6.out.q.bl) (by omega));go_upto_region 10 with fail;go_cut [63]from 63 to 71 (fun u wc=>u=.bool false∧wc=w6)
 case first=>
  by_cases hk0:kd=0
  ·have bk0:(kd==0)=true:=by rw[hk0];rfl
   have hv128:¬128<v:=fun h=>hwide ⟨hk0,h⟩;clear hk0;go_wp2_with fail;go_meet
   case rel=>exact⟨by first|(simp;done)|(simp;omega),rfl⟩
  ·have bk0:(kd==0)=false:=by rw[beq_eq_false_iff_ne];exact hk0
   clear hk0;go_wp2_with fail;go_meet
   case rel=>exact⟨rfl,rfl⟩
 case rest=>
 obtain⟨rfl,rfl⟩:=hcut;clear hwide;cases hco:zb1 t2
 ·have hE:zcX s (tx,o1,o2,o3) cw=(s,3,(t2,p21,p22,p23)):=zcZ (by rw[zc1 hm hm3 hm4 ha0 ha1 ha2 ha3 ham HTY.out HN.out HRF.out,if_neg (by rw[←HKD9.out];exact HWD.out),if_pos hco]);rw[hco]at HCO;clear hco;go_wp2_with fail;refine HCO.out.mono ?_;rintro e w7 ⟨rfl,hb7⟩;have HX7:=lhd (HX6.out.later hb7);clear hb7 x7 x8;obtain⟨d0,d1,d2,d3⟩:=zpM hm (HX7.out.q).sl (j:=2) (by omega) ha2 (p:=(o+8)) (by omega);have r0:=(zjo (HX7.out.q).rr).cell (j:=0) rfl;have f0:=(zjo (HX7.out.q).rr).free (j:=0) (by simp);have r1:=(zjo (HX7.out.q).rr).cell (j:=1) rfl;have f1:=(zjo (HX7.out.q).rr).free (j:=1) (by simp);have r2:=(zjo (HX7.out.q).rr).cell (j:=2) rfl;have f2:=(zjo (HX7.out.q).rr).free (j:=2) (by simp);have r3:=(zjo (HX7.out.q).rr).cell (j:=3) rfl;have f3:=(zjo (HX7.out.q).rr).free (j:=3) (by simp);go_wp2_with fail;have HF:=lhd (DPar.far4 HX7.out.q.h HKP.out (Nat.le_succ _) HX7.out.q.rr (.string (bsB t2)) (.int .i64 p21) (.int .i64 p22) (.int .i64 p23));have HF2:=lhd (row4 HX7.out.q.rr (.string (bsB t2)) (.int .i64 p21) (.int .i64 p22) (.int .i64 p23));have HEQ:=lhd hE;go_region
  go_wp2_with fail;have hrr:=HF2.out;refine bodyPost_ret (v:=.tuple #[.int .i64 3,.agg #[.string (bsB t2),.int .i64 p21,.int .i64 p22,.int .i64 p23]]) (by simp[results,Tryz.results142,go_sem,hrr.cell (j:=0) rfl,hrr.cell (j:=1) rfl,hrr.cell (j:=2) rfl,hrr.cell (j:=3) rfl]) rfl ?_;exact⟨by rw[HEQ.out],by rw[HEQ.out];exact⟨_,_,_,HF.out⟩⟩
 rw[hco]at HCO;have HCK:=lhd hco;clear hco;go_wp2_with fail;refine HCO.out.mono ?_;rintro e w7 ⟨rfl,hb7⟩;have HX7:=lhd (HX6.out.later hb7);clear hb7 x7 x8 HX6 HCO;have HDN:=lhd (show(Value.slice aD s.D.length cD).ownBlock≠some bx from fun e=>by have:=(HDL.out _ e).2;have:=HX7.out.lt;omega);obtain⟨wd,hwd⟩:∃wd,wd=if kd=0 then v else 0:=⟨_,rfl⟩
 have HWE:=lhd hwd;clear hwd;have x8:=(zjo HX7.out.x).cell (j:=8) rfl;go_upto_if 84 with fail
 go_cut []from 84 to 87 (fun wc=>DX c s vS (.slice aD s.D.length cD) vr W tx o1 o2 o3 b o (m+1) cap cw ty bt bx [.string ⟨#[]⟩,.int .i64 0,.int .i64 0,.int .i64 0,.bool false,.int .i64 0,.int .i64 0,.string (bsB t2),.int .i64 kd,.int .i64 wd] wc)
 case first=>
  have x9:=(zjo HX7.out.x).cell (j:=9) rfl;have f9:=(zjo HX7.out.x).free (j:=9) (by simp);by_cases hk0:kd=0
  ·have bk0:(kd==0)=true:=by rw[hk0];rfl
   have H9:=lhd (HX7.out.set HB0.out HDN.out 9 (.int .i64 v));have HW0:=lhd (show wd=v by rw[HWE.out,if_pos hk0]);clear hk0;go_wp2_with fail;go_meet
   case rel=>rw[HW0.out];exact H9.out
  ·have bk0:(kd==0)=false:=by rw[beq_eq_false_iff_ne];exact hk0
   have HW0:=lhd (show wd=0 by rw[HWE.out,if_neg hk0]);clear hk0;go_wp2_with fail;go_meet
   case rel=>rw[HW0.out];exact HX7.out
 case rest=>
 have HX8:=lhd hcut;clear hcut HX7 x8;obtain⟨w8,rfl⟩:∃w8,w8=wc:=⟨_,rfl⟩;have hcap3:¬cap=3:=by omega
 have HSD:=lhd (zpO hm hm3 (by omega:m+1≤cap) HX8.out.q.sl);go_wp2_with fail;refine(zdw _ (cw.drop 3) w8 HSD.out (by rw[List.length_drop];omega)).mono ?_;rintro e w9 ⟨vj,rfl,ho9,hb9⟩
 have hrf9:=zhT _ _ vj (txt (cw.drop 3)) w9 (by rw[zn2];exact ho9) (HGE.out.below (zd5 HX8.out.q.bl hb9)) (by rw[zn2,List.length_drop];omega) (by rw[zn2,List.length_drop];omega) (fun x hx=>by
  obtain⟨y,hy,rfl⟩:=List.mem_map.1 hx;exact HHX.out y (List.mem_of_mem_drop hy))
 rw[show txt (cw.drop 3)=(txt cw).drop 3 from by unfold txt;rw[List.map_drop]]at hrf9;unfold zau at hrf9;rw[←HRF.out]at hrf9;have HRF9:=lhd hrf9;have HX9:=lhd (HX8.out.later hb9);clear ho9 hb9 hrf9 HX8 HSD;go_wp2_with fail;refine HRF9.out.mono ?_;rintro e w10 ⟨rfl,hb10⟩;dsimp only;have HX10:=lhd (HX9.out.later hb10);clear hb10 HX9 HRF9;obtain⟨d0,d1,d2,d3⟩:=zpM hm (HX10.out.q).sl (j:=m) (by omega) ham (p:=(o+m*4)) (by omega);have hwm:IntKind.i64.wrap ((m:Int)+1-1)=(m:Int):=by rw[show(m:Int)+1-1=m by omega];exact IntWalk.i64_in _ (by omega)
 have hwm2:IntKind.i64.wrap (m:Int)=(m:Int):=IntWalk.i64_in _ (by omega);have hmm:(m:Int)<(m:Int)+1:=by omega
 have hb11:Below w10.heap.size w10 (w10.alloc (.cells #[.string (bsB tm),.int .i64 pm1,.int .i64 pm2,.int .i64 pm3] 58)):=(Below.refl _ _).alloc (Nat.le_refl _) _;have HL:=lhd (zaq.fresh w10 #[.string (bsB tm),.int .i64 pm1,.int .i64 pm2,.int .i64 pm3] 58);have HX11:=lhd (HX10.out.later hb11);clear hb11;go_upto_region 18 with fail;generalize w10.alloc (.cells #[.string (bsB tm),.int .i64 pm1,.int .i64 pm2,.int .i64 pm3] 58)=w11 at*;clear d0 d1 d2 d3 HX10;generalize w10.heap.size=bm at*;have HM:=lhd (zc1 (s:=s) (w:=(tx,o1,o2,o3)) hm hm3 hm4 ha0 ha1 ha2 ha3 ham HTY.out HN.out HRF.out);have l0:=HL.out.cell (j:=0) rfl;have l1:=HL.out.cell (j:=1) rfl;have l2:=HL.out.cell (j:=2) rfl;have l3:=HL.out.cell (j:=3) rfl;have r0:=(zjo (HX11.out.q).rr).cell (j:=0) rfl;have f0:=(zjo (HX11.out.q).rr).free (j:=0) (by simp);have r1:=(zjo (HX11.out.q).rr).cell (j:=1) rfl;have f1:=(zjo (HX11.out.q).rr).free (j:=1) (by simp);have r2:=(zjo (HX11.out.q).rr).cell (j:=2) rfl;have f2:=(zjo (HX11.out.q).rr).free (j:=2) (by simp);have r3:=(zjo (HX11.out.q).rr).cell (j:=3) rfl;have f3:=(zjo (HX11.out.q).rr).free (j:=3) (by simp);have HM:=lhd (HM.out.trans ((if_neg (by rw[←HKD9.out];exact HWD.out)).trans (if_neg (by rw[HCK.out];simp))));by_cases her:er=0
 rotate_left
 ·have hE:zcX s (tx,o1,o2,o3) cw=(s,er,(t3,p31,p32,p33)):=zcZ (HM.out.trans (if_pos her));have ber:(er==0)=false:=by rw[beq_eq_false_iff_ne];exact her
  obtain⟨d0,d1,d2,d3⟩:=zpM hm (HX11.out.q).sl (j:=3) (by omega) ha3 (p:=(o+12)) (by omega);clear her l0 l1 l2 l3;go_wp2_with fail;have HF:=lhd (DPar.far4 HX11.out.q.h HKP.out (Nat.le_succ _) HX11.out.q.rr (.string (bsB t3)) (.int .i64 p31) (.int .i64 p32) (.int .i64 p33));have HF2:=lhd (row4 HX11.out.q.rr (.string (bsB t3)) (.int .i64 p31) (.int .i64 p32) (.int .i64 p33));have HEQ:=lhd hE;go_region
  go_wp2_with fail;have hrr:=HF2.out;refine bodyPost_ret (v:=.tuple #[.int .i64 er,.agg #[.string (bsB t3),.int .i64 p31,.int .i64 p32,.int .i64 p33]]) (by simp[results,Tryz.results142,go_sem,hrr.cell (j:=0) rfl,hrr.cell (j:=1) rfl,hrr.cell (j:=2) rfl,hrr.cell (j:=3) rfl]) rfl ?_;exact⟨by rw[HEQ.out],by rw[HEQ.out];exact⟨_,_,_,HF.out⟩⟩
 subst her;have HM:=lhd (HM.out.trans (if_neg (by simp)));rw[←HKD9.out]at HM;have x8:=(zjo HX11.out.x).cell (j:=8) rfl;by_cases hrk:rg=true∧kd≠0
 ·have hE:zcX s (tx,o1,o2,o3) cw=(s,7,(tm,pm1,pm2,pm3)):=zcZ (HM.out.trans (if_pos hrk));obtain⟨hr1,hk1⟩:=hrk;have bk0:(kd==0)=false:=by rw[beq_eq_false_iff_ne];exact hk1
  subst hr1;clear hk1;go_wp2_with fail;have HF:=lhd (DPar.far4 HX11.out.q.h HKP.out (Nat.le_succ _) HX11.out.q.rr (.string (bsB tm)) (.int .i64 pm1) (.int .i64 pm2) (.int .i64 pm3));have HF2:=lhd (row4 HX11.out.q.rr (.string (bsB tm)) (.int .i64 pm1) (.int .i64 pm2) (.int .i64 pm3));have HEQ:=lhd hE;go_region
  go_wp2_with fail;have hrr:=HF2.out;refine bodyPost_ret (v:=.tuple #[.int .i64 7,.agg #[.string (bsB tm),.int .i64 pm1,.int .i64 pm2,.int .i64 pm3]]) (by simp[results,Tryz.results142,go_sem,hrr.cell (j:=0) rfl,hrr.cell (j:=1) rfl,hrr.cell (j:=2) rfl,hrr.cell (j:=3) rfl]) rfl ?_;exact⟨by rw[HEQ.out],by rw[HEQ.out];exact⟨_,_,_,HF.out⟩⟩
 have HM:=lhd (HM.out.trans (if_neg hrk));go_upto_region 20 with fail;go_cut [110]from 110 to 117 (fun u wc=>u=.bool false∧wc=w11)
 case first=>
  cases rg
  ·go_wp2_with fail;go_meet
   case rel=>exact⟨rfl,rfl⟩
  ·have hk0:kd=0:=Classical.byContradiction fun h=>hrk ⟨rfl,h⟩;have bk0:(kd==0)=true:=by rw[hk0];rfl
   have HK0:=lhd hk0;clear hk0;go_wp2_with fail;go_meet
   case rel=>exact⟨by first|rfl|simp[HK0.out],rfl⟩
 case rest=>
 obtain⟨rfl,hwc⟩:=hcut;have hwc:=hwc.symm;subst hwc;clear hrk;have HWI:=lhd (fun W=>zhV mb lb W);by_cases hrw:rg=true∧zpX mb lb≠v
 ·have hE:zcX s (tx,o1,o2,o3) cw=(s,8,(tm,pm1,pm2,pm3)):=zcZ (HM.out.trans (if_pos hrw));obtain⟨hr1,hk1⟩:=hrw;have bw0:(zpX mb lb==v)=false:=by rw[beq_eq_false_iff_ne];exact hk1
  subst hr1;clear hk1;generalize zpX mb lb=wf at*;go_wp2_with fail;refine(HWI.out _).mono ?_;rintro e w' ⟨rfl,rfl⟩;go_wp2_with fail;have HF:=lhd (DPar.far4 HX11.out.q.h HKP.out (Nat.le_succ _) HX11.out.q.rr (.string (bsB tm)) (.int .i64 pm1) (.int .i64 pm2) (.int .i64 pm3));have HF2:=lhd (row4 HX11.out.q.rr (.string (bsB tm)) (.int .i64 pm1) (.int .i64 pm2) (.int .i64 pm3));have HEQ:=lhd hE;go_region
  go_wp2_with fail;have hrr:=HF2.out;refine bodyPost_ret (v:=.tuple #[.int .i64 8,.agg #[.string (bsB tm),.int .i64 pm1,.int .i64 pm2,.int .i64 pm3]]) (by simp[results,Tryz.results142,go_sem,hrr.cell (j:=0) rfl,hrr.cell (j:=1) rfl,hrr.cell (j:=2) rfl,hrr.cell (j:=3) rfl]) rfl ?_;exact⟨by rw[HEQ.out],by rw[HEQ.out];exact⟨_,_,_,HF.out⟩⟩
 have HM:=lhd (HM.out.trans (if_neg hrw));clear l0 l1 l2 l3;go_upto_region 22 with fail;go_cut [118]from 118 to 127 (fun u wc=>u=.bool false∧wc=w11)
 case first=>
  cases rg
  ·go_wp2_with fail;go_meet
   case rel=>exact⟨rfl,rfl⟩
  ·have hk0:zpX mb lb=v:=Classical.byContradiction fun h=>hrw ⟨rfl,h⟩;rw[hk0]at HWI;clear hk0 hrw;go_wp2_with fail;refine(HWI.out _).mono ?_;rintro e w' ⟨rfl,rfl⟩;go_wp2_with fail;go_meet
   case rel=>exact⟨by first|rfl|simp,rfl⟩
 case rest=>
 obtain⟨rfl,hwc⟩:=hcut;have hwc:=hwc.symm;subst hwc;clear hrw HWI x8 r0 r1 r2 r3 f0 f1 f2 f3;have HDN:=HDN;have c8:w11.cell? ⟨c.B,8,none⟩=some (.int .i64 s.now):=HX11.out.q.h.row.cell (j:=8) rfl;have y0:=HX11.out.t.cell (j:=0) rfl;have x0:=(zjo HX11.out.x).cell (j:=0) rfl;have f0:=(zjo HX11.out.x).free (j:=0) (by simp);have x1:=(zjo HX11.out.x).cell (j:=1) rfl;have f1:=(zjo HX11.out.x).free (j:=1) (by simp);have x2:=(zjo HX11.out.x).cell (j:=2) rfl;have f2:=(zjo HX11.out.x).free (j:=2) (by simp);have x3:=(zjo HX11.out.x).cell (j:=3) rfl;have f3:=(zjo HX11.out.x).free (j:=3) (by simp);have x4:=(zjo HX11.out.x).cell (j:=4) rfl;have f4:=(zjo HX11.out.x).free (j:=4) (by simp);have x5:=(zjo HX11.out.x).cell (j:=5) rfl;have f5:=(zjo HX11.out.x).free (j:=5) (by simp);have x6:=(zjo HX11.out.x).cell (j:=6) rfl;have f6:=(zjo HX11.out.x).free (j:=6) (by simp)
 have HX12:=lhd (show DX c s vS (.slice aD s.D.length cD) vr W tx o1 o2 o3 b o (m+1) cap cw ty bt bx (dclC ⟨nm,ty,s.now,0,rg,mb,lb,t2,kd,wd⟩) (((((((w11.setCell ⟨bx,0,none⟩ (.string (bsB nm))).setCell ⟨bx,1,none⟩ (.int .i64 ty)).setCell ⟨bx,2,none⟩ (.int .i64 s.now)).setCell ⟨bx,3,none⟩ (.int .i64 0)).setCell ⟨bx,4,none⟩ (.bool rg)).setCell ⟨bx,5,none⟩ (.int .i64 mb)).setCell ⟨bx,6,none⟩ (.int .i64 lb)).drew from
  DX.later (((((((HX11.out.set HB0.out HDN.out 0 (.string (bsB nm))).set HB0.out HDN.out 1 (.int .i64 ty)).set HB0.out HDN.out 2 (.int .i64 s.now)).set HB0.out HDN.out 3 (.int .i64 0)).set HB0.out HDN.out 4 (.bool rg)).set HB0.out HDN.out 5 (.int .i64 mb)).set HB0.out HDN.out 6 (.int .i64 lb)) (Below.refl _ _).drew)
 go_wp2_with fail;go_region
 generalize (((((((w11.setCell ⟨bx,0,none⟩ (.string (bsB nm))).setCell ⟨bx,1,none⟩ (.int .i64 ty)).setCell ⟨bx,2,none⟩ (.int .i64 s.now)).setCell ⟨bx,3,none⟩ (.int .i64 0)).setCell ⟨bx,4,none⟩ (.bool rg)).setCell ⟨bx,5,none⟩ (.int .i64 mb)).setCell ⟨bx,6,none⟩ (.int .i64 lb)).drew=w12 at*;clear c8 y0 x0 x1 x2 x3 x4 x5 x6 f0 f1 f2 f3 f4 f5 f6 HX11
 have HDX:=lhd (show dclF s cw=⟨nm,ty,s.now,0,rg,mb,lb,t2,kd,wd⟩by
  rw[zcY (s:=s) ha0 ha1 ha2 HTY.out HN.out HRF.out,HWE.out,HKD9.out])
 rw[←HWE.out]at HM;go_wp2_with fail;cases hkn:knD s.D t2 with
 |some od=>
  have HM:=lhd (show zc7 s (tx,o1,o2,o3) cw=_ by rw[HM.out,hkn]);have HKN:=lhd hkn
  have hlkf:∀V,DX c s vS (.slice aD s.D.length cD) vr W tx o1 o2 o3 b o (m+1) cap cw ty bt bx (dclC ⟨nm,ty,s.now,0,rg,mb,lb,t2,kd,wd⟩) V→(Instr.lookup 87 (.map (some c.cb)) (.string (bsB t2)) true).run Tryz.prog V=.ok (.tuple #[dclV od,.bool true]) V:=fun V h=>by
   have:=zdo h.q.h.g.s (x:=t2) (by omega);unfold cF at this;rw[hkn]at this;exact this
  obtain⟨n0,n1,n2,n3,n4,n5,n6,n7,n8,n9⟩:=od;clear hkn;have HS:=lhd (show ∀V,Below w12.heap.size w12 V→V.cell? ⟨c.B,10,none⟩=some (.map (some c.cb))∧V.cell? ⟨bx,7,none⟩=some (.string (bsB t2))∧(Instr.lookup 87 (.map (some c.cb)) (.string (bsB t2)) true).run Tryz.prog V=.ok (.tuple #[.agg #[.string (bsB n0),.int .i64 n1,.int .i64 n2,.int .i64 n3,.bool n4,.int .i64 n5,.int .i64 n6,.string (bsB n7),.int .i64 n8,.int .i64 n9],.bool true]) V from fun V hV=>⟨(HX12.out.later hV).q.h.row.cell (j:=10) rfl,(zjo (HX12.out.later hV).x).cell (j:=7) rfl,hlkf V (HX12.out.later hV)⟩);clear hlkf;have hbz:∀C,Below w12.heap.size w12 (w12.alloc (.cells C 50)).drew:=fun C=>((Below.refl _ _).alloc (Nat.le_refl _) _).drew;have HX13:=lhd (HX12.out.later (hbz #[.string (bsB n0),.int .i64 n1,.int .i64 n2,.int .i64 n3,.bool n4,.int .i64 n5,.int .i64 n6,.string (bsB n7),.int .i64 n8,.int .i64 n9]));have HO13:=lhd (show zaq (w12.alloc (.cells #[.string (bsB n0),.int .i64 n1,.int .i64 n2,.int .i64 n3,.bool n4,.int .i64 n5,.int .i64 n6,.string (bsB n7),.int .i64 n8,.int .i64 n9] 50)).drew w12.heap.size (#[.string (bsB n0),.int .i64 n1,.int .i64 n2,.int .i64 n3,.bool n4,.int .i64 n5,.int .i64 n6,.string (bsB n7),.int .i64 n8,.int .i64 n9]).toList from zaq.fresh w12 #[.string (bsB n0),.int .i64 n1,.int .i64 n2,.int .i64 n3,.bool n4,.int .i64 n5,.int .i64 n6,.string (bsB n7),.int .i64 n8,.int .i64 n9] 50);have HZ13:=lhd (show w12.heap.size<(w12.alloc (.cells #[.string (bsB n0),.int .i64 n1,.int .i64 n2,.int .i64 n3,.bool n4,.int .i64 n5,.int .i64 n6,.string (bsB n7),.int .i64 n8,.int .i64 n9] 50)).drew.heap.size by show _<(w12.alloc _).heap.size;simp);refine wp_region_held_drew (S:=fun w'=>w'.cell? ⟨c.B,10,none⟩=some (.map (some c.cb))∧w'.cell? ⟨bx,7,none⟩=some (.string (bsB t2))∧(Instr.lookup 87 (.map (some c.cb)) (.string (bsB t2)) true).run Tryz.prog w'=.ok (.tuple #[.agg #[.string (bsB n0),.int .i64 n1,.int .i64 n2,.int .i64 n3,.bool n4,.int .i64 n5,.int .i64 n6,.string (bsB n7),.int .i64 n8,.int .i64 n9],.bool true]) w') (by kernel_rfl) (by first|exact HS.out _ (Below.refl _ _)|exact HS.out _ (Below.refl _ _).drew) (fun hHeld=>?_);refine tkH 0 hHeld (v:=?_) ?_ ?_;rotate_left
  ·intro w h;(try dsimp only at h);go_simp;all_goals with_reducible rfl
  simp only[tkS];refine tkH 1 hHeld (v:=?_) ?_ ?_;rotate_left
  ·intro w h;(try dsimp only at h);go_simp;all_goals with_reducible rfl
  simp only[tkS];refine tkH 2 hHeld (v:=?_) ?_ ?_;rotate_left
  ·intro w h;(try dsimp only at h);go_simp;all_goals with_reducible rfl
  simp only[tkS];refine tkH 3 hHeld (v:=?_) ?_ ?_;rotate_left
  ·intro w h;(try dsimp only at h);go_simp;all_goals with_reducible rfl
  simp only[tkS];refine tkH 4 hHeld (v:=?_) ?_ ?_;rotate_left
  ·intro w h;(try dsimp only at h);go_simp;all_goals with_reducible rfl
  simp only[tkS];refine tkH 5 hHeld (v:=?_) ?_ ?_;rotate_left
  ·intro w h;(try dsimp only at h);go_simp;all_goals with_reducible rfl
  simp only[tkS];refine tkH 6 hHeld (v:=?_) ?_ ?_;rotate_left
  ·intro w h;(try dsimp only at h);go_simp;all_goals with_reducible rfl
  simp only[tkS];refine tkH 7 hHeld (v:=?_) ?_ ?_;rotate_left
  ·intro w h;(try dsimp only at h);go_simp;all_goals with_reducible rfl
  simp only[tkS];refine tkH 8 hHeld (v:=?_) ?_ ?_;rotate_left
  ·intro w h;(try dsimp only at h);go_simp;all_goals with_reducible rfl
  simp only[tkS];refine tkH 9 hHeld (v:=?_) ?_ ?_;rotate_left
  ·intro w h;(try dsimp only at h);go_simp;all_goals with_reducible rfl
  simp only[tkS];refine oneH 10 (fun K hK=>?_);go_simp;refine hK.out _ _ (HS.out _ (hbz _)) (fun hHeld=>?_);clear hK;try simp only[tkS]
  refine oneH 11 (fun K hK=>?_);go_simp;refine hK.out _ _ (HS.out _ (hbz _)) (fun hHeld=>?_);clear hK;try simp only[tkS]
  refine oneH 12 (fun K hK=>?_);go_simp;refine hK.out _ _ (HS.out _ (hbz _)) (fun hHeld=>?_);clear hK;try simp only[tkS]
  refine wpAnyH_done (by kernel_rfl) ?_ _;clear hHeld hbz HS;generalize (w12.alloc (.cells #[.string (bsB n0),.int .i64 n1,.int .i64 n2,.int .i64 n3,.bool n4,.int .i64 n5,.int .i64 n6,.string (bsB n7),.int .i64 n8,.int .i64 n9] 50)).drew=w13 at*;have o8:=HO13.out.cell (j:=8) rfl;have o9:=HO13.out.cell (j:=9) rfl;have x8:=(zjo HX13.out.x).cell (j:=8) rfl;have x9:=(zjo HX13.out.x).cell (j:=9) rfl;have r0:=(zjo (HX13.out.q).rr).cell (j:=0) rfl;have f0:=(zjo (HX13.out.q).rr).free (j:=0) (by simp);have r1:=(zjo (HX13.out.q).rr).cell (j:=1) rfl;have f1:=(zjo (HX13.out.q).rr).free (j:=1) (by simp);have r2:=(zjo (HX13.out.q).rr).cell (j:=2) rfl;have f2:=(zjo (HX13.out.q).rr).free (j:=2) (by simp);have r3:=(zjo (HX13.out.q).rr).cell (j:=3) rfl;have f3:=(zjo (HX13.out.q).rr).free (j:=3) (by simp);by_cases hk1:n8=kd
  rotate_left
  ·have hE:zcX s (tx,o1,o2,o3) cw=(s,7,(t2,p21,p22,p23)):=zcZ (HM.out.trans (if_pos hk1));have bk1:(n8==kd)=false:=by rw[beq_eq_false_iff_ne];exact hk1
   obtain⟨d0,d1,d2,d3⟩:=zpM hm (HX13.out.q).sl (j:=2) (by omega) ha2 (p:=(o+8)) (by omega);clear hk1;go_wp2_with fail;have HF:=lhd (DPar.far4 HX13.out.q.h HKP.out (Nat.le_succ _) HX13.out.q.rr (.string (bsB t2)) (.int .i64 p21) (.int .i64 p22) (.int .i64 p23));have HF2:=lhd (row4 HX13.out.q.rr (.string (bsB t2)) (.int .i64 p21) (.int .i64 p22) (.int .i64 p23));have HEQ:=lhd hE;go_region
   go_wp2_with fail;have hrr:=HF2.out;refine bodyPost_ret (v:=.tuple #[.int .i64 7,.agg #[.string (bsB t2),.int .i64 p21,.int .i64 p22,.int .i64 p23]]) (by simp[results,Tryz.results142,go_sem,hrr.cell (j:=0) rfl,hrr.cell (j:=1) rfl,hrr.cell (j:=2) rfl,hrr.cell (j:=3) rfl]) rfl ?_;exact⟨by rw[HEQ.out],by rw[HEQ.out];exact⟨_,_,_,HF.out⟩⟩
  have HN1:=lhd (HM.out.trans (if_neg (fun h=>h hk1)));have bk1:(n8==kd)=true:=by rw[hk1];simp
  clear hk1;by_cases hk2:n9=wd
  rotate_left
  ·have hE:zcX s (tx,o1,o2,o3) cw=(s,8,(t2,p21,p22,p23)):=zcZ (HN1.out.trans (if_pos hk2));have bk2:(n9==wd)=false:=by rw[beq_eq_false_iff_ne];exact hk2
   obtain⟨d0,d1,d2,d3⟩:=zpM hm (HX13.out.q).sl (j:=2) (by omega) ha2 (p:=(o+8)) (by omega);clear hk2;go_wp2_with fail;have HF:=lhd (DPar.far4 HX13.out.q.h HKP.out (Nat.le_succ _) HX13.out.q.rr (.string (bsB t2)) (.int .i64 p21) (.int .i64 p22) (.int .i64 p23));have HF2:=lhd (row4 HX13.out.q.rr (.string (bsB t2)) (.int .i64 p21) (.int .i64 p22) (.int .i64 p23));have HEQ:=lhd hE;go_region
   go_wp2_with fail;have hrr:=HF2.out;refine bodyPost_ret (v:=.tuple #[.int .i64 8,.agg #[.string (bsB t2),.int .i64 p21,.int .i64 p22,.int .i64 p23]]) (by simp[results,Tryz.results142,go_sem,hrr.cell (j:=0) rfl,hrr.cell (j:=1) rfl,hrr.cell (j:=2) rfl,hrr.cell (j:=3) rfl]) rfl ?_;exact⟨by rw[HEQ.out],by rw[HEQ.out];exact⟨_,_,_,HF.out⟩⟩
  have HN2:=lhd (HN1.out.trans (if_neg (fun h=>h hk2)));have bk2:(n9==wd)=true:=by rw[hk2];simp
  clear hk2 HO13 HZ13 r0 r1 r2 r3 f0 f1 f2 f3;have HCF:=lhd (zbD bt bx (dupV ⟨nm,ty,s.now,0,rg,mb,lb,t2,kd,wd⟩) _ s.D w13 (SlR.of_own HX13.out.q.h.D) (fun y _ V hV=>zbQ bt bx ty ⟨nm,ty,s.now,0,rg,mb,lb,t2,kd,wd⟩ y V (zjo (HX13.out.later hV).x) (HX13.out.later hV).lt.2.2 ((HX13.out.later hV).t.cell (j:=0) rfl) rfl));have c5:w13.cell? ⟨c.B,5,none⟩=some (.slice aD s.D.length cD):=HX13.out.q.h.row.cell (j:=5) rfl;cases hany:s.D.any (dupV ⟨nm,ty,s.now,0,rg,mb,lb,t2,kd,wd⟩)
  rotate_left
  ·have hE:zcX s (tx,o1,o2,o3) cw=(s,5,(t3,p31,p32,p33)):=zcZ (HN2.out.trans (if_pos hany));rw[hany]at HCF;clear hany;go_wp2_with fail;refine HCF.out.mono ?_;rintro e w14 ⟨rfl,hb14⟩;have HX14:=lhd (HX13.out.later hb14);clear hb14 c5;obtain⟨d0,d1,d2,d3⟩:=zpM hm (HX14.out.q).sl (j:=3) (by omega) ha3 (p:=(o+12)) (by omega);have r0:=(zjo (HX14.out.q).rr).cell (j:=0) rfl;have f0:=(zjo (HX14.out.q).rr).free (j:=0) (by simp);have r1:=(zjo (HX14.out.q).rr).cell (j:=1) rfl;have f1:=(zjo (HX14.out.q).rr).free (j:=1) (by simp);have r2:=(zjo (HX14.out.q).rr).cell (j:=2) rfl;have f2:=(zjo (HX14.out.q).rr).free (j:=2) (by simp);have r3:=(zjo (HX14.out.q).rr).cell (j:=3) rfl;have f3:=(zjo (HX14.out.q).rr).free (j:=3) (by simp);go_wp2_with fail;have HF:=lhd (DPar.far4 HX14.out.q.h HKP.out (Nat.le_succ _) HX14.out.q.rr (.string (bsB t3)) (.int .i64 p31) (.int .i64 p32) (.int .i64 p33));have HF2:=lhd (row4 HX14.out.q.rr (.string (bsB t3)) (.int .i64 p31) (.int .i64 p32) (.int .i64 p33));have HEQ:=lhd hE;go_region
   go_wp2_with fail;have hrr:=HF2.out;refine bodyPost_ret (v:=.tuple #[.int .i64 5,.agg #[.string (bsB t3),.int .i64 p31,.int .i64 p32,.int .i64 p33]]) (by simp[results,Tryz.results142,go_sem,hrr.cell (j:=0) rfl,hrr.cell (j:=1) rfl,hrr.cell (j:=2) rfl,hrr.cell (j:=3) rfl]) rfl ?_;exact⟨by rw[HEQ.out],by rw[HEQ.out];exact⟨_,_,_,HF.out⟩⟩
  have HAN:=lhd (HN2.out.trans (if_neg (by rw[hany];simp)));rw[hany]at HCF;clear hany;go_wp2_with fail;refine HCF.out.mono ?_;rintro e w14 ⟨rfl,hb14⟩;have HX14:=lhd (HX13.out.later hb14);clear hb14 c5 HX13 HCF HX12;clear bk1 bk2 o8 o9 x8 x9;have c5:w14.cell? ⟨c.B,5,none⟩=some (.slice aD s.D.length cD):=HX14.out.q.h.row.cell (j:=5) rfl;by_cases h128:128≤s.D.length
  ·have hE:zcX s (tx,o1,o2,o3) cw=(s,9,(tx,o1,o2,o3)):=zcZ (HAN.out.trans (if_pos h128));have r0:=(zjo (HX14.out.q).rr).cell (j:=0) rfl;have f0:=(zjo (HX14.out.q).rr).free (j:=0) (by simp);have r1:=(zjo (HX14.out.q).rr).cell (j:=1) rfl;have f1:=(zjo (HX14.out.q).rr).free (j:=1) (by simp);have r2:=(zjo (HX14.out.q).rr).cell (j:=2) rfl;have f2:=(zjo (HX14.out.q).rr).free (j:=2) (by simp);have r3:=(zjo (HX14.out.q).rr).cell (j:=3) rfl;have f3:=(zjo (HX14.out.q).rr).free (j:=3) (by simp);have x0:=(HX14.out.q).xw.cell (j:=0) rfl;have x1:=(HX14.out.q).xw.cell (j:=1) rfl;have x2:=(HX14.out.q).xw.cell (j:=2) rfl;have x3:=(HX14.out.q).xw.cell (j:=3) rfl;go_wp2_with fail;have HF:=lhd (DPar.far4 HX14.out.q.h HKP.out (Nat.le_succ _) HX14.out.q.rr (.string (bsB tx)) (.int .i64 o1) (.int .i64 o2) (.int .i64 o3));have HF2:=lhd (row4 HX14.out.q.rr (.string (bsB tx)) (.int .i64 o1) (.int .i64 o2) (.int .i64 o3));have HEQ:=lhd hE;go_region
   go_wp2_with fail;have hrr:=HF2.out;refine bodyPost_ret (v:=.tuple #[.int .i64 9,.agg #[.string (bsB tx),.int .i64 o1,.int .i64 o2,.int .i64 o3]]) (by simp[results,Tryz.results142,go_sem,hrr.cell (j:=0) rfl,hrr.cell (j:=1) rfl,hrr.cell (j:=2) rfl,hrr.cell (j:=3) rfl]) rfl ?_;exact⟨by rw[HEQ.out],by rw[HEQ.out];exact⟨_,_,_,HF.out⟩⟩
  have hE:zcX s (tx,o1,o2,o3) cw=({s with D:=s.D++ [⟨nm,ty,s.now,0,rg,mb,lb,t2,kd,wd⟩]},0,(tx,o1,o2,o3)):=by
   rw[zc3 (HAN.out.trans (if_neg h128)),HDX.out]
  have HXB:=lhd HX14.out;have hal2:Below w14.heap.size w14 (w14.drew.alloc (.cells #[.string (bsB nm),.int .i64 ty,.int .i64 s.now,.int .i64 0,.bool rg,.int .i64 mb,.int .i64 lb,.string (bsB t2),.int .i64 kd,.int .i64 wd] 50)):=((Below.refl _ _).drew).alloc (Nat.le_refl _) _;have HA:=lhd (HX14.out.later hal2);have c5:w14.cell? ⟨c.B,5,none⟩=some (.slice aD s.D.length cD):=HX14.out.q.h.row.cell (j:=5) rfl;have a5:(w14.drew.alloc (.cells #[.string (bsB nm),.int .i64 ty,.int .i64 s.now,.int .i64 0,.bool rg,.int .i64 mb,.int .i64 lb,.string (bsB t2),.int .i64 kd,.int .i64 wd] 50)).cell? ⟨c.B,5,none⟩=some (.slice aD s.D.length cD):=HA.out.q.h.row.cell (j:=5) rfl;obtain⟨i0,hi,iz0,iz1,iz2⟩:=info_parts (P:=Tryz.prog) zcH;have hbs:c.w0.heap.size≤w14.heap.size:=HX14.out.q.h.b.size;have hpA:=HA.out.q.h.p;have hDA:=HA.out.q.h.D;have hxA:=HA.out.x;have hrA:=HA.out.q.rr;have hwA:=HA.out.q.xw;have HSA:=lhd (show ∀V,zaq V bx [.string (bsB nm),.int .i64 ty,.int .i64 s.now,.int .i64 0,.bool rg,.int .i64 mb,.int .i64 lb,.string (bsB t2),.int .i64 kd,.int .i64 wd]→V.cell? ⟨bx,0,none⟩=some (.string (bsB nm))∧V.cell? ⟨bx,1,none⟩=some (.int .i64 ty)∧V.cell? ⟨bx,2,none⟩=some (.int .i64 s.now)∧V.cell? ⟨bx,3,none⟩=some (.int .i64 0)∧V.cell? ⟨bx,4,none⟩=some (.bool rg)∧V.cell? ⟨bx,5,none⟩=some (.int .i64 mb)∧V.cell? ⟨bx,6,none⟩=some (.int .i64 lb)∧V.cell? ⟨bx,7,none⟩=some (.string (bsB t2))∧V.cell? ⟨bx,8,none⟩=some (.int .i64 kd)∧V.cell? ⟨bx,9,none⟩=some (.int .i64 wd)from fun V h=>⟨h.cell (j:=0) rfl,h.cell (j:=1) rfl,h.cell (j:=2) rfl,h.cell (j:=3) rfl,h.cell (j:=4) rfl,h.cell (j:=5) rfl,h.cell (j:=6) rfl,h.cell (j:=7) rfl,h.cell (j:=8) rfl,h.cell (j:=9) rfl⟩);have s14:=HSA.out _ (zjo HX14.out.x);have sA:=HSA.out _ (zjo hxA);have HLT:=lhd (And.intro HX14.out.lt (Nat.lt_of_lt_of_le HX14.out.lt.2.2 hal2.size));have hwz:=HX14.out.q.zz;clear hal2;go_upto_region 36 with fail;refine wp_region_held_drew (S:=fun w'=>w'.cell? ⟨bx,0,none⟩=some (.string (bsB nm))∧w'.cell? ⟨bx,1,none⟩=some (.int .i64 ty)∧w'.cell? ⟨bx,2,none⟩=some (.int .i64 s.now)∧w'.cell? ⟨bx,3,none⟩=some (.int .i64 0)∧w'.cell? ⟨bx,4,none⟩=some (.bool rg)∧w'.cell? ⟨bx,5,none⟩=some (.int .i64 mb)∧w'.cell? ⟨bx,6,none⟩=some (.int .i64 lb)∧w'.cell? ⟨bx,7,none⟩=some (.string (bsB t2))∧w'.cell? ⟨bx,8,none⟩=some (.int .i64 kd)∧w'.cell? ⟨bx,9,none⟩=some (.int .i64 wd)) (by kernel_rfl) (HSA.out _ (by first|exact zjo HXB.out.x|exact HB15.out)) (fun hHeld=>?_);refine tkH 0 hHeld (v:=?_) ?_ ?_;rotate_left
  ·intro w h;(try dsimp only at h);go_simp;all_goals with_reducible rfl
  simp only[tkS];refine tkH 1 hHeld (v:=?_) ?_ ?_;rotate_left
  ·intro w h;(try dsimp only at h);go_simp;all_goals with_reducible rfl
  simp only[tkS];refine tkH 2 hHeld (v:=?_) ?_ ?_;rotate_left
  ·intro w h;(try dsimp only at h);go_simp;all_goals with_reducible rfl
  simp only[tkS];refine tkH 3 hHeld (v:=?_) ?_ ?_;rotate_left
  ·intro w h;(try dsimp only at h);go_simp;all_goals with_reducible rfl
  simp only[tkS];refine tkH 4 hHeld (v:=?_) ?_ ?_;rotate_left
  ·intro w h;(try dsimp only at h);go_simp;all_goals with_reducible rfl
  simp only[tkS];refine tkH 6 hHeld (v:=?_) ?_ ?_;rotate_left
  ·intro w h;(try dsimp only at h);go_simp;all_goals with_reducible rfl
  simp only[tkS];refine wpAnyH_ready (rs:=[5,7]) (by kernel_rfl) (by simp) ?_;refine AllReadyH.cons (o:=_) rfl (fun K hK=>?_) (AllReadyH.cons (o:=_) rfl (fun K hK=>?_) AllReadyH.nil)
  ·go_simp;refine hK.out _ _ (HSA.out _ (by first|exact zjo HXB.out.x|exact HB15.out)) (fun hHeld=>?_);clear hK;try simp only[tkS]
   refine oneH 7 (fun K hK=>?_);go_simp;refine hK.out _ _ sA (fun hHeld=>?_);clear hK;try simp only[tkS]
   refine oneH 8 (fun K hK=>?_);refine step_append_lies _ (by rfl) _ _ _ (by rfl) c.w0.heap.size 50 i0 _ 10 96 Tryz.underlying23 hi iz0 iz1 iz2 rfl (by omega) (.slice aD s.D.length cD) s.D.length (dcls s.D) (by rfl) (by exact hDA) ⟨w14.heap.size,0,none⟩ 1 1 [.string (bsB nm),.int .i64 ty,.int .i64 s.now,.int .i64 0,.bool rg,.int .i64 mb,.int .i64 lb,.string (bsB t2),.int .i64 kd,.int .i64 wd] (by rfl) (by rfl) (World.news_of_block (cs:=#[.string (bsB nm),.int .i64 ty,.int .i64 s.now,.int .i64 0,.bool rg,.int .i64 mb,.int .i64 lb,.string (bsB t2),.int .i64 kd,.int .i64 wd]) (t:=50) (fr:=(0,0)) (by exact heap_alloc_new _ _)) (by simp[Value.oneCell']) (by omega) (by unfold maxLen;omega) (by omega) (by simp;omega) (w14.heap.size+1) (by simp) ?_;intro gg cap9 w9 ho9 hg9 hat hlt9;have HE9:=lhd (show DPar (c.from W) {s with D:=s.D++ [⟨nm,ty,s.now,0,rg,mb,lb,t2,kd,wd⟩]} vS _ vr (w9.setCell ⟨c.B,5,none⟩ (.slice (some ⟨gg,0,none⟩) (s.D.length+1) cap9))from(HA.out.q.h.addD (x:=⟨nm,ty,s.now,0,rg,mb,lb,t2,kd,wd⟩) (by show knD s.D t2≠none;rw[HKN.out];simp) ho9 hg9));have hp9:=hpA.kept hg9 (zjl hpA hDA (by decide));have HP9:=lhd (zjo hp9);have HX9:=lhd ((zjo hxA).grown hg9 HLT.out.2 (fun q=>HDN.out q.symm));have HR9:=lhd (hrA.kept hg9 (zjl hrA hDA (by decide)));have HR10:=lhd (show(w9.setCell ⟨c.B,5,none⟩ (.slice (some ⟨gg,0,none⟩) (s.D.length+1) cap9)).ownsRow c.w0.heap.size 58 4 (.slice (some ⟨W.heap.size+1,0,none⟩) 1 1) 1 [.string ⟨#[]⟩,.int .i64 0,.int .i64 0,.int .i64 0]from zjs HR9.out hp9 (by decide) 5 (.slice (some ⟨gg,0,none⟩) (s.D.length+1) cap9));have p5:w9.cell? ⟨c.B,5,none⟩=some (.slice aD s.D.length cD):=HP9.out.cell (j:=5) rfl;have f5:w9.frozen? ⟨c.B,5,none⟩=false:=HP9.out.free (j:=5) (by simp[zdR]);have s9:=HSA.out _ HX9.out;have s10:=HSA.out _ (HX9.out.setFar (show c.B≠bx from by have:=HLO.out.2;have:=HLT.out.1;omega) 5 (.slice (some ⟨gg,0,none⟩) (s.D.length+1) cap9));have HXW:=lhd ((hwA.grown hg9 (by simp;omega) (fun q=>by have:=(HDL.out _ q.symm).2;omega)).setFar (show c.B≠W.heap.size from by have:=HLO.out.2;omega) 5 (.slice (some ⟨gg,0,none⟩) (s.D.length+1) cap9));clear ho9 hg9 hat hlt9 hp9;refine hK.out _ _ s9 (fun hHeld=>?_);clear hK;try simp only[tkS]
   refine tkH 9 hHeld (v:=?_) ?_ ?_;rotate_left
   ·intro w h;(try dsimp only at h);go_simp;all_goals with_reducible rfl
   simp only[tkS];refine tkH 10 hHeld (v:=?_) ?_ ?_;rotate_left
   ·intro w h;(try dsimp only at h);go_simp;all_goals with_reducible rfl
   simp only[tkS];refine tkH 11 hHeld (v:=?_) ?_ ?_;rotate_left
   ·intro w h;(try dsimp only at h);go_simp;all_goals with_reducible rfl
   simp only[tkS];refine oneH 12 (fun K hK=>?_);go_simp;refine hK.out _ _ s10 (fun hHeld=>?_);clear hK;try simp only[tkS]
   refine wpAnyH_done (by kernel_rfl) ?_ _;clear hHeld s9 s10 p5 f5;generalize w9.setCell ⟨c.B,5,none⟩ (.slice (some ⟨gg,0,none⟩) (s.D.length+1) cap9)=w10' at*;have x0:=HXW.out.cell (j:=0) rfl;have x1:=HXW.out.cell (j:=1) rfl;have x2:=HXW.out.cell (j:=2) rfl;have x3:=HXW.out.cell (j:=3) rfl;have r0:=(zjo HR10.out).cell (j:=0) rfl;have f0:=(zjo HR10.out).free (j:=0) (by simp);have r1:=(zjo HR10.out).cell (j:=1) rfl;have f1:=(zjo HR10.out).free (j:=1) (by simp);have r2:=(zjo HR10.out).cell (j:=2) rfl;have f2:=(zjo HR10.out).free (j:=2) (by simp);have r3:=(zjo HR10.out).cell (j:=3) rfl;have f3:=(zjo HR10.out).free (j:=3) (by simp);go_wp2_with fail;have HF:=lhd (DPar.far4 HE9.out HKP.out (Nat.le_succ _) HR10.out (.string (bsB tx)) (.int .i64 o1) (.int .i64 o2) (.int .i64 o3));have HF2:=lhd (row4 HR10.out (.string (bsB tx)) (.int .i64 o1) (.int .i64 o2) (.int .i64 o3));have HEQ:=lhd hE;go_region
   go_wp2_with fail;have hrr:=HF2.out;refine bodyPost_ret (v:=.tuple #[.int .i64 0,.agg #[.string (bsB tx),.int .i64 o1,.int .i64 o2,.int .i64 o3]]) (by simp[results,Tryz.results142,go_sem,hrr.cell (j:=0) rfl,hrr.cell (j:=1) rfl,hrr.cell (j:=2) rfl,hrr.cell (j:=3) rfl]) rfl ?_;exact⟨by rw[HEQ.out],by rw[HEQ.out];exact⟨_,_,_,HF.out⟩⟩
  ·go_simp;refine hK.out _ _ sA (fun hHeld=>?_);clear hK;try simp only[tkS]
   have a5:=zbz c5 (.cells #[.string (bsB nm),.int .i64 ty,.int .i64 s.now,.int .i64 0,.bool rg,.int .i64 mb,.int .i64 lb,.string (bsB t2),.int .i64 kd,.int .i64 wd] 50);refine oneH 5 (fun K hK=>?_);go_simp;refine hK.out _ _ sA (fun hHeld=>?_);clear hK;try simp only[tkS]
   refine oneH 8 (fun K hK=>?_);refine step_append_lies _ (by rfl) _ _ _ (by rfl) c.w0.heap.size 50 i0 _ 10 96 Tryz.underlying23 hi iz0 iz1 iz2 rfl (by omega) (.slice aD s.D.length cD) s.D.length (dcls s.D) (by rfl) (by exact hDA) ⟨w14.heap.size,0,none⟩ 1 1 [.string (bsB nm),.int .i64 ty,.int .i64 s.now,.int .i64 0,.bool rg,.int .i64 mb,.int .i64 lb,.string (bsB t2),.int .i64 kd,.int .i64 wd] (by rfl) (by rfl) (World.news_of_block (cs:=#[.string (bsB nm),.int .i64 ty,.int .i64 s.now,.int .i64 0,.bool rg,.int .i64 mb,.int .i64 lb,.string (bsB t2),.int .i64 kd,.int .i64 wd]) (t:=50) (fr:=(0,0)) (by exact heap_alloc_new _ _)) (by simp[Value.oneCell']) (by omega) (by unfold maxLen;omega) (by omega) (by simp;omega) (w14.heap.size+1) (by simp) ?_;intro gg cap9 w9 ho9 hg9 hat hlt9;have HE9:=lhd (show DPar (c.from W) {s with D:=s.D++ [⟨nm,ty,s.now,0,rg,mb,lb,t2,kd,wd⟩]} vS _ vr (w9.setCell ⟨c.B,5,none⟩ (.slice (some ⟨gg,0,none⟩) (s.D.length+1) cap9))from(HA.out.q.h.addD (x:=⟨nm,ty,s.now,0,rg,mb,lb,t2,kd,wd⟩) (by show knD s.D t2≠none;rw[HKN.out];simp) ho9 hg9));have hp9:=hpA.kept hg9 (zjl hpA hDA (by decide));have HP9:=lhd (zjo hp9);have HX9:=lhd ((zjo hxA).grown hg9 HLT.out.2 (fun q=>HDN.out q.symm));have HR9:=lhd (hrA.kept hg9 (zjl hrA hDA (by decide)));have HR10:=lhd (show(w9.setCell ⟨c.B,5,none⟩ (.slice (some ⟨gg,0,none⟩) (s.D.length+1) cap9)).ownsRow c.w0.heap.size 58 4 (.slice (some ⟨W.heap.size+1,0,none⟩) 1 1) 1 [.string ⟨#[]⟩,.int .i64 0,.int .i64 0,.int .i64 0]from zjs HR9.out hp9 (by decide) 5 (.slice (some ⟨gg,0,none⟩) (s.D.length+1) cap9));have p5:w9.cell? ⟨c.B,5,none⟩=some (.slice aD s.D.length cD):=HP9.out.cell (j:=5) rfl;have f5:w9.frozen? ⟨c.B,5,none⟩=false:=HP9.out.free (j:=5) (by simp[zdR]);have s9:=HSA.out _ HX9.out;have s10:=HSA.out _ (HX9.out.setFar (show c.B≠bx from by have:=HLO.out.2;have:=HLT.out.1;omega) 5 (.slice (some ⟨gg,0,none⟩) (s.D.length+1) cap9));have HXW:=lhd ((hwA.grown hg9 (by simp;omega) (fun q=>by have:=(HDL.out _ q.symm).2;omega)).setFar (show c.B≠W.heap.size from by have:=HLO.out.2;omega) 5 (.slice (some ⟨gg,0,none⟩) (s.D.length+1) cap9));clear ho9 hg9 hat hlt9 hp9;refine hK.out _ _ s9 (fun hHeld=>?_);clear hK;try simp only[tkS]
   refine tkH 9 hHeld (v:=?_) ?_ ?_;rotate_left
   ·intro w h;(try dsimp only at h);go_simp;all_goals with_reducible rfl
   simp only[tkS];refine tkH 10 hHeld (v:=?_) ?_ ?_;rotate_left
   ·intro w h;(try dsimp only at h);go_simp;all_goals with_reducible rfl
   simp only[tkS];refine tkH 11 hHeld (v:=?_) ?_ ?_;rotate_left
   ·intro w h;(try dsimp only at h);go_simp;all_goals with_reducible rfl
   simp only[tkS];refine oneH 12 (fun K hK=>?_);go_simp;refine hK.out _ _ s10 (fun hHeld=>?_);clear hK;try simp only[tkS]
   refine wpAnyH_done (by kernel_rfl) ?_ _;clear hHeld s9 s10 p5 f5;generalize w9.setCell ⟨c.B,5,none⟩ (.slice (some ⟨gg,0,none⟩) (s.D.length+1) cap9)=w10' at*;have x0:=HXW.out.cell (j:=0) rfl;have x1:=HXW.out.cell (j:=1) rfl;have x2:=HXW.out.cell (j:=2) rfl;have x3:=HXW.out.cell (j:=3) rfl;have r0:=(zjo HR10.out).cell (j:=0) rfl;have f0:=(zjo HR10.out).free (j:=0) (by simp);have r1:=(zjo HR10.out).cell (j:=1) rfl;have f1:=(zjo HR10.out).free (j:=1) (by simp);have r2:=(zjo HR10.out).cell (j:=2) rfl;have f2:=(zjo HR10.out).free (j:=2) (by simp);have r3:=(zjo HR10.out).cell (j:=3) rfl;have f3:=(zjo HR10.out).free (j:=3) (by simp);go_wp2_with fail;have HF:=lhd (DPar.far4 HE9.out HKP.out (Nat.le_succ _) HR10.out (.string (bsB tx)) (.int .i64 o1) (.int .i64 o2) (.int .i64 o3));have HF2:=lhd (row4 HR10.out (.string (bsB tx)) (.int .i64 o1) (.int .i64 o2) (.int .i64 o3));have HEQ:=lhd hE;go_region
   go_wp2_with fail;have hrr:=HF2.out;refine bodyPost_ret (v:=.tuple #[.int .i64 0,.agg #[.string (bsB tx),.int .i64 o1,.int .i64 o2,.int .i64 o3]]) (by simp[results,Tryz.results142,go_sem,hrr.cell (j:=0) rfl,hrr.cell (j:=1) rfl,hrr.cell (j:=2) rfl,hrr.cell (j:=3) rfl]) rfl ?_;exact⟨by rw[HEQ.out],by rw[HEQ.out];exact⟨_,_,_,HF.out⟩⟩
 |none=>
  have HM:=lhd (show zc7 s (tx,o1,o2,o3) cw=_ by rw[HM.out,hkn]);have HKN:=lhd hkn
  have hlkf:∀V,DX c s vS (.slice aD s.D.length cD) vr W tx o1 o2 o3 b o (m+1) cap cw ty bt bx (dclC ⟨nm,ty,s.now,0,rg,mb,lb,t2,kd,wd⟩) V→(Instr.lookup 87 (.map (some c.cb)) (.string (bsB t2)) true).run Tryz.prog V=.ok (.tuple #[dclZ,.bool false]) V:=fun V h=>by
   have:=zdo h.q.h.g.s (x:=t2) (by omega);unfold cF at this;rw[hkn]at this;exact this
  clear hkn;have HS:=lhd (show ∀V,Below w12.heap.size w12 V→V.cell? ⟨c.B,10,none⟩=some (.map (some c.cb))∧V.cell? ⟨bx,7,none⟩=some (.string (bsB t2))∧(Instr.lookup 87 (.map (some c.cb)) (.string (bsB t2)) true).run Tryz.prog V=.ok (.tuple #[.agg #[.string ⟨#[]⟩,.int .i64 0,.int .i64 0,.int .i64 0,.bool false,.int .i64 0,.int .i64 0,.string ⟨#[]⟩,.int .i64 0,.int .i64 0],.bool false]) V from fun V hV=>⟨(HX12.out.later hV).q.h.row.cell (j:=10) rfl,(zjo (HX12.out.later hV).x).cell (j:=7) rfl,hlkf V (HX12.out.later hV)⟩);clear hlkf;have hbz:∀C,Below w12.heap.size w12 (w12.alloc (.cells C 50)).drew:=fun C=>((Below.refl _ _).alloc (Nat.le_refl _) _).drew;have HX13:=lhd (HX12.out.later (hbz #[.string ⟨#[]⟩,.int .i64 0,.int .i64 0,.int .i64 0,.bool false,.int .i64 0,.int .i64 0,.string ⟨#[]⟩,.int .i64 0,.int .i64 0]));have HO13:=lhd (show zaq (w12.alloc (.cells #[.string ⟨#[]⟩,.int .i64 0,.int .i64 0,.int .i64 0,.bool false,.int .i64 0,.int .i64 0,.string ⟨#[]⟩,.int .i64 0,.int .i64 0] 50)).drew w12.heap.size (#[.string ⟨#[]⟩,.int .i64 0,.int .i64 0,.int .i64 0,.bool false,.int .i64 0,.int .i64 0,.string ⟨#[]⟩,.int .i64 0,.int .i64 0]).toList from zaq.fresh w12 #[.string ⟨#[]⟩,.int .i64 0,.int .i64 0,.int .i64 0,.bool false,.int .i64 0,.int .i64 0,.string ⟨#[]⟩,.int .i64 0,.int .i64 0] 50);have HZ13:=lhd (show w12.heap.size<(w12.alloc (.cells #[.string ⟨#[]⟩,.int .i64 0,.int .i64 0,.int .i64 0,.bool false,.int .i64 0,.int .i64 0,.string ⟨#[]⟩,.int .i64 0,.int .i64 0] 50)).drew.heap.size by show _<(w12.alloc _).heap.size;simp);refine wp_region_held_drew (S:=fun w'=>w'.cell? ⟨c.B,10,none⟩=some (.map (some c.cb))∧w'.cell? ⟨bx,7,none⟩=some (.string (bsB t2))∧(Instr.lookup 87 (.map (some c.cb)) (.string (bsB t2)) true).run Tryz.prog w'=.ok (.tuple #[.agg #[.string ⟨#[]⟩,.int .i64 0,.int .i64 0,.int .i64 0,.bool false,.int .i64 0,.int .i64 0,.string ⟨#[]⟩,.int .i64 0,.int .i64 0],.bool false]) w') (by kernel_rfl) (by first|exact HS.out _ (Below.refl _ _)|exact HS.out _ (Below.refl _ _).drew) (fun hHeld=>?_);refine tkH 0 hHeld (v:=?_) ?_ ?_;rotate_left
  ·intro w h;(try dsimp only at h);go_simp;all_goals with_reducible rfl
  simp only[tkS];refine tkH 1 hHeld (v:=?_) ?_ ?_;rotate_left
  ·intro w h;(try dsimp only at h);go_simp;all_goals with_reducible rfl
  simp only[tkS];refine tkH 2 hHeld (v:=?_) ?_ ?_;rotate_left
  ·intro w h;(try dsimp only at h);go_simp;all_goals with_reducible rfl
  simp only[tkS];refine tkH 3 hHeld (v:=?_) ?_ ?_;rotate_left
  ·intro w h;(try dsimp only at h);go_simp;all_goals with_reducible rfl
  simp only[tkS];refine tkH 4 hHeld (v:=?_) ?_ ?_;rotate_left
  ·intro w h;(try dsimp only at h);go_simp;all_goals with_reducible rfl
  simp only[tkS];refine tkH 5 hHeld (v:=?_) ?_ ?_;rotate_left
  ·intro w h;(try dsimp only at h);go_simp;all_goals with_reducible rfl
  simp only[tkS];refine tkH 6 hHeld (v:=?_) ?_ ?_;rotate_left
  ·intro w h;(try dsimp only at h);go_simp;all_goals with_reducible rfl
  simp only[tkS];refine tkH 7 hHeld (v:=?_) ?_ ?_;rotate_left
  ·intro w h;(try dsimp only at h);go_simp;all_goals with_reducible rfl
  simp only[tkS];refine tkH 8 hHeld (v:=?_) ?_ ?_;rotate_left
  ·intro w h;(try dsimp only at h);go_simp;all_goals with_reducible rfl
  simp only[tkS];refine tkH 9 hHeld (v:=?_) ?_ ?_;rotate_left
  ·intro w h;(try dsimp only at h);go_simp;all_goals with_reducible rfl
  simp only[tkS];refine oneH 10 (fun K hK=>?_);go_simp;refine hK.out _ _ (HS.out _ (hbz _)) (fun hHeld=>?_);clear hK;try simp only[tkS]
  refine oneH 11 (fun K hK=>?_);go_simp;refine hK.out _ _ (HS.out _ (hbz _)) (fun hHeld=>?_);clear hK;try simp only[tkS]
  refine oneH 12 (fun K hK=>?_);go_simp;refine hK.out _ _ (HS.out _ (hbz _)) (fun hHeld=>?_);clear hK;try simp only[tkS]
  refine wpAnyH_done (by kernel_rfl) ?_ _;clear hHeld hbz HS;generalize (w12.alloc (.cells #[.string ⟨#[]⟩,.int .i64 0,.int .i64 0,.int .i64 0,.bool false,.int .i64 0,.int .i64 0,.string ⟨#[]⟩,.int .i64 0,.int .i64 0] 50)).drew=w13 at*;clear HO13 HZ13;have HCF:=lhd (zbD bt bx (dupV ⟨nm,ty,s.now,0,rg,mb,lb,t2,kd,wd⟩) _ s.D w13 (SlR.of_own HX13.out.q.h.D) (fun y _ V hV=>zbQ bt bx ty ⟨nm,ty,s.now,0,rg,mb,lb,t2,kd,wd⟩ y V (zjo (HX13.out.later hV).x) (HX13.out.later hV).lt.2.2 ((HX13.out.later hV).t.cell (j:=0) rfl) rfl));have c5:w13.cell? ⟨c.B,5,none⟩=some (.slice aD s.D.length cD):=HX13.out.q.h.row.cell (j:=5) rfl;cases hany:s.D.any (dupV ⟨nm,ty,s.now,0,rg,mb,lb,t2,kd,wd⟩)
  rotate_left
  ·have hE:zcX s (tx,o1,o2,o3) cw=(s,5,(t3,p31,p32,p33)):=zcZ (HM.out.trans (if_pos hany));rw[hany]at HCF;clear hany;go_wp2_with fail;refine HCF.out.mono ?_;rintro e w14 ⟨rfl,hb14⟩;have HX14:=lhd (HX13.out.later hb14);clear hb14 c5;obtain⟨d0,d1,d2,d3⟩:=zpM hm (HX14.out.q).sl (j:=3) (by omega) ha3 (p:=(o+12)) (by omega);have r0:=(zjo (HX14.out.q).rr).cell (j:=0) rfl;have f0:=(zjo (HX14.out.q).rr).free (j:=0) (by simp);have r1:=(zjo (HX14.out.q).rr).cell (j:=1) rfl;have f1:=(zjo (HX14.out.q).rr).free (j:=1) (by simp);have r2:=(zjo (HX14.out.q).rr).cell (j:=2) rfl;have f2:=(zjo (HX14.out.q).rr).free (j:=2) (by simp);have r3:=(zjo (HX14.out.q).rr).cell (j:=3) rfl;have f3:=(zjo (HX14.out.q).rr).free (j:=3) (by simp);go_wp2_with fail;have HF:=lhd (DPar.far4 HX14.out.q.h HKP.out (Nat.le_succ _) HX14.out.q.rr (.string (bsB t3)) (.int .i64 p31) (.int .i64 p32) (.int .i64 p33));have HF2:=lhd (row4 HX14.out.q.rr (.string (bsB t3)) (.int .i64 p31) (.int .i64 p32) (.int .i64 p33));have HEQ:=lhd hE;go_region
   go_wp2_with fail;have hrr:=HF2.out;refine bodyPost_ret (v:=.tuple #[.int .i64 5,.agg #[.string (bsB t3),.int .i64 p31,.int .i64 p32,.int .i64 p33]]) (by simp[results,Tryz.results142,go_sem,hrr.cell (j:=0) rfl,hrr.cell (j:=1) rfl,hrr.cell (j:=2) rfl,hrr.cell (j:=3) rfl]) rfl ?_;exact⟨by rw[HEQ.out],by rw[HEQ.out];exact⟨_,_,_,HF.out⟩⟩
  have HAN:=lhd (HM.out.trans (if_neg (by rw[hany];simp)));rw[hany]at HCF;clear hany;go_wp2_with fail;refine HCF.out.mono ?_;rintro e w14 ⟨rfl,hb14⟩;have HX14:=lhd (HX13.out.later hb14);clear hb14 c5 HX13 HCF HX12;have r0:=(zjo (HX14.out.q).rr).cell (j:=0) rfl;have f0:=(zjo (HX14.out.q).rr).free (j:=0) (by simp);have r1:=(zjo (HX14.out.q).rr).cell (j:=1) rfl;have f1:=(zjo (HX14.out.q).rr).free (j:=1) (by simp);have r2:=(zjo (HX14.out.q).rr).cell (j:=2) rfl;have f2:=(zjo (HX14.out.q).rr).free (j:=2) (by simp);have r3:=(zjo (HX14.out.q).rr).cell (j:=3) rfl;have f3:=(zjo (HX14.out.q).rr).free (j:=3) (by simp);have x0:=(HX14.out.q).xw.cell (j:=0) rfl;have x1:=(HX14.out.q).xw.cell (j:=1) rfl;have x2:=(HX14.out.q).xw.cell (j:=2) rfl;have x3:=(HX14.out.q).xw.cell (j:=3) rfl;have hgm0:zav Tryz.prog 9 w14 c.cb (zb5 s.D []) (cF s.D):=HX14.out.q.h.g;have hln:=hgm0.len (t:=87) Tryz.underlying87 3;have c5:w14.cell? ⟨c.B,5,none⟩=some (.slice aD s.D.length cD):=HX14.out.q.h.row.cell (j:=5) rfl;have c10:w14.cell? ⟨c.B,10,none⟩=some (.map (some c.cb)):=HX14.out.q.h.row.cell (j:=10) rfl;by_cases h128:128≤s.D.length
  ·have hE:zcX s (tx,o1,o2,o3) cw=(s,9,(tx,o1,o2,o3)):=zcZ (HAN.out.trans (if_pos (.inl h128)));go_wp2_with fail;have HF:=lhd (DPar.far4 HX14.out.q.h HKP.out (Nat.le_succ _) HX14.out.q.rr (.string (bsB tx)) (.int .i64 o1) (.int .i64 o2) (.int .i64 o3));have HF2:=lhd (row4 HX14.out.q.rr (.string (bsB tx)) (.int .i64 o1) (.int .i64 o2) (.int .i64 o3));have HEQ:=lhd hE;go_region
   go_wp2_with fail;have hrr:=HF2.out;refine bodyPost_ret (v:=.tuple #[.int .i64 9,.agg #[.string (bsB tx),.int .i64 o1,.int .i64 o2,.int .i64 o3]]) (by simp[results,Tryz.results142,go_sem,hrr.cell (j:=0) rfl,hrr.cell (j:=1) rfl,hrr.cell (j:=2) rfl,hrr.cell (j:=3) rfl]) rfl ?_;exact⟨by rw[HEQ.out],by rw[HEQ.out];exact⟨_,_,_,HF.out⟩⟩
  by_cases h64:64≤zb5 s.D []
  ·have hE:zcX s (tx,o1,o2,o3) cw=(s,9,(tx,o1,o2,o3)):=zcZ (HAN.out.trans (if_pos (.inr h64)));go_wp2_with fail;have HF:=lhd (DPar.far4 HX14.out.q.h HKP.out (Nat.le_succ _) HX14.out.q.rr (.string (bsB tx)) (.int .i64 o1) (.int .i64 o2) (.int .i64 o3));have HF2:=lhd (row4 HX14.out.q.rr (.string (bsB tx)) (.int .i64 o1) (.int .i64 o2) (.int .i64 o3));have HEQ:=lhd hE;go_region
   go_wp2_with fail;have hrr:=HF2.out;refine bodyPost_ret (v:=.tuple #[.int .i64 9,.agg #[.string (bsB tx),.int .i64 o1,.int .i64 o2,.int .i64 o3]]) (by simp[results,Tryz.results142,go_sem,hrr.cell (j:=0) rfl,hrr.cell (j:=1) rfl,hrr.cell (j:=2) rfl,hrr.cell (j:=3) rfl]) rfl ?_;exact⟨by rw[HEQ.out],by rw[HEQ.out];exact⟨_,_,_,HF.out⟩⟩
  have hE:zcX s (tx,o1,o2,o3) cw=({s with D:=s.D++ [⟨nm,ty,s.now,0,rg,mb,lb,t2,kd,wd⟩]},0,(tx,o1,o2,o3)):=by
   rw[zc3 (HAN.out.trans (if_neg (by omega))),HDX.out]
  have HXD:=lhd (HX14.out.later (Below.refl _ _).drew);have hgm:zav Tryz.prog 9 w14.drew c.cb (zb5 s.D []) (cF s.D):=HXD.out.q.h.g;have hn7:(bsB t2).size≤maxLen:=by rw[zbk];unfold maxLen;omega
  obtain⟨w15,r4,h4,q4⟩:=zav.put (t:=87) hgm Tryz.underlying9 Tryz.underlying87 (by unfold maxLen;omega) (bsB t2) hn7 (by rw[zbh];show(knD s.D t2).map _=none;rw[HKN.out];rfl) (dclV ⟨nm,ty,s.now,0,rg,mb,lb,t2,kd,wd⟩);rw[zbh]at h4;have hp15:=zjk hgm q4 HXD.out.q.h.p;have hD15:=zjk hgm q4 HXD.out.q.h.D;have hx15:=zjk hgm q4 HXD.out.x;have hr15:=zjk hgm q4 HXD.out.q.rr
  have hw15:=HXD.out.q.xw.grown q4 (show W.heap.size<w14.drew.heap.size from Nat.lt_of_succ_lt HX14.out.q.zz) (fun e=>by
   injection e with e;obtain⟨C,T,fr,hC⟩:=zje HXD.out.q.xw;rw[e]at hC;exact hgm.s.no_cells hC)
  have hal2:Below w15.heap.size w15 (w15.drew.alloc (.cells #[.string (bsB nm),.int .i64 ty,.int .i64 s.now,.int .i64 0,.bool rg,.int .i64 mb,.int .i64 lb,.string (bsB t2),.int .i64 kd,.int .i64 wd] 50)):=((Below.refl _ _).drew).alloc (Nat.le_refl _) _;have hpA:=zjb hp15 hal2;have hDA:=zjb hD15 hal2;have hxA:=zjb hx15 hal2;have hrA:=zjb hr15 hal2;have hwA:=hw15.below hal2 (by have:=q4.size;have:=HX14.out.q.zz;have e:w14.drew.heap.size=w14.heap.size:=rfl;omega);have HMA:=lhd (h4.drew.alloc (.cells #[.string (bsB nm),.int .i64 ty,.int .i64 s.now,.int .i64 0,.bool rg,.int .i64 mb,.int .i64 lb,.string (bsB t2),.int .i64 kd,.int .i64 wd] 50));have HGA:=lhd (show w14.drew.grownBy (w15.drew.alloc (.cells #[.string (bsB nm),.int .i64 ty,.int .i64 s.now,.int .i64 0,.bool rg,.int .i64 mb,.int .i64 lb,.string (bsB t2),.int .i64 kd,.int .i64 wd] 50)) (some c.cb)from q4.trans (zeB (World.grownBy_alloc w15.drew (.cells #[.string (bsB nm),.int .i64 ty,.int .i64 s.now,.int .i64 0,.bool rg,.int .i64 mb,.int .i64 lb,.string (bsB t2),.int .i64 kd,.int .i64 wd] 50) (some c.cb))));have c5:w15.cell? ⟨c.B,5,none⟩=some (.slice aD s.D.length cD):=(zjo hp15).cell (j:=5) rfl;have a5:(w15.drew.alloc (.cells #[.string (bsB nm),.int .i64 ty,.int .i64 s.now,.int .i64 0,.bool rg,.int .i64 mb,.int .i64 lb,.string (bsB t2),.int .i64 kd,.int .i64 wd] 50)).cell? ⟨c.B,5,none⟩=some (.slice aD s.D.length cD):=(zjo hpA).cell (j:=5) rfl;obtain⟨i0,hi,iz0,iz1,iz2⟩:=info_parts (P:=Tryz.prog) zcH;have hbs:c.w0.heap.size≤w15.heap.size:=Nat.le_trans HXD.out.q.h.b.size q4.size;have HSA:=lhd (show ∀V,zaq V bx [.string (bsB nm),.int .i64 ty,.int .i64 s.now,.int .i64 0,.bool rg,.int .i64 mb,.int .i64 lb,.string (bsB t2),.int .i64 kd,.int .i64 wd]→V.cell? ⟨bx,0,none⟩=some (.string (bsB nm))∧V.cell? ⟨bx,1,none⟩=some (.int .i64 ty)∧V.cell? ⟨bx,2,none⟩=some (.int .i64 s.now)∧V.cell? ⟨bx,3,none⟩=some (.int .i64 0)∧V.cell? ⟨bx,4,none⟩=some (.bool rg)∧V.cell? ⟨bx,5,none⟩=some (.int .i64 mb)∧V.cell? ⟨bx,6,none⟩=some (.int .i64 lb)∧V.cell? ⟨bx,7,none⟩=some (.string (bsB t2))∧V.cell? ⟨bx,8,none⟩=some (.int .i64 kd)∧V.cell? ⟨bx,9,none⟩=some (.int .i64 wd)from fun V h=>⟨h.cell (j:=0) rfl,h.cell (j:=1) rfl,h.cell (j:=2) rfl,h.cell (j:=3) rfl,h.cell (j:=4) rfl,h.cell (j:=5) rfl,h.cell (j:=6) rfl,h.cell (j:=7) rfl,h.cell (j:=8) rfl,h.cell (j:=9) rfl⟩);have s14:=HSA.out _ (zjo HX14.out.x);have s15:=HSA.out _ (zjo hx15);have sA:=HSA.out _ (zjo hxA);have HLT:=lhd (And.intro HX14.out.lt (Nat.lt_of_lt_of_le HX14.out.lt.2.2 (Nat.le_trans q4.size hal2.size)));have hwz:=Nat.lt_of_lt_of_le HX14.out.q.zz q4.size;have HP15:=lhd hp15;have HB15:=lhd (zjo hx15);clear hal2 h4 hp15 hD15 hx15 hr15 hw15 q4 hgm;go_wp2_with fail;refine wp_region_held_drew (S:=fun w'=>w'.cell? ⟨c.B,10,none⟩=some (.map (some c.cb))∧w'.cell? ⟨bx,0,none⟩=some (.string (bsB nm))∧w'.cell? ⟨bx,1,none⟩=some (.int .i64 ty)∧w'.cell? ⟨bx,2,none⟩=some (.int .i64 s.now)∧w'.cell? ⟨bx,3,none⟩=some (.int .i64 0)∧w'.cell? ⟨bx,4,none⟩=some (.bool rg)∧w'.cell? ⟨bx,5,none⟩=some (.int .i64 mb)∧w'.cell? ⟨bx,6,none⟩=some (.int .i64 lb)∧w'.cell? ⟨bx,7,none⟩=some (.string (bsB t2))∧w'.cell? ⟨bx,8,none⟩=some (.int .i64 kd)∧w'.cell? ⟨bx,9,none⟩=some (.int .i64 wd)) (by kernel_rfl) ⟨c10,s14⟩ (fun hHeld=>?_);refine tkH 0 hHeld (v:=?_) ?_ ?_;rotate_left
  ·intro w h;(try dsimp only at h);go_simp;all_goals with_reducible rfl
  simp only[tkS];refine tkH 1 hHeld (v:=?_) ?_ ?_;rotate_left
  ·intro w h;(try dsimp only at h);go_simp;all_goals with_reducible rfl
  simp only[tkS];refine tkH 2 hHeld (v:=?_) ?_ ?_;rotate_left
  ·intro w h;(try dsimp only at h);go_simp;all_goals with_reducible rfl
  simp only[tkS];refine tkH 3 hHeld (v:=?_) ?_ ?_;rotate_left
  ·intro w h;(try dsimp only at h);go_simp;all_goals with_reducible rfl
  simp only[tkS];refine tkH 4 hHeld (v:=?_) ?_ ?_;rotate_left
  ·intro w h;(try dsimp only at h);go_simp;all_goals with_reducible rfl
  simp only[tkS];refine tkH 5 hHeld (v:=?_) ?_ ?_;rotate_left
  ·intro w h;(try dsimp only at h);go_simp;all_goals with_reducible rfl
  simp only[tkS];refine tkH 6 hHeld (v:=?_) ?_ ?_;rotate_left
  ·intro w h;(try dsimp only at h);go_simp;all_goals with_reducible rfl
  simp only[tkS];refine oneH 7 (fun K hK=>?_);go_simp;refine hK.out _ _ (And.intro ((zjo HP15.out).cell (j:=10) rfl) s15) (fun hHeld=>?_);clear hK;try simp only[tkS]
  refine wpAnyH_done (by kernel_rfl) ?_ _;clear hHeld c10 s14 hln r4;go_wp2_with fail;refine wp_region_held_drew (S:=fun w'=>w'.cell? ⟨bx,0,none⟩=some (.string (bsB nm))∧w'.cell? ⟨bx,1,none⟩=some (.int .i64 ty)∧w'.cell? ⟨bx,2,none⟩=some (.int .i64 s.now)∧w'.cell? ⟨bx,3,none⟩=some (.int .i64 0)∧w'.cell? ⟨bx,4,none⟩=some (.bool rg)∧w'.cell? ⟨bx,5,none⟩=some (.int .i64 mb)∧w'.cell? ⟨bx,6,none⟩=some (.int .i64 lb)∧w'.cell? ⟨bx,7,none⟩=some (.string (bsB t2))∧w'.cell? ⟨bx,8,none⟩=some (.int .i64 kd)∧w'.cell? ⟨bx,9,none⟩=some (.int .i64 wd)) (by kernel_rfl) (HSA.out _ (by first|exact zjo HXB.out.x|exact HB15.out)) (fun hHeld=>?_);refine tkH 0 hHeld (v:=?_) ?_ ?_;rotate_left
  ·intro w h;(try dsimp only at h);go_simp;all_goals with_reducible rfl
  simp only[tkS];refine tkH 1 hHeld (v:=?_) ?_ ?_;rotate_left
  ·intro w h;(try dsimp only at h);go_simp;all_goals with_reducible rfl
  simp only[tkS];refine tkH 2 hHeld (v:=?_) ?_ ?_;rotate_left
  ·intro w h;(try dsimp only at h);go_simp;all_goals with_reducible rfl
  simp only[tkS];refine tkH 3 hHeld (v:=?_) ?_ ?_;rotate_left
  ·intro w h;(try dsimp only at h);go_simp;all_goals with_reducible rfl
  simp only[tkS];refine tkH 4 hHeld (v:=?_) ?_ ?_;rotate_left
  ·intro w h;(try dsimp only at h);go_simp;all_goals with_reducible rfl
  simp only[tkS];refine tkH 6 hHeld (v:=?_) ?_ ?_;rotate_left
  ·intro w h;(try dsimp only at h);go_simp;all_goals with_reducible rfl
  simp only[tkS];refine wpAnyH_ready (rs:=[5,7]) (by kernel_rfl) (by simp) ?_;refine AllReadyH.cons (o:=_) rfl (fun K hK=>?_) (AllReadyH.cons (o:=_) rfl (fun K hK=>?_) AllReadyH.nil)
  ·go_simp;refine hK.out _ _ (HSA.out _ (by first|exact zjo HXB.out.x|exact HB15.out)) (fun hHeld=>?_);clear hK;try simp only[tkS]
   refine oneH 7 (fun K hK=>?_);go_simp;refine hK.out _ _ sA (fun hHeld=>?_);clear hK;try simp only[tkS]
   refine oneH 8 (fun K hK=>?_);refine step_append_lies _ (by rfl) _ _ _ (by rfl) c.w0.heap.size 50 i0 _ 10 96 Tryz.underlying23 hi iz0 iz1 iz2 rfl (by omega) (.slice aD s.D.length cD) s.D.length (dcls s.D) (by rfl) (by exact hDA) ⟨w15.heap.size,0,none⟩ 1 1 [.string (bsB nm),.int .i64 ty,.int .i64 s.now,.int .i64 0,.bool rg,.int .i64 mb,.int .i64 lb,.string (bsB t2),.int .i64 kd,.int .i64 wd] (by rfl) (by rfl) (World.news_of_block (cs:=#[.string (bsB nm),.int .i64 ty,.int .i64 s.now,.int .i64 0,.bool rg,.int .i64 mb,.int .i64 lb,.string (bsB t2),.int .i64 kd,.int .i64 wd]) (t:=50) (fr:=(0,0)) (by exact heap_alloc_new _ _)) (by simp[Value.oneCell']) (by omega) (by unfold maxLen;omega) (by omega) (by simp;omega) (w15.heap.size+1) (by simp) ?_;intro gg cap9 w9 ho9 hg9 hat hlt9;have HE9:=lhd (show DPar (c.from W) {s with D:=s.D++ [⟨nm,ty,s.now,0,rg,mb,lb,t2,kd,wd⟩]} vS _ vr (w9.setCell ⟨c.B,5,none⟩ (.slice (some ⟨gg,0,none⟩) (s.D.length+1) cap9))from(DPar.addN (x:=⟨nm,ty,s.now,0,rg,mb,lb,t2,kd,wd⟩) HXD.out.q.h HKN.out HMA.out HGA.out ho9 hg9));have hp9:=hpA.kept hg9 (zjl hpA hDA (by decide));have HP9:=lhd (zjo hp9);have HX9:=lhd ((zjo hxA).grown hg9 HLT.out.2 (fun q=>HDN.out q.symm));have HR9:=lhd (hrA.kept hg9 (zjl hrA hDA (by decide)));have HR10:=lhd (show(w9.setCell ⟨c.B,5,none⟩ (.slice (some ⟨gg,0,none⟩) (s.D.length+1) cap9)).ownsRow c.w0.heap.size 58 4 (.slice (some ⟨W.heap.size+1,0,none⟩) 1 1) 1 [.string ⟨#[]⟩,.int .i64 0,.int .i64 0,.int .i64 0]from zjs HR9.out hp9 (by decide) 5 (.slice (some ⟨gg,0,none⟩) (s.D.length+1) cap9));have p5:w9.cell? ⟨c.B,5,none⟩=some (.slice aD s.D.length cD):=HP9.out.cell (j:=5) rfl;have f5:w9.frozen? ⟨c.B,5,none⟩=false:=HP9.out.free (j:=5) (by simp[zdR]);have s9:=HSA.out _ HX9.out;have s10:=HSA.out _ (HX9.out.setFar (show c.B≠bx from by have:=HLO.out.2;have:=HLT.out.1;omega) 5 (.slice (some ⟨gg,0,none⟩) (s.D.length+1) cap9));have HXW:=lhd ((hwA.grown hg9 (by simp;omega) (fun q=>by have:=(HDL.out _ q.symm).2;omega)).setFar (show c.B≠W.heap.size from by have:=HLO.out.2;omega) 5 (.slice (some ⟨gg,0,none⟩) (s.D.length+1) cap9));clear ho9 hg9 hat hlt9 hp9;refine hK.out _ _ s9 (fun hHeld=>?_);clear hK;try simp only[tkS]
   refine tkH 9 hHeld (v:=?_) ?_ ?_;rotate_left
   ·intro w h;(try dsimp only at h);go_simp;all_goals with_reducible rfl
   simp only[tkS];refine tkH 10 hHeld (v:=?_) ?_ ?_;rotate_left
   ·intro w h;(try dsimp only at h);go_simp;all_goals with_reducible rfl
   simp only[tkS];refine tkH 11 hHeld (v:=?_) ?_ ?_;rotate_left
   ·intro w h;(try dsimp only at h);go_simp;all_goals with_reducible rfl
   simp only[tkS];refine oneH 12 (fun K hK=>?_);go_simp;refine hK.out _ _ s10 (fun hHeld=>?_);clear hK;try simp only[tkS]
   refine wpAnyH_done (by kernel_rfl) ?_ _;clear hHeld s9 s10 p5 f5;generalize w9.setCell ⟨c.B,5,none⟩ (.slice (some ⟨gg,0,none⟩) (s.D.length+1) cap9)=w10' at*;have x0:=HXW.out.cell (j:=0) rfl;have x1:=HXW.out.cell (j:=1) rfl;have x2:=HXW.out.cell (j:=2) rfl;have x3:=HXW.out.cell (j:=3) rfl;have r0:=(zjo HR10.out).cell (j:=0) rfl;have f0:=(zjo HR10.out).free (j:=0) (by simp);have r1:=(zjo HR10.out).cell (j:=1) rfl;have f1:=(zjo HR10.out).free (j:=1) (by simp);have r2:=(zjo HR10.out).cell (j:=2) rfl;have f2:=(zjo HR10.out).free (j:=2) (by simp);have r3:=(zjo HR10.out).cell (j:=3) rfl;have f3:=(zjo HR10.out).free (j:=3) (by simp);go_wp2_with fail;have HF:=lhd (DPar.far4 HE9.out HKP.out (Nat.le_succ _) HR10.out (.string (bsB tx)) (.int .i64 o1) (.int .i64 o2) (.int .i64 o3));have HF2:=lhd (row4 HR10.out (.string (bsB tx)) (.int .i64 o1) (.int .i64 o2) (.int .i64 o3));have HEQ:=lhd hE;go_region
   go_wp2_with fail;have hrr:=HF2.out;refine bodyPost_ret (v:=.tuple #[.int .i64 0,.agg #[.string (bsB tx),.int .i64 o1,.int .i64 o2,.int .i64 o3]]) (by simp[results,Tryz.results142,go_sem,hrr.cell (j:=0) rfl,hrr.cell (j:=1) rfl,hrr.cell (j:=2) rfl,hrr.cell (j:=3) rfl]) rfl ?_;exact⟨by rw[HEQ.out],by rw[HEQ.out];exact⟨_,_,_,HF.out⟩⟩
  ·go_simp;refine hK.out _ _ sA (fun hHeld=>?_);clear hK;try simp only[tkS]
   have a5:=zbz c5 (.cells #[.string (bsB nm),.int .i64 ty,.int .i64 s.now,.int .i64 0,.bool rg,.int .i64 mb,.int .i64 lb,.string (bsB t2),.int .i64 kd,.int .i64 wd] 50);refine oneH 5 (fun K hK=>?_);go_simp;refine hK.out _ _ sA (fun hHeld=>?_);clear hK;try simp only[tkS]
   refine oneH 8 (fun K hK=>?_);refine step_append_lies _ (by rfl) _ _ _ (by rfl) c.w0.heap.size 50 i0 _ 10 96 Tryz.underlying23 hi iz0 iz1 iz2 rfl (by omega) (.slice aD s.D.length cD) s.D.length (dcls s.D) (by rfl) (by exact hDA) ⟨w15.heap.size,0,none⟩ 1 1 [.string (bsB nm),.int .i64 ty,.int .i64 s.now,.int .i64 0,.bool rg,.int .i64 mb,.int .i64 lb,.string (bsB t2),.int .i64 kd,.int .i64 wd] (by rfl) (by rfl) (World.news_of_block (cs:=#[.string (bsB nm),.int .i64 ty,.int .i64 s.now,.int .i64 0,.bool rg,.int .i64 mb,.int .i64 lb,.string (bsB t2),.int .i64 kd,.int .i64 wd]) (t:=50) (fr:=(0,0)) (by exact heap_alloc_new _ _)) (by simp[Value.oneCell']) (by omega) (by unfold maxLen;omega) (by omega) (by simp;omega) (w15.heap.size+1) (by simp) ?_;intro gg cap9 w9 ho9 hg9 hat hlt9;have HE9:=lhd (show DPar (c.from W) {s with D:=s.D++ [⟨nm,ty,s.now,0,rg,mb,lb,t2,kd,wd⟩]} vS _ vr (w9.setCell ⟨c.B,5,none⟩ (.slice (some ⟨gg,0,none⟩) (s.D.length+1) cap9))from(DPar.addN (x:=⟨nm,ty,s.now,0,rg,mb,lb,t2,kd,wd⟩) HXD.out.q.h HKN.out HMA.out HGA.out ho9 hg9));have hp9:=hpA.kept hg9 (zjl hpA hDA (by decide));have HP9:=lhd (zjo hp9);have HX9:=lhd ((zjo hxA).grown hg9 HLT.out.2 (fun q=>HDN.out q.symm));have HR9:=lhd (hrA.kept hg9 (zjl hrA hDA (by decide)));have HR10:=lhd (show(w9.setCell ⟨c.B,5,none⟩ (.slice (some ⟨gg,0,none⟩) (s.D.length+1) cap9)).ownsRow c.w0.heap.size 58 4 (.slice (some ⟨W.heap.size+1,0,none⟩) 1 1) 1 [.string ⟨#[]⟩,.int .i64 0,.int .i64 0,.int .i64 0]from zjs HR9.out hp9 (by decide) 5 (.slice (some ⟨gg,0,none⟩) (s.D.length+1) cap9));have p5:w9.cell? ⟨c.B,5,none⟩=some (.slice aD s.D.length cD):=HP9.out.cell (j:=5) rfl;have f5:w9.frozen? ⟨c.B,5,none⟩=false:=HP9.out.free (j:=5) (by simp[zdR]);have s9:=HSA.out _ HX9.out;have s10:=HSA.out _ (HX9.out.setFar (show c.B≠bx from by have:=HLO.out.2;have:=HLT.out.1;omega) 5 (.slice (some ⟨gg,0,none⟩) (s.D.length+1) cap9));have HXW:=lhd ((hwA.grown hg9 (by simp;omega) (fun q=>by have:=(HDL.out _ q.symm).2;omega)).setFar (show c.B≠W.heap.size from by have:=HLO.out.2;omega) 5 (.slice (some ⟨gg,0,none⟩) (s.D.length+1) cap9));clear ho9 hg9 hat hlt9 hp9;refine hK.out _ _ s9 (fun hHeld=>?_);clear hK;try simp only[tkS]
   refine tkH 9 hHeld (v:=?_) ?_ ?_;rotate_left
   ·intro w h;(try dsimp only at h);go_simp;all_goals with_reducible rfl
   simp only[tkS];refine tkH 10 hHeld (v:=?_) ?_ ?_;rotate_left
   ·intro w h;(try dsimp only at h);go_simp;all_goals with_reducible rfl
   simp only[tkS];refine tkH 11 hHeld (v:=?_) ?_ ?_;rotate_left
   ·intro w h;(try dsimp only at h);go_simp;all_goals with_reducible rfl
   simp only[tkS];refine oneH 12 (fun K hK=>?_);go_simp;refine hK.out _ _ s10 (fun hHeld=>?_);clear hK;try simp only[tkS]
   refine wpAnyH_done (by kernel_rfl) ?_ _;clear hHeld s9 s10 p5 f5;generalize w9.setCell ⟨c.B,5,none⟩ (.slice (some ⟨gg,0,none⟩) (s.D.length+1) cap9)=w10' at*;have x0:=HXW.out.cell (j:=0) rfl;have x1:=HXW.out.cell (j:=1) rfl;have x2:=HXW.out.cell (j:=2) rfl;have x3:=HXW.out.cell (j:=3) rfl;have r0:=(zjo HR10.out).cell (j:=0) rfl;have f0:=(zjo HR10.out).free (j:=0) (by simp);have r1:=(zjo HR10.out).cell (j:=1) rfl;have f1:=(zjo HR10.out).free (j:=1) (by simp);have r2:=(zjo HR10.out).cell (j:=2) rfl;have f2:=(zjo HR10.out).free (j:=2) (by simp);have r3:=(zjo HR10.out).cell (j:=3) rfl;have f3:=(zjo HR10.out).free (j:=3) (by simp);go_wp2_with fail;have HF:=lhd (DPar.far4 HE9.out HKP.out (Nat.le_succ _) HR10.out (.string (bsB tx)) (.int .i64 o1) (.int .i64 o2) (.int .i64 o3));have HF2:=lhd (row4 HR10.out (.string (bsB tx)) (.int .i64 o1) (.int .i64 o2) (.int .i64 o3));have HEQ:=lhd hE;go_region
   go_wp2_with fail;have hrr:=HF2.out;refine bodyPost_ret (v:=.tuple #[.int .i64 0,.agg #[.string (bsB tx),.int .i64 o1,.int .i64 o2,.int .i64 o3]]) (by simp[results,Tryz.results142,go_sem,hrr.cell (j:=0) rfl,hrr.cell (j:=1) rfl,hrr.cell (j:=2) rfl,hrr.cell (j:=3) rfl]) rfl ?_;exact⟨by rw[HEQ.out],by rw[HEQ.out];exact⟨_,_,_,HF.out⟩⟩
end Go.Proofs.YtcdekelomkcahaaGreatDoor
