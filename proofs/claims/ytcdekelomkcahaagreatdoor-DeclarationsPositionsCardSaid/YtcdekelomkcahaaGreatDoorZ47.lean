import Derived.Test.YtcdekelomkcahaaGreatDoorZ00
import Derived.Below
import Derived.Deep.RegionHeld
import Derived.Deep.RegionLawGrows
import Derived.Laws.AppendOwnNone
import Derived.Test.YtcdekelomkcahaaGreatDoorRows
import Derived.Test.YtcdekelomkcahaaGreatDoorZ16
import Derived.Test.YtcdekelomkcahaaGreatDoorZ28
import Derived.Test.YtcdekelomkcahaaGreatDoorZ45
set_option maxRecDepth 100000
set_option maxHeartbeats 16000000
namespace Go.Proofs.YtcdekelomkcahaaGreatDoor
open Go.RowKit
set_option linter.unusedSimpArgs false
def toDD (s:DS):DD:=⟨s.sc,s.dt,s.vn,s.cm,s.S,s.D⟩
theorem zqz:∀(s cur:Bs),((wrd s cur).map fun x=>x.length+1).sum≤cur.length+s.length+1
 | [],cur=>by
   unfold wrd;split
   ·simp
   ·simp
 |c::t,cur=>by
  rw[wrd];split
  ·split
   ·have:=zqz t [];simp only[List.length_nil,List.length_cons]at this⊢;omega
   ·have:=zqz t [];rw[List.map_cons,List.sum_cons];simp only[List.length_nil,List.length_cons]at this⊢;omega
  ·have:=zqz t (cur++ [c]);rw[List.length_append,List.length_singleton]at this;rw[List.length_cons];omega
theorem zpT {s:Bs} {ws:List Wd} (h:ws.map (·.1)=zp1 s):wdsN ws≤s.length+1:=by
 have h1:(ws.map fun x=>x.1.length+1)=(ws.map (·.1)).map fun x=>x.length+1:=by rw[List.map_map];rfl
 unfold wdsN;rw[h1,h];have:=zqz s [];unfold zp1;simpa using this
theorem zqx:∀(s cur:Bs),2*(wrd s cur).length≤cur.length+s.length+1
 | [],cur=>by
   unfold wrd;split
   ·simp
   ·rename_i h
    have:0<cur.length:=List.length_pos_iff.2 h;simp only[List.length_cons,List.length_nil];omega
 |c::t,cur=>by
  rw[wrd];split
  ·split
   ·have:=zqx t [];simp only[List.length_nil,List.length_cons]at this⊢;omega
   ·rename_i h
    have:0<cur.length:=List.length_pos_iff.2 h;have:=zqx t [];simp only[List.length_nil,List.length_cons]at this⊢;omega
  ·have:=zqx t (cur++ [c]);rw[List.length_append,List.length_singleton]at this;rw[List.length_cons];omega
theorem zpP {s:Bs} {ws:List Wd} (h:ws.map (·.1)=zp1 s):2*ws.length≤s.length+1:=by
 have h1:=zqx s [];have h2:=congrArg List.length h;rw[List.length_map]at h2;rw[h2];unfold zp1;simpa using h1
def zat (s:Bs) (w:World) (e:Ending) (w':World):Prop:=
 ∃vS vD vr ws,e=.returned (.tuple #[ddV (toDD (zjK ws).1) vS vD,.int .i64 (zjK ws).2,vr,.int .i64 (ws.length:Nat)])∧ws.map (·.1)=zp1 s∧ws.length≤s.length∧
  SlR w' vS (zjK ws).1.S.length (scs (zjK ws).1.S)∧SlR w' vD (zjK ws).1.D.length (dcls (zjK ws).1.D)∧SlR w' vr (zjK ws).1.wrong.length (prbs (zjK ws).1.wrong)∧Below w.heap.size w w'
theorem law_read25 (s:Bs) (w:World) (hg:Glob w) (he:zag w) (hm:Glm w) (hs:s.length≤16384):
 Calls Tryz.prog 21 #[.string (bsB s)] w (zat s w):=by
 have hb0:Below w.heap.size w (w.alloc (.cells #[.int .i64 0,.string ⟨#[]⟩,.string ⟨#[]⟩,.string ⟨#[]⟩,.slice none 0 0,.slice none 0 0] 25)):=(Below.refl _ _).alloc (Nat.le_refl _) _;have HX0:=lhd (zaq.fresh w #[.int .i64 0,.string ⟨#[]⟩,.string ⟨#[]⟩,.string ⟨#[]⟩,.slice none 0 0,.slice none 0 0] 25);have HZ0:=lhd (show w.heap.size<(w.alloc (.cells #[.int .i64 0,.string ⟨#[]⟩,.string ⟨#[]⟩,.string ⟨#[]⟩,.slice none 0 0,.slice none 0 0] 25)).heap.size by simp);have HB0:=lhd hb0;have HG:=lhd hg;have HE:=lhd he;have HM:=lhd hm;clear hb0 hg he hm;go_enter Tryz.func21,Tryz.ntmps21;go_upto_region 1 with fail;generalize w.alloc (.cells #[.int .i64 0,.string ⟨#[]⟩,.string ⟨#[]⟩,.string ⟨#[]⟩,.slice none 0 0,.slice none 0 0] 25)=w0 at*;go_wp2_with fail;refine(zgG s _ hs).mono ?_;rintro e w1 ⟨v1,ws,rfl,ho,hw,hwl,hb⟩;have hs1:=SlR.of_own ho;obtain⟨a1,c1,rfl,-,-⟩:=hs1.shape;have HW:=lhd hw;have HS1:=lhd hs1;have HB:=lhd (zd5 HB0.out hb);have HX1:=lhd (HX0.out.below hb HZ0.out);have HZ1:=lhd (Nat.lt_of_lt_of_le HZ0.out hb.size);have HWL:=lhd hwl;clear ho hw hwl hb hs1;go_wp2_with fail;refine(zdh _ ws w1 HS1.out (HG.out.below HB.out) (HE.out.below HB.out) (HM.out.below HB.out) (by have:=zpP HW.out;omega) (by have:=zpT HW.out;omega)).mono ?_;rintro e w2 ⟨vS,vD,vr,rfl,hoS,hoD,hor,hb2⟩;have hsS:=SlR.of_own hoS;have hsD:=SlR.of_own hoD;have hsr:=SlR.of_own hor;obtain⟨aS,cS,rfl,-,-⟩:=hsS.shape;obtain⟨aD,cD,rfl,-,-⟩:=hsD.shape;obtain⟨ar,cr,rfl,-,-⟩:=hsr.shape;obtain⟨P,hP⟩:∃P,P=zjK ws:=⟨_,rfl⟩;unfold zat;have HPP:=lhd hP;rw[←hP]at hoS hoD hor⊢;clear hP hsS hsD hsr;obtain⟨st,np⟩:=P;dsimp only at hoS hoD hor⊢;have hb3:Below w2.heap.size w2 (w2.alloc (.cells #[.int .i64 st.sc,.string (bsB st.dt),.string (bsB st.vn),.string (bsB st.cm),.slice aS st.S.length cS,.slice aD st.D.length cD] 25)):=(Below.refl _ _).alloc (Nat.le_refl _) _;have HOS:=lhd (zjb hoS hb3);have HOD:=lhd (zjb hoD hb3);have HOR:=lhd (zjb hor hb3);have HX3:=lhd (HX1.out.below (zd5 hb2 hb3) HZ1.out);have HY3:=lhd (zaq.fresh w2 #[.int .i64 st.sc,.string (bsB st.dt),.string (bsB st.vn),.string (bsB st.cm),.slice aS st.S.length cS,.slice aD st.D.length cD] 25);have HB3:=lhd (zd5 HB.out (zd5 hb2 hb3));clear hoS hoD hor hb2 hb3;go_upto_region 3 with fail;generalize w2.alloc (.cells #[.int .i64 st.sc,.string (bsB st.dt),.string (bsB st.vn),.string (bsB st.cm),.slice aS st.S.length cS,.slice aD st.D.length cD] 25)=w3 at*;have y0:=HY3.out.cell (j:=0) rfl;have x0:=HX3.out.cell (j:=0) rfl;have f0:=HX3.out.free (j:=0) (by simp);have y1:=HY3.out.cell (j:=1) rfl;have x1:=HX3.out.cell (j:=1) rfl;have f1:=HX3.out.free (j:=1) (by simp);have y2:=HY3.out.cell (j:=2) rfl;have x2:=HX3.out.cell (j:=2) rfl;have f2:=HX3.out.free (j:=2) (by simp);have y3:=HY3.out.cell (j:=3) rfl;have x3:=HX3.out.cell (j:=3) rfl;have f3:=HX3.out.free (j:=3) (by simp);have y4:=HY3.out.cell (j:=4) rfl;have x4:=HX3.out.cell (j:=4) rfl;have f4:=HX3.out.free (j:=4) (by simp);have y5:=HY3.out.cell (j:=5) rfl;have x5:=HX3.out.cell (j:=5) rfl;have f5:=HX3.out.free (j:=5) (by simp)
 have HF:=lhd (show zaq ((((((w3.setCell ⟨w.heap.size,0,none⟩ (.int .i64 st.sc)).setCell ⟨w.heap.size,1,none⟩ (.string (bsB st.dt))).setCell ⟨w.heap.size,2,none⟩ (.string (bsB st.vn))).setCell ⟨w.heap.size,3,none⟩ (.string (bsB st.cm))).setCell ⟨w.heap.size,4,none⟩ (.slice aS st.S.length cS)).setCell ⟨w.heap.size,5,none⟩ (.slice aD st.D.length cD)) w.heap.size [.int .i64 st.sc,.string (bsB st.dt),.string (bsB st.vn),.string (bsB st.cm),.slice aS st.S.length cS,.slice aD st.D.length cD]from
  (((((HX3.out.set (j:=0) (by simp) (.int .i64 st.sc)).set (j:=1) (by simp) (.string (bsB st.dt))).set (j:=2) (by simp) (.string (bsB st.vn))).set (j:=3) (by simp) (.string (bsB st.cm))).set (j:=4) (by simp) (.slice aS st.S.length cS)).set (j:=5) (by simp) (.slice aD st.D.length cD))
 have hz:=HZ1.out
 have hne:∀{T size n:Nat} {v:Value} {xs:List Value},w3.ownsRow w1.heap.size T size v n xs→v.ownBlock≠some w.heap.size:=fun h e=>by
  have:=(h.lt _ e).1;omega
 have HQS:=lhd (SlR.of_own (ownsRow_setCell_other (a:=⟨w.heap.size,5,none⟩) (ownsRow_setCell_other (a:=⟨w.heap.size,4,none⟩) (ownsRow_setCell_other (a:=⟨w.heap.size,3,none⟩) (ownsRow_setCell_other (a:=⟨w.heap.size,2,none⟩) (ownsRow_setCell_other (a:=⟨w.heap.size,1,none⟩) (ownsRow_setCell_other (a:=⟨w.heap.size,0,none⟩) HOS.out (hne HOS.out) (.int .i64 st.sc)) (hne HOS.out) (.string (bsB st.dt))) (hne HOS.out) (.string (bsB st.vn))) (hne HOS.out) (.string (bsB st.cm))) (hne HOS.out) (.slice aS st.S.length cS)) (hne HOS.out) (.slice aD st.D.length cD)));have HQD:=lhd (SlR.of_own (ownsRow_setCell_other (a:=⟨w.heap.size,5,none⟩) (ownsRow_setCell_other (a:=⟨w.heap.size,4,none⟩) (ownsRow_setCell_other (a:=⟨w.heap.size,3,none⟩) (ownsRow_setCell_other (a:=⟨w.heap.size,2,none⟩) (ownsRow_setCell_other (a:=⟨w.heap.size,1,none⟩) (ownsRow_setCell_other (a:=⟨w.heap.size,0,none⟩) HOD.out (hne HOD.out) (.int .i64 st.sc)) (hne HOD.out) (.string (bsB st.dt))) (hne HOD.out) (.string (bsB st.vn))) (hne HOD.out) (.string (bsB st.cm))) (hne HOD.out) (.slice aS st.S.length cS)) (hne HOD.out) (.slice aD st.D.length cD)));have HQR:=lhd (SlR.of_own (ownsRow_setCell_other (a:=⟨w.heap.size,5,none⟩) (ownsRow_setCell_other (a:=⟨w.heap.size,4,none⟩) (ownsRow_setCell_other (a:=⟨w.heap.size,3,none⟩) (ownsRow_setCell_other (a:=⟨w.heap.size,2,none⟩) (ownsRow_setCell_other (a:=⟨w.heap.size,1,none⟩) (ownsRow_setCell_other (a:=⟨w.heap.size,0,none⟩) HOR.out (hne HOR.out) (.int .i64 st.sc)) (hne HOR.out) (.string (bsB st.dt))) (hne HOR.out) (.string (bsB st.vn))) (hne HOR.out) (.string (bsB st.cm))) (hne HOR.out) (.slice aS st.S.length cS)) (hne HOR.out) (.slice aD st.D.length cD)));have HBF:=lhd ((((((HB3.out.setCell (p:=⟨w.heap.size,0,none⟩) (Nat.le_refl _) (.int .i64 st.sc)).setCell (p:=⟨w.heap.size,1,none⟩) (Nat.le_refl _) (.string (bsB st.dt))).setCell (p:=⟨w.heap.size,2,none⟩) (Nat.le_refl _) (.string (bsB st.vn))).setCell (p:=⟨w.heap.size,3,none⟩) (Nat.le_refl _) (.string (bsB st.cm))).setCell (p:=⟨w.heap.size,4,none⟩) (Nat.le_refl _) (.slice aS st.S.length cS)).setCell (p:=⟨w.heap.size,5,none⟩) (Nat.le_refl _) (.slice aD st.D.length cD));clear hne hz;go_wp2_with fail;have hrr:=HF.out;refine bodyPost_ret (v:=.tuple #[.agg #[.int .i64 st.sc,.string (bsB st.dt),.string (bsB st.vn),.string (bsB st.cm),.slice aS st.S.length cS,.slice aD st.D.length cD],.int .i64 np,.slice ar st.wrong.length cr,.int .i64 ws.length]) (by simp[results,Tryz.results21,go_sem,hrr.cell (j:=0) rfl,hrr.cell (j:=1) rfl,hrr.cell (j:=2) rfl,hrr.cell (j:=3) rfl,hrr.cell (j:=4) rfl,hrr.cell (j:=5) rfl]) rfl ?_;exact⟨_,_,_,ws,by rw[←HPP.out];rfl,HW.out,HWL.out,by rw[←HPP.out];exact HQS.out,by rw[←HPP.out];exact HQD.out,by rw[←HPP.out];exact HQR.out,HBF.out⟩
theorem zqk {P:Program} (w:World) {ops:Array Oper} {rest:List Oper} {o:Oper} {a:Act} {Q:Exit→Act→World→Prop} (hgd:o.guard=none) (s x:Operand) (t:TypeId)
 (ho:o.op=.call {callee:=.builtin .append,args:=#[s,x],argTypes:=#[t,t]})
 (base:Nat) (e:TypeId) (i:TypeInfo) (z:Value) (size bytes:Nat) (ht:P.underlying t=some (.slice e)) (hi:P.info? e=some i) (hz:i.zero=some z)
 (hsize:i.size=size) (hby:i.bytes=bytes) (hzs:z.cells.size=size) (hsz:0<size)
 (v:Value) (n:Nat) (xs:List Value) (hs:a.eval s=v) (hown:w.ownsRow base e size v n xs)
 (ad:Option Addr) (m c:Nat) (news:List Value) (hx:a.eval x=.slice ad m c) (hsl:SlR w (.slice ad m c) m news) (hl:news.length=m*size) (h1:∀u∈news,u.oneCell'=true)
 (h63:n+m≤maxLen) (hbytes:(n+m)*bytes≤140737488355328) (hbase:base≤w.heap.size)
 (h:∀v' w',w'.ownsRow base e size v' (n+m) (xs++news)→w.grownBy w' v.ownBlock→wpList P ops Q rest (a.put o.dst v') w'):wpList P ops Q (o::rest) a w:=by
 cases ad with
 |none=>
  obtain⟨a',cap',hv,hc1,hc2,hc3,-⟩:=hsl;injection hv with e1 _ e3;have h0:=hc3 e1.symm;have hm:m=0:=by omega
  have hc:c=0:=by omega
  subst hm hc;have hn:news=[]:=List.length_eq_zero_iff.1 (by omega);subst hn;refine wpList_append_own_none hgd s x t ho base e i size ht hi v n xs hs hown hx (h v w ?_ (World.grownBy.refl _ _));simpa using hown
 |some ad=>
  exact wpList_append_own w hgd s x t ho base e i z size bytes ht hi hz hsize hby hzs hsz v n xs hs hown ad m c news hx hl
   (hsl.news (fun h0=>by subst h0;exact List.length_eq_zero_iff.1 (by omega))) h1 h63 hbytes hbase (fun v' w' h2 h3 _=>h v' w' h2 h3)
theorem zpR:∀(l:List Wd),∀u∈wds l,u.oneCell'=true
 | [],u,hu=>by simp[wds]at hu
 |x::l,u,hu=>by
  rw[zpN]at hu;rcases List.mem_append.1 hu with hu|hu
  ·simp only[wdC,List.mem_cons,List.mem_nil_iff,or_false]at hu;rcases hu with rfl|rfl|rfl|rfl<;>rfl
  ·exact zpR l u hu
theorem zj0 (w:World):(Go.sizeOf 55).run Tryz.prog w=.ok 4 w:=by kernel_rfl
theorem zj1 (b o cap:Nat) (x:Pb) (l:List Pb) (W:World) (h:SlR W (.slice (some ⟨b,o,none⟩) (l.length+1) cap) (l.length+1) (prbs (x::l))):
 ∃ad c,(∀w,(Instr.slice 33 (.slice (some ⟨b,o,none⟩) (l.length+1) cap) (some (.int .i64 1)) none none).run Tryz.prog w=.ok (.slice ad l.length c) w)∧SlR W (.slice ad l.length c) l.length (prbs l):=by
 have hl:l.length+1≤cap∧cap≤maxLen:=by
  obtain⟨a',cap',hv,h1,h2⟩:=h.shape;injection hv with _ _ e3;subst e3;exact⟨h1,h2⟩
 refine⟨if cap=1 then some ⟨b,o,none⟩else some ⟨b,o+4,none⟩,cap-1,fun w=>?_,?_⟩
 ·have ht:Tryz.prog.underlying 33=some (.slice 55):=Tryz.underlying33;have ht':Tryz.prog.underlying 33=some (.slice (Tryz.prog.elem 33)):=by simp[Program.elem,ht]
  have he:Tryz.prog.elem 33=55:=by simp[Program.elem,ht]
  rw[run_slice_l w 33 (some ⟨b,o,none⟩) (l.length+1) cap ht' .i64 _ (by omega) (by omega),he,zj0];simp only[Result.andThen,sliced,Nat.add_sub_cancel];rfl
 ·refine⟨_,_,rfl,by omega,by omega,fun hh=>?_,fun hn=>?_⟩
  ·split at hh<;>cases hh
  ·obtain⟨b',o',cap',hv,-,-,hc⟩:=h.at (by omega);injection hv with e1 _ _;injection e1 with e1;injection e1 with e1 e2 _;subst e1 e2;refine⟨b,o+4,by rw[if_neg (by omega)],fun j u hj=>?_⟩;have:=hc (4+j) u (by rw[zj4,List.getElem?_append_right (by simp[prbC])];simpa[prbC] using hj);rwa [←Nat.add_assoc]at this
theorem zpG (w:World):(Go.sizeOf 58).run Tryz.prog w=.ok 4 w:=by kernel_rfl
theorem zpE (a:Option Addr) (cap:Nat) (l:List Wd) (i:Nat) (W:World) (hi:i<l.length) (h:SlR W (.slice a l.length cap) l.length (wds l)):
 ∃ad c,(∀w,(Instr.slice 37 (.slice a l.length cap) none (some (.int .i64 ((i:Int)+1))) none).run Tryz.prog w=.ok (.slice ad (i+1) c) w)∧SlR W (.slice ad (i+1) c) (i+1) (wds (l.take (i+1))):=by
 obtain⟨b,o,cap',hv,hc1,hc2,hcl⟩:=h.at (by omega);injection hv with e1 _ e3;subst e1 e3;refine⟨if cap=0 then some ⟨b,o,none⟩else(some (⟨b,o,none⟩:Addr)).map (·.add (0*4)),cap-0,fun w=>?_,?_⟩
 ·have ht:Tryz.prog.underlying 37=some (.slice 58):=Tryz.underlying37;have ht':Tryz.prog.underlying 37=some (.slice (Tryz.prog.elem 37)):=by simp[Program.elem,ht]
  have he:Tryz.prog.elem 37=58:=by simp[Program.elem,ht]
  rw[show((i:Int)+1)=((i+1:Nat):Int)by omega,run_slice_h w 37 (some ⟨b,o,none⟩) l.length cap ht' .i64 _ (by omega) (by omega),he,zpG];simp only[Result.andThen,sliced,Int.toNat_natCast,Nat.sub_zero]
 ·refine⟨_,_,rfl,by omega,by omega,fun hh=>?_,fun _=>⟨b,o,?_,fun j u hj=>?_⟩⟩
  ·rw[if_neg (by omega)]at hh;cases hh
  ·rw[if_neg (by omega)];rfl
  ·refine hcl j u ?_;have e:wds l=wds (l.take (i+1))++wds (l.drop (i+1)):=by rw[←zpK,List.take_append_drop]
   rw[e,List.getElem?_append_left (List.getElem?_eq_some_iff.1 hj).1];exact hj
theorem zpH (l m:List Wd):wdsN (l++m)=wdsN l+wdsN m:=by
 unfold wdsN;rw[List.map_append,List.sum_append]
theorem zjg (w:World):(w.alloc (.cells #[] 58)).ownsRow w.heap.size 58 4 (.slice (some ⟨w.heap.size,0,none⟩) 0 0) 0 []:=World.ownsRow_lit w #[] 0 (Nat.le_refl _) (by simp[maxLen]) (by simp)
theorem zlG (l:List Pb) (v u:Value) (w:World) (hs:SlR w v l.length (prbs l)) (ht:SlR w u l.length (prbs l)):
 Calls Tryz.prog 29 #[v,u] w fun e w'=>e=.returned (.bool true)∧Below w.heap.size w w':=by
 have:=zk5 v u l l w hs ht;rwa [decide_eq_true rfl]at this
open Go.Joins Go.ChangeShapes Go.WideShapes Go.RowKit Go.Deep
theorem zbm {H:Type}:∀l:List (DataW H),Rows.uptoBulkAll l=(l.map Rows.uptoBulk).sum
 | []=>by simp[Rows.uptoBulkAll]
 |x::l=>by rw[Rows.uptoBulkAll,zbm l,List.map_cons,List.sum_cons]
theorem zbo {H:Type} {d:DataW H} {l:List (DataW H)} (h:d∈l):Rows.uptoBulk d≤Rows.uptoBulkAll l:=by
 induction l with
 |nil=>cases h
 |cons x r ih=>
  rw[Rows.uptoBulkAll];rcases List.mem_cons.1 h with rfl|e
  ·omega
  ·have:=ih e;omega
theorem zbp {H:Type} {k:Bool} {d0 d1:DataW H} (hk:k=Rows.uptoSmall H ([d0,d1]++ [])) (h:k=true):Rows.uptoBulk d0+Rows.uptoBulk d1≤1048576:=by
 rw[hk]at h;have h:=of_decide_eq_true h;rw[List.append_nil,Rows.uptoBulkAll,Rows.uptoBulkAll,Rows.uptoBulkAll]at h;omega
theorem zbn {H:Type} {k:Bool} {d0:DataW H} (hk:k=Rows.uptoSmall H ([d0]++ [])) (h:k=true):Rows.uptoBulk d0≤1048576:=by
 rw[hk]at h;have h:=of_decide_eq_true h;rw[List.append_nil,Rows.uptoBulkAll,Rows.uptoBulkAll]at h;omega
theorem zg0 {T:Type} {enc:T→List Value} {k:Nat} (henc:∀x,(enc x).length=k) {f:T→Nat} {g:Nat→Nat} {w:World} {a:Addr}:∀{m:Nat},(∀i,i<m→∃c:T,f c≤g i∧∀(j:Nat) (u:Value),(enc c)[j]? =some u→w.cell? (a.add (i*k+j))=some u)→
 ∃l:List T,l.length=m∧(l.map f).sum≤((List.range m).map g).sum∧∀(j:Nat) (u:Value),(l.flatMap enc)[j]? =some u→w.cell? (a.add j)=some u
 |0,_=>⟨[],rfl,by simp,fun j u h=>by simp at h⟩
 |m+1,h=>by
  obtain⟨l,hl,hq,hc⟩:=zg0 henc (m:=m) fun i hi=>h i (by omega);obtain⟨c,h0,h1⟩:=h m (by omega);have hf:=zed henc l;refine⟨l++ [c],by simp[hl],?_,fun j u hj=>?_⟩
  ·rw[List.map_append,List.sum_append,List.range_succ,List.map_append,List.sum_append];simp only[List.map_cons,List.map_nil,List.sum_cons,List.sum_nil];omega
  ·rw[List.flatMap_append]at hj;by_cases hlt:j<(l.flatMap enc).length
   ·rw[List.getElem?_append_left hlt]at hj;exact hc j u hj
   ·rw[List.getElem?_append_right (by omega)]at hj;have:=h1 (j-(l.flatMap enc).length) u (by simpa using hj);rwa [show m*k+(j-(l.flatMap enc).length)=j by rw[hf,hl,Nat.mul_comm m k];rw[hf,hl]at hlt;omega]at this
section
variable {H : Type} {enc : TypeId × Value → H} {w : World} {base : Nat} {spare : Nat → Bool} {held : Bool}
theorem ziX {fuel:Nat} {cs:List Value} {x:DataW H×List MemPlace} (h:DataW.trod enc Tryz.prog w base spare held fuel 37 cs=some x):
 ∃(v:Value) (l:List Wd),cs=[v]∧SlR w v l.length (wds l)∧wdsN l≤Rows.uptoBulk x.1:=by
 rcases open_slice Tryz.underlying37 h with⟨rfl,-⟩|⟨a,len,cap,m,n,D,Pl,rfl,hb,hl,hm,hmm,rfl,hi⟩
 ·exact⟨_,[],rfl,SlR.nil _,Nat.zero_le _⟩
 ·have hlm:len≤m:=by rw[hmm];split<;>omega
  have hk:Tryz.prog.cellsOf 58=4:=by kernel_rfl
  obtain⟨l,hll,hq,hc⟩:=zg0 (T:=Wd) (enc:=wdC) (k:=4) (fun _=>rfl) (f:=fun x=>x.1.length+1) (g:=fun i=>Rows.uptoBulk (D i)) (w:=w) (a:=a) (m:=len) fun i him=>by
   obtain⟨cs',hcs,htr⟩:=hi i (by omega);rw[hk]at hcs;obtain⟨-,hcl,hat⟩:=World.cells?_some hcs;obtain⟨c0,c1,c2,c3,rfl⟩:=four hcl;obtain⟨xs,n',-,hd,-,hxl,hf⟩:=DataW.trod_struct Tryz.underlying58 htr
   have fldB:∀{fs:Array Field} (_:xs.length=fs.size) (_:∀(i:Nat) (f:Field),fs[i]? =some f→DataW.trod enc Tryz.prog w base spare held n' f.type (([c0,c1,c2,c3].drop f.offset).take (Tryz.prog.cellsOf f.type))=xs[i]?) (i:Nat) {f:Field} (_:fs[i]? =some f) {k o:Nat} (_:Tryz.prog.cellsOf f.type=k) (_:f.offset=o),∃z:DataW H×List MemPlace,z∈xs∧DataW.trod enc Tryz.prog w base spare held n' f.type (([c0,c1,c2,c3].drop o).take k)=some z:=fun{fs} hxl hf i {f} hi k o hk ho=>by
    have hlt:i<xs.length:=by rw[hxl];exact(Array.getElem?_eq_some_iff.1 hi).1
    have h1:=hf i f hi;rw[hk,ho,List.getElem?_eq_getElem hlt]at h1;exact⟨xs[i],List.getElem_mem hlt,h1⟩
   obtain⟨z0,m0,h0⟩:=fldB hxl hf 0 rfl (show Tryz.prog.cellsOf 9=1 by kernel_rfl) rfl;obtain⟨z1,-,h1⟩:=fldB hxl hf 1 rfl (show Tryz.prog.cellsOf 3=1 by kernel_rfl) rfl;obtain⟨z2,-,h2⟩:=fldB hxl hf 2 rfl (show Tryz.prog.cellsOf 3=1 by kernel_rfl) rfl;obtain⟨z3,-,h3⟩:=fldB hxl hf 3 rfl (show Tryz.prog.cellsOf 3=1 by kernel_rfl) rfl;obtain⟨x0,e0,rfl,-⟩:=DataW.trod_string Tryz.underlying9 h0;injection e0 with e0;obtain⟨x1,rfl⟩:=zgD h1;obtain⟨x2,rfl⟩:=zgD h2;obtain⟨x3,rfl⟩:=zgD h3;refine⟨(x0.data.toList,x1,x2,x3),?_,fun j u hj=>?_⟩
   ·have hdi:D i=.agg (xs.map (·.1)):=congrArg Prod.fst hd;have:=zbo (List.mem_map_of_mem (f:=fun z:DataW H×List MemPlace=>z.1) m0);show x0.data.toList.length+1≤Rows.uptoBulk (D i);rw[hdi,Rows.uptoBulk];rw[show Rows.uptoBulk (DataW.lit (H:=H) (.string x0.data.toList))=x0.data.toList.length+1 by simp[Rows.uptoBulk]]at this;omega
   ·have hjk:j<4:=by have:=(List.getElem?_eq_some_iff.1 hj).1;simpa[wdC] using this
    have ha:=hat j hjk;rw[←Go.Deep.add_add,ha];rw[show wdC (x0.data.toList,x1,x2,x3)=[.string (bsB x0.data.toList),.int .i64 x1,.int .i64 x2,.int .i64 x3]from rfl,zbj]at hj;rw[e0];exact hj
  subst hll;refine⟨_,l,rfl,⟨some a,cap,rfl,hl,hm,fun h=>by simp at h,fun hn=>?_⟩,?_⟩
  ·have hpos:0<(l.flatMap wdC).length:=by rw[zed (k:=4) (fun _=>rfl)];omega
   have hsp:a.spot=none:=by
    have h0:=hc 0 _ (List.getElem?_eq_getElem hpos);have:=zm0 h0;simpa[Addr.add] using this
   obtain⟨b,o,sp⟩:=a;simp only at hsp;subst hsp;exact⟨b,o,rfl,fun j u hj=>by have:=hc j u hj;rwa [zaD]at this⟩
  ·have:Rows.uptoBulk (DataW.slice ((List.range l.length).map D) ((List.range (m-l.length)).map fun j=>D (l.length+j)))≥Rows.uptoBulkAll ((List.range l.length).map D):=by
    rw[Rows.uptoBulk];omega
   rw[zbm,List.map_map]at this;exact Nat.le_trans hq this
end
end Go.Proofs.YtcdekelomkcahaaGreatDoor
