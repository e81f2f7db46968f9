import Derived.Test.YtfppgpamkdkckaaGreatDoorZ00
import Derived.Lib.Builder
import Derived.Test.YtfppgpamkdkckaaGreatDoorZ13
set_option maxRecDepth 100000
set_option maxHeartbeats 16000000
namespace Go.Proofs.YtfppgpamkdkckaaGreatDoor
open Go.RowKit
set_option linter.unusedSimpArgs false
structure KB (B:Nat) (W V:World):Prop where
 b:Below B W V
 keep:∀(i:Nat) (o:Obj),W.heap[i]? =some o→(∀C T fr,o=.cells C T fr→T≠5∧T≠101)→V.heap[i]? =some o
theorem KB.refl (B:Nat) (W:World):KB B W W:=⟨Below.refl _ _,fun _ _ h _=>h⟩
theorem KB.trans {B:Nat} {X Y Z:World} (h:KB B X Y) (k:KB B Y Z):KB B X Z:=⟨h.b.trans k.b,fun i o ho hT=>k.keep i o (h.keep i o ho hT) hT⟩
theorem KB.of_below {B:Nat} {W V:World} (h:Below W.heap.size W V) (hB:B≤W.heap.size):KB B W V:=
 ⟨h.mono hB,fun i o ho _=>by rw[h.block i (Array.getElem?_eq_some_iff.1 ho).1];exact ho⟩
theorem KB.set {B:Nat} {W:World} {b:Nat} {C:Array Value} {T:TypeId} {fr:Nat×Nat} (hb:W.heap[b]? =some (.cells C T fr)) (hT:T=5∨T=101) (hB:B≤b) (j:Nat) (u:Value):KB B W (W.setCell ⟨b,j,none⟩ u):=
 ⟨(Below.refl _ _).setCell (p:=⟨b,j,none⟩) hB _,fun i o ho hk=>by
  have hne:i≠b:=by
   rintro rfl;rw[hb]at ho;injection ho with ho;have:=hk _ _ _ ho.symm;rcases hT with rfl|rfl
   ·exact this.1 rfl
   ·exact this.2 rfl
  rw[Below.heap_setCell _ _ _ _ hne];exact ho⟩
theorem KB.row {B:Nat} {W V:World} {b:Nat} {xs:List Value} {C:Array Value} {T:TypeId} (h:KB B W V) (hb:W.heap[b]? =some (.cells C T (0,0))) (hT:T≠5∧T≠101) (hx:zan W b xs):zan V b xs:=by
 have:=h.keep b _ hb (fun C' T' fr' e=>by injection e with _ e _;rw[←e];exact hT);exact hx.same (this.trans hb.symm)
theorem KB.map {B:Nat} {W V:World} {P:Program} {K:TypeId} {b n:Nat} {f:BsM→Option Value} (h:KB B W V) (hm:SMap P K W b n f):SMap P K V b n f:=by
 have hlt:=hm.lt;have e:W.heap[b]? =some W.heap[b]:=Array.getElem?_eq_getElem hlt;exact hm.same ((h.keep b _ e (fun C T fr ho=>absurd (e.trans (congrArg some ho)) hm.no_cells)).trans e.symm)
theorem za1 (b:Nat) (w:World) (h0:w.cell? ⟨b,0,none⟩=some (.pointer (some ⟨b,0,none⟩))):
 Calls Tryz.prog 118 #[.pointer (some ⟨b,0,none⟩)] w fun e w'=>e=.returned (.tuple #[])∧w'=w:=by
 obtain⟨j,hj,_⟩:=Option.map_eq_some_iff.1 (show(Tryz.prog.info? 101).map (·.size)=some 2 by kernel_rfl);go_enter Tryz.func118,Tryz.ntmps118;go_wp2_with fail;rw[Lib.run_neq_ptr_same w _ Tryz.underlying99 hj];go_wp2_with fail;go_end0
 exact⟨rfl,rfl⟩
theorem za0 (b:Nat) (w:World) (h0:w.cell? ⟨b,0,none⟩=some (.pointer none)) (hsh:w.shape? b=some (101,2)) (hfz:w.frozen? ⟨b,0,none⟩=false):
 Calls Tryz.prog 118 #[.pointer (some ⟨b,0,none⟩)] w fun e w'=>e=.returned (.tuple #[])∧w'=w.setCell ⟨b,0,none⟩ (.pointer (some ⟨b,0,none⟩)):=by
 obtain⟨j,hj,hjs⟩:=Option.map_eq_some_iff.1 (show(Tryz.prog.info? 101).map (·.size)=some 2 by kernel_rfl);go_enter Tryz.func118,Tryz.ntmps118;go_wp2_with fail;rw[Lib.run_to_unsafe w ⟨b,0,none⟩ Tryz.underlying99 Tryz.underlying195 hj (by rw[hjs];decide) hsh (Nat.zero_lt_succ 1)];simp only[Result.andThen];rw[Oper.upon_value];go_wp2_with fail;rw[run_callFunc_extern Tryz.func167 (by kernel_rfl) (by kernel_rfl) (by kernel_rfl) (e:=Extern.AbiNoEscape.same) (by kernel_rfl)];rw[Lib.run_noEscape];simp only[Result.andThen];rw[Oper.upon_value];go_wp2_with fail;rw[Lib.run_from_unsafe w ⟨b,0,none⟩ Tryz.underlying195 Tryz.underlying99 hj hsh (by kernel_rfl)];simp only[Result.andThen];rw[Oper.upon_value];go_wp2_with fail;go_end0
 exact⟨rfl,rfl⟩
theorem zaZ (B b:Nat) (bs:List Value) (w:World) (h:Lib.IsBuilder 101 5 B b bs w):
 Calls Tryz.prog 118 #[.pointer (some ⟨b,0,none⟩)] w fun e w'=>e=.returned (.tuple #[])∧Lib.BuilderAt 101 5 B b (.pointer (some ⟨b,0,none⟩)) bs w'∧KB B w w':=by
 rcases h with h|h
 ·refine(za0 b w h.cell0 h.shape h.frozen0).mono ?_;rintro e w' ⟨rfl,rfl⟩;obtain⟨hB,v,hb,-,-⟩:=id h;exact⟨rfl,h.used _,KB.set hb (.inr rfl) hB _ _⟩
 ·refine(za1 b w h.cell0).mono ?_;rintro e w' ⟨rfl,rfl⟩;exact⟨rfl,h,KB.refl _ _⟩
theorem zbF:(Tryz.prog.info? 5).map (fun i=>(i.zero,i.size,i.bytes))=some (some (.int .u8 0),1,1):=by kernel_rfl
theorem zaY (B b:Nat) (bs:List Value) (s:ByteArray) (w:World) (h:Lib.IsBuilder 101 5 B b bs w) (hlen:bs.length+s.size≤140737488355328) (hBw:B≤w.heap.size):
 Calls Tryz.prog 55 #[.pointer (some ⟨b,0,none⟩),.string s] w fun e w'=>e=.returned (.tuple #[.int .i64 s.size,.nilIface])∧Lib.BuilderAt 101 5 B b (.pointer (some ⟨b,0,none⟩)) (bs++Lib.strCells s) w'∧KB B w w':=by
 obtain⟨i0,hi,hz0,hz1,hz2⟩:=info_parts (P:=Tryz.prog) zbF;go_enter Tryz.func55,Tryz.ntmps55;go_wp2_with (go_at_call 118;refine(zaZ B b bs _ h).mono ?_)
 rintro e w1 ⟨rfl,h1,hb1⟩;obtain⟨hB,v,hbk,hown,hne⟩:=h1;have c0:w1.cell? ⟨b,0,none⟩=some (.pointer (some ⟨b,0,none⟩)):=by rw[Lib.cell_of_heap hbk];rfl
 have c1:w1.cell? ⟨b,1,none⟩=some v:=by rw[Lib.cell_of_heap hbk];rfl
 have hsz1:=hb1.b.size;go_wp2_with (at_builtin;refine Lib.wpList_append_own_string _ rfl _ _ 62 9 rfl B 5 i0 Tryz.underlying62 Tryz.underlying9 hi hz0 hz1 hz2 _ _ _ rfl hown s rfl (by unfold maxLen;omega) (by omega) (by omega) ?_)
 intro v' w2 hown' hgrow _;have hlt:b<w1.heap.size:=(Array.getElem?_eq_some_iff.1 hbk).1
 have hb2:w2.heap[b]? =some (.cells #[.pointer (some ⟨b,0,none⟩),v] 101 (0,0)):=by
  rw[hgrow.block b hlt (fun e=>hne e.symm)];exact hbk
 have d0:w2.cell? ⟨b,0,none⟩=some (.pointer (some ⟨b,0,none⟩)):=by rw[Lib.cell_of_heap hb2];rfl
 have d1:w2.cell? ⟨b,1,none⟩=some v:=by rw[Lib.cell_of_heap hb2];rfl
 have f1:w2.frozen? ⟨b,1,none⟩=false:=Lib.frozen_of_heap hb2 1
 obtain⟨ao,n',cap,rfl⟩:∃ao n' cap,v'=.slice ao n' cap:=by
  rcases hown'.2 with⟨hv,_⟩|⟨g,cap,cur,hv,_⟩
  ·exact⟨_,_,_,hv⟩
  ·exact⟨_,_,_,hv⟩
 have k2:KB B w1 w2:=⟨(Below.refl _ _).grown hgrow (by omega) (fun k hk=>(hown.lt k hk).1),fun i o ho hT=>by
  rw[hgrow.block i (Array.getElem?_eq_some_iff.1 ho).1 (fun q=>by
   rcases hown.2 with⟨rfl,-⟩|⟨g,cap',cur,rfl,-,hgb,-⟩
   ·cases q
   ·injection q with q;subst q;rw[hgb]at ho;injection ho with ho;exact(hT _ _ _ ho.symm).1 rfl)]
  exact ho⟩
 go_wp2_with fail;go_ret2
 exact⟨rfl,Lib.BuilderAt.put (T:=101) (e:=5) hB hb2 (bs':=bs++Lib.strCells s) (by simpa[Lib.strCells_length] using hown') (by decide),(hb1.trans k2).trans (KB.set hb2 (.inr rfl) hB _ _)⟩
theorem zfA (B b:Nat) (bs:Bs) (s:Bs) (w:World) (h:Lib.IsBuilder 101 5 B b (Lib.byteCells bs) w) (hlen:bs.length+s.length+1≤140737488355328) (hBw:B≤w.heap.size):
 Calls Tryz.prog 54 #[.string (bsB s),.pointer (some ⟨b,0,none⟩)] w fun e w'=>e=.returned (.tuple #[])∧Lib.IsBuilder 101 5 B b (Lib.byteCells (bs++zir s)) w'∧KB B w w':=by
 have hsz:=zbt s
 have HZ3:=lhd (show(Lib.byteCells bs).length+(bsB s++⟨#[10]⟩).size≤140737488355328 by
  rw[ByteArray.size_append,hsz,show(⟨#[10]⟩:ByteArray).size=1 from rfl,Lib.byteCells_length];omega)
 go_enter Tryz.func54,Tryz.ntmps54;go_wp2_with fail;have hq:=zaY B b _ (bsB s++⟨#[10]⟩) w h HZ3.out hBw;refine hq.mono ?_;rintro e w' ⟨he,h2,k2⟩;subst he;clear hq
 have e2:Lib.byteCells bs++Lib.strCells (bsB s++⟨#[10]⟩)=Lib.byteCells (bs++zir s):=by
  simp[Lib.byteCells,Lib.strCells,zir,bsB]
 rw[e2]at h2;go_wp2_with fail;go_end0
 exact⟨rfl,.inr h2,k2⟩
abbrev fmtT (L:List Dcl) (o:Bool) (rs:List Rc):Bs:=ziu (zfC cv (knd L) (L.map Dcl.dc) o rs)
theorem ziv (a b:List Bs):ziu (a++b)=ziu a++ziu b:=by simp[ziu]
theorem ziw (a:Bs) (b:List Bs):ziu (a::b)=zir a++ziu b:=rfl
theorem zfE (L:List Dcl) (o:Bool) (r:Rc) (t:List Rc):fmtT L o (r::t)=(if o=true∧r.1≠1 then zir sEnd else [])++(ziu (zmY cv (knd L) (L.map Dcl.dc) r)++fmtT L (zk6 r o) t):=by
 unfold fmtT;rw[zfC,ziv,ziv,List.append_assoc];split<;>simp[ziu]
structure FmI (w w3:World) (L:List Dcl) (W:Bs) (wr:World) (T R:Bs):Prop where
 bld:Lib.IsBuilder 101 5 w3.heap.size w3.heap.size (Lib.byteCells T) wr
 eq:W=T++R
 k:Below w3.heap.size w3 wr
theorem FmI.keep {w w3 wr wr':World} {L:List Dcl} {W T R:Bs} (h:FmI w w3 L W wr T R) (hk:Below wr.heap.size wr wr'):FmI w w3 L W wr' T R:=by
 obtain⟨hb,he,hk0⟩:=h
 have aux:∀p,Lib.BuilderAt 101 5 w3.heap.size w3.heap.size p (Lib.byteCells T) wr→Lib.BuilderAt 101 5 w3.heap.size w3.heap.size p (Lib.byteCells T) wr':=by
  rintro p ⟨h1,v,h2,h3,h4⟩;exact⟨h1,v,by rw[hk.block _ (Array.getElem?_eq_some_iff.1 h2).1];exact h2,zln h3 hk,h4⟩
 exact⟨hb.elim (fun x=> .inl (aux _ x)) (fun x=> .inr (aux _ x)),he,hk0.trans (hk.mono hk0.size)⟩
theorem FmI.line {w w3 wr:World} {L:List Dcl} {W T R s:Bs} (h:FmI w w3 L W wr T (zir s++R)) (hW:W.length≤140737488351232):
 Calls Tryz.prog 54 #[.string (bsB s),.pointer (some ⟨w3.heap.size,0,none⟩)] wr fun e w'=>e=.returned (.tuple #[])∧FmI w w3 L W w' (T++zir s) R∧KB w3.heap.size wr w':=by
 obtain⟨hb,he,hk0⟩:=h
 have hlen:T.length+s.length+1≤140737488355328:=by
  have:=congrArg List.length he;simp[zir]at this;omega
 refine(zfA w3.heap.size w3.heap.size T s wr hb hlen hk0.size).mono ?_;rintro e w' ⟨he2,h2,k2⟩;exact⟨he2,⟨h2,by rw[he,List.append_assoc],hk0.trans k2.b⟩,k2⟩
theorem ziy (a:Bs):ziu [a]=zir a:=by simp[ziu]
theorem zsE {V:Vals} {K:Bs→Option Dc} {x:Int} {b:Bool} {k t:Int} {c v:Bs} {tl:List Rc} (h:zsz V K x b ((k,t,c,v)::tl)=true) (hx:0≤x):
 (k=0∧0≤t∧t≤1099511627776∧zsz V K t b tl=true)∨(k=1∧(K c).isSome=true∧zsz V K x b tl=true)∨(k=2∧∃b',zsz V K x b' tl=true)∨(k=3∧∃b',zsz V K x b' tl=true)∨(k=4∧zsz V K x b tl=true):=by
 unfold zsz at h;dsimp only at h;split at h
 ·rename_i h0
  rw[Bool.and_eq_true,Bool.and_eq_true,Bool.and_eq_true,Bool.not_eq_true',decide_eq_false_iff_not,decide_eq_true_iff]at h;exact .inl ⟨h0,by omega,of_decide_eq_true h.1.2,h.2⟩
 ·split at h
  ·rename_i h1
   split at h
   ·cases h
   ·rename_i y hy
    rw[Bool.and_eq_true]at h;exact .inr (.inl ⟨h1,by rw[hy];rfl,h.2⟩)
  ·split at h
   ·rename_i h2
    rw[Bool.and_eq_true]at h;rcases h2 with h2|h2
    ·exact .inr (.inr (.inl ⟨h2,_,h.2⟩))
    ·exact .inr (.inr (.inr (.inl ⟨h2,_,h.2⟩)))
   ·split at h
    ·rename_i h4
     rw[Bool.and_eq_true]at h;exact .inr (.inr (.inr (.inr ⟨h4,h.2⟩)))
    ·cases h
theorem FmI.grown {w w3 wr wr':World} {L:List Dcl} {W T R:Bs} {mb n:Nat} {P:Program} {K:TypeId} {f:BsM→Option Value} (h:FmI w w3 L W wr T R) (hm:SMap P K wr mb n f) (hg:wr.grownBy wr' (some mb)) (hlo:w3.heap.size≤mb):FmI w w3 L W wr' T R:=by
 obtain⟨hb,he,hk0⟩:=h
 have aux:∀p,Lib.BuilderAt 101 5 w3.heap.size w3.heap.size p (Lib.byteCells T) wr→Lib.BuilderAt 101 5 w3.heap.size w3.heap.size p (Lib.byteCells T) wr':=by
  rintro p ⟨h1,v,h2,h3,h4⟩;refine⟨h1,v,?_,h3.kept hg (.inr (fun e=>hm.ne_row h3 e.symm)),h4⟩;rw[hg.block _ (Array.getElem?_eq_some_iff.1 h2).1 (fun e=>by injection e with e;subst e;exact hm.no_cells h2)];exact h2
 exact⟨hb.elim (fun x=> .inl (aux _ x)) (fun x=> .inr (aux _ x)),he,hk0.grown hg hk0.size (fun k hk=>by injection hk with hk;omega)⟩
theorem zt4 (w:World):(zeroValue 4).run Tryz.prog w=.ok (.bool false) w:=by kernel_rfl
theorem zpc {w:World} {b n:Nat} {f:BsM→Option Value} {done:List Bs} (h:SMap Tryz.prog 9 w b n f) (hf:∀c,(f c).getD (.bool false)=.bool (decide (c∈done))) {c:Bs} (hc:c.length≤1000):
 (Instr.lookup 118 (.map (some b)) (.string (bsB c)) false).run Tryz.prog w=.ok (.bool (decide (c∈done))) w:=by
 have:=h.look1 (t:=118) Tryz.underlying9 Tryz.underlying118 (zt4 w) (bsB c) (by rw[zbt];unfold maxLen;omega);rw[zbq,hf]at this;exact this
theorem zkI {f:BsM→Option Value} {done:List Bs} {c0:Bs} {cn dn:Bool} (hf:∀c,(f c).getD (.bool false)=.bool (decide (c∈done))) (hd:dn=(decide (c0∈done)||cn)):
 ∀c,((fun x=>if x=(bsB c0).data.toList then some (.bool dn)else f x) c).getD (.bool false)=.bool (decide (c∈if cn=true then c0::done else done)):=by
 intro c;rw[zbq];by_cases hc:c=c0
 ·subst hc;rw[show((fun x=>if x=c then some (Value.bool dn)else f x) c)=some (.bool dn)from if_pos rfl,hd];cases cn<;>simp
 ·rw[show((fun x=>if x=c0 then some (Value.bool dn)else f x) c)=f c from if_neg hc,hf];cases cn<;>simp[hc]
theorem zkK (done:List Bs) (d:Dcl) (t:List Dc):ziu (zkG cv done (d.dc::t))=(if cnt cv d.dc=true∧d.kind=0∧d.code∉done then zir (cmdL cv d.kind d.width (vi d.kind d.width).data.toList d.code)else [])++ziu (zkG cv (if cnt cv d.dc=true then d.code::done else done) t):=by
 rw[zkG];by_cases h1:cnt cv d.dc=true
 ·rw[if_pos h1,if_pos h1];by_cases h2:d.kind=0∧d.code∉done
  ·rw[if_pos (show d.dc.2.1=0∧d.dc.1∉done from h2),if_pos ⟨h1,h2⟩];rfl
  ·rw[if_neg (show ¬(d.dc.2.1=0∧d.dc.1∉done)from h2),if_neg (fun h=>h2 h.2)];rfl
 ·rw[if_neg h1,if_neg h1,if_neg (fun h=>h1 h.1)];rfl
theorem zbX (v v2:Value) (rs:List Rc) (L:List Dcl) (w:World) (hs:SlR w v rs.length (recs rs)) (hd:SlR w v2 L.length (dcls L)) (hg:Glob w)
 (hr:∀r∈rs,r.2.2.1.length≤1000∧r.2.2.2.length≤1000) (hl:rs.length≤1000000) (hc:∀d∈L,d.code.length≤1000) (hL:L.length≤1000) (hW:(zfM cv (L.map Dcl.dc) rs).length≤140737488351232):
 Calls Tryz.prog 26 #[v,v2] w fun e w'=>e=.returned (.string (bsB (zfM cv (L.map Dcl.dc) rs)))∧Below w.heap.size w w':=by
 obtain⟨a,cap,rfl,hcap,hmax⟩:=hs.shape;obtain⟨a2,cap2,rfl,hcap2,hmax2⟩:=hd.shape;have HS:=lhd hs;have HD:=lhd hd;have HG:=lhd hg;have HR:=lhd hr;have HC:=lhd hc;have HW:=lhd hW;clear hs hd hg hr hc hW;have hmm:= @run_makeMap Tryz.prog;go_enter Tryz.func26,Tryz.ntmps26;go_wp2_with fail;refine(zmB _ L _ HD.out HG.out HC.out (by omega)).mono ?_;rintro e w1 ⟨rfl,hm,hb1⟩;have HM:=lhd hm;have HB1:=lhd hb1;have hsz1:=hb1.size;clear hm hb1;go_wp2_with fail;refine(zb1 _ w.heap.size L.length rs L w1 (HS.out.below HB1.out) HM.out (HG.out.below HB1.out) HR.out hl).mono ?_;rintro e w2 ⟨rfl,hb2⟩;have HB2:=lhd hb2;have hsz2:=hb2.size;cases hv:zsz cv (knd L) 0 false rs
 ·have HF:=lhd (show zfM cv (L.map Dcl.dc) rs=[]by unfold zfM;rw[if_neg (by rw[show zsz cv (knL cv (L.map Dcl.dc)) 0 false rs=false from hv];simp)]);clear hv hb2;go_wp2_with fail;go_ret;exact⟨znf (by rw[HF.out];rfl),zfj HB1.out HB2.out⟩
 ·have HF:=lhd (show zfM cv (L.map Dcl.dc) rs=fmtT L false rs by unfold zfM;rw[if_pos hv]);have HV0:=lhd hv;have HI0:=lhd (show FmI w w2 L (fmtT L false rs) (w2.alloc (.cells #[.pointer none,.slice none 0 0] 101)) [] (fmtT L false rs)from⟨Lib.fresh_isBuilder _ _ _,rfl,(Below.refl _ _).alloc (Nat.le_refl _) _⟩);have HWL:=lhd (show(fmtT L false rs).length≤140737488351232 from HF.out▸HW.out);clear hv hb2 HW;go_wp2_with fail
  go_loopw [8,24] (fun op i wr=>∃(j:Nat) (o:Bool) (T:Bs),j≤rs.length∧op=.bool o∧i=.int .i64 j∧FmI w w2 L (fmtT L false rs) wr T (fmtT L o (rs.drop j))∧∃(x:Int) (b:Bool),0≤x∧zsz cv (knd L) x b (rs.drop j)=true)
   (fun _ i _=>rs.length-(intOf i).toNat)
  case atStart=>exact⟨0,false,[],Nat.zero_le _,rfl,rfl,HI0.out,0,false,Int.le_refl 0,HV0.out⟩
  case round=>
   obtain⟨j,o,T,hj,rfl,rfl,hi,x,b,hx0,hvr⟩:=hrel;have HI:=lhd hi;have HVR:=lhd hvr;clear hi hvr;by_cases hlt:j<rs.length
   ·have hb0:=zfj HB1.out HB2.out;obtain⟨bb,oo,rfl,c0,c1,c2,c3⟩:=(HS.out.below (hb0.trans (HI.out.k.mono hb0.size))).recs hlt;have hdr:rs.drop j=rs[j]::rs.drop (j+1):=List.drop_eq_getElem_cons hlt;rw[hdr]at HVR HI;obtain⟨hr1,hr2⟩:=HR.out _ (List.getElem_mem hlt);obtain⟨r,hr⟩:∃r,rs[j]=r:=⟨_,rfl⟩;rw[hr]at c0 c1 c2 c3 HVR HI hr1 hr2;clear hdr hr hb0;obtain⟨k,t,code,vl⟩:=r;dsimp only at c0 c1 c2 c3 hr1 hr2;rw[zfE]at HI;have hal:Below wr.heap.size wr (wr.alloc (.cells #[.int .i64 k,.int .i64 t,.string (bsB code),.string (bsB vl)] 47)):=(Below.refl _ _).alloc (Nat.le_refl _) _;have hx:=zan.fresh wr #[.int .i64 k,.int .i64 t,.string (bsB code),.string (bsB vl)] 47;have hxh:=heap_alloc_new wr (.cells #[.int .i64 k,.int .i64 t,.string (bsB code),.string (bsB vl)] 47);have HX:=lhd hx;have HXH:=lhd hxh;have HI1:=lhd (HI.out.keep hal);have x0:=hx.cell (j:=0) rfl;have q1:(0:Int)≤(j:Int):=by omega
    have q2:(j:Int)<(rs.length:Int):=by omega
    have hw:IntKind.i64.wrap ((j:Int)+1)=(j:Int)+1:=IntWalk.i64_in _ (by omega);clear hal hx hxh;go_upto_region 10 with fail;go_cut [33] (fun u wc=>u=.bool (decide (o=true∧k≠1))∧wc=wr.alloc (.cells #[.int .i64 k,.int .i64 t,.string (bsB code),.string (bsB vl)] 47))
    case first=>
     cases o
     ·go_wp2_with fail;go_meet
      case rel=>exact⟨by simp,rfl⟩
     ·by_cases k1:k=1
      ·subst k1;go_wp2_with fail;go_meet
       case rel=>exact⟨by simp,rfl⟩
      ·have hk1:(k==(1:Int))=false:=by rw[beq_eq_false_iff_ne];exact k1
       go_wp2_with fail;go_meet
       case rel=>exact⟨by simp[k1],rfl⟩
    case rest=>
    obtain⟨rfl,rfl⟩:=hcut;have hzz:wr.heap.size<(wr.alloc (.cells #[.int .i64 k,.int .i64 t,.string (bsB code),.string (bsB vl)] 47)).heap.size:=by simp
    go_upto_if 33 with fail
    go_cut [8] (fun op wc=>∃T1,op=.bool (if o=true∧k≠1 then false else o)∧FmI w w2 L (fmtT L false rs) wc T1 (ziu (zmY cv (knd L) (L.map Dcl.dc) (k,t,code,vl))++fmtT L (zk6 (k,t,code,vl) o) (rs.drop (j+1)))∧zan wc wr.heap.size [.int .i64 k,.int .i64 t,.string (bsB code),.string (bsB vl)]∧wr.heap.size<wc.heap.size)
    case first=>
     by_cases hok:o=true∧k≠1
     ·have HI2:=HI1;rw[if_pos hok]at HI2;rw[decide_eq_true hok];go_wp2_with (go_at_call 54;refine(FmI.line (s:=sEnd) HI2.out HWL.out).mono ?_;rintro e w5 ⟨rfl,h5,k5⟩)
      have HX5:=k5.row HXH.out (by decide) HX.out;have hz5:=Nat.lt_of_lt_of_le hzz k5.b.size;go_meet
      case rel=>exact⟨_,by rw[if_pos hok],h5,HX5,hz5⟩
     ·have HI2:=HI1;rw[if_neg hok,List.nil_append]at HI2;rw[decide_eq_false hok];go_wp2_with fail;go_meet
      case rel=>exact⟨_,by rw[if_neg hok],HI2.out,HX.out,hzz⟩
    case rest=>
     obtain⟨T1,rfl,h1,hx1,hz1⟩:=hcut;have H1:=lhd h1;have HX1:=lhd hx1;clear h1 hx1 HX HXH HI1 HI;have x0:=HX1.out.cell (j:=0) rfl;have x1:=HX1.out.cell (j:=1) rfl;have x2:=HX1.out.cell (j:=2) rfl;have x3:=HX1.out.cell (j:=3) rfl;rcases zsE HVR.out hx0 with⟨rfl,hto,ht2,hvn⟩|⟨rfl,hkn,hvn⟩|⟨rfl,b',hvn⟩|⟨rfl,b',hvn⟩|⟨rfl,hvn⟩
     ·have HVN:=lhd hvn;have hlo: -9223372036854775808≤t:=by omega
      have hhi:t≤9223372036854775807:=by omega
      have hil:=Lib.itoa_length_le t hlo hhi;have HGW:=fun(W:World) (hb:Below w2.heap.size w2 W)=>HG.out.below ((zfj HB1.out HB2.out).trans (hb.mono (zfj HB1.out HB2.out).size));have hgl:Glob wc:=HGW _ H1.out.k;have H2:=H1;rw[show zmY cv (knd L) (L.map Dcl.dc) (0,t,code,vl)=[35::Lib.itoa t]from rfl,ziy,show zk6 (0,t,code,vl) o=false by simp[zk6]]at H2;clear hvn HGW;go_wp2_with (go_at_call 56;refine(Tryz.strconv_Itoa _ hlo hhi _ hgl).mono ?_;rintro e w4 ⟨rfl,kk,os,rfl⟩)
      have h5:=FmI.line (s:=35::Lib.itoa t) (H2.out.keep (Lib.below_grow _ _ (Nat.le_refl _) kk os)) HWL.out;have e1:(⟨#[35]⟩++⟨(Lib.itoa t).toArray⟩:ByteArray)=bsB (35::Lib.itoa t):=by apply ba_eq;simp[bsB,ByteArray.data_append]
      rw[e1];refine h5.mono ?_;rintro e w6 ⟨he6,h6,k6⟩;subst he6;have H6:=lhd h6;clear h5 h6 k6 e1;go_wp2_with fail;go_roundw;case rel=>exact⟨j+1,false,_,by omega,rfl,by go_num,H6.out,t,b,hto,HVN.out⟩
      case measure=>simp[intOf];omega
     ·have HVN:=lhd hvn;have hkm:knd L code=(knF L code).map Dcl.dc:=zh4 L code;have hb12:=zfj HB1.out HB2.out;have hlk:=zpe ((HM.out.below HB2.out (by have:=HM.out.lt;exact this)).below (H1.out.k) (by have:=HM.out.lt;omega)) (code:=code) (by omega);cases hkf:knF L code with
      |none=>rw[hkm,hkf]at hkn;cases hkn
      |some d=>
       rw[hkf]at hlk hkm;obtain⟨n0,n1,n2,n3,n4,n5,n6,n7,n8,n9⟩:=d;rw[show((some (⟨n0,n1,n2,n3,n4,n5,n6,n7,n8,n9⟩:Dcl)).getD dz)=⟨n0,n1,n2,n3,n4,n5,n6,n7,n8,n9⟩from rfl]at hlk;dsimp only[dclV]at hlk;have hcs:(bsB code).size≤100000:=by rw[zbt];omega
       have hvs:(bsB vl).size≤100000:=by rw[zbt];omega
       have H2:=H1;rw[show zmY cv (knd L) (L.map Dcl.dc) (1,t,code,vl)=[cmdK cv (knd L) (1,t,code,vl)]from rfl,ziy,show zk6 (1,t,code,vl) o=o by simp[zk6],show cmdK cv (knd L) (1,t,code,vl)=cmdL cv n8 n9 vl code by unfold cmdK;dsimp only;rw[hkm];rfl]at H2;have hal2:Below wc.heap.size wc (wc.alloc (.cells #[.string (bsB n0),.int .i64 n1,.int .i64 n2,.int .i64 n3,.bool n4,.int .i64 n5,.int .i64 n6,.string (bsB n7),.int .i64 n8,.int .i64 n9] 68)):=(Below.refl _ _).alloc (Nat.le_refl _) _;have hx2:=HX1.out.below hal2 hz1;have hy2:=zan.fresh wc #[.string (bsB n0),.int .i64 n1,.int .i64 n2,.int .i64 n3,.bool n4,.int .i64 n5,.int .i64 n6,.string (bsB n7),.int .i64 n8,.int .i64 n9] 68;have y2:=hx2.cell (j:=2) rfl;have y3:=hx2.cell (j:=3) rfl;have z8:=hy2.cell (j:=8) rfl;have z9:=hy2.cell (j:=9) rfl;have HC1:=lhd (zrU n8 n9 (bsB vl) (bsB code) _ (HG.out.below (hb12.trans ((H2.out.k.trans (hal2.mono H2.out.k.size)).mono hb12.size))) hvs hcs);have HA2:=lhd hal2;clear hvn hkm hkn hkf hal2 hx2 hy2 hb12;go_wp2_with (go_at_call 57;refine HC1.out.mono ?_;rintro e w5 ⟨rfl,hb5⟩)
       have h6:=FmI.line (H2.out.keep (zfj HA2.out hb5)) HWL.out;rw[show bsB (cmdL cv n8 n9 vl code)=cmdB n8 n9 (bsB vl) (bsB code)by unfold cmdB;rw[zbq,zbq]]at h6;refine h6.mono ?_;rintro e w6 ⟨he6,h7,k7⟩;subst he6;have H7:=lhd h7;clear h6 h7 k7 hb5;go_wp2_with fail;go_roundw;case rel=>exact⟨j+1,o,_,by omega,by simp,by go_num,H7.out,x,b,hx0,HVN.out⟩
       case measure=>simp[intOf];omega
     ·have HVN:=lhd hvn;have H2:=H1;rw[show zmY cv (knd L) (L.map Dcl.dc) (2,t,code,vl)=znv::(zkG cv [] (L.map Dcl.dc)++ [sEnd])from rfl,ziw,ziv,ziy,show zk6 (2,t,code,vl) o=false by simp[zk6],List.append_assoc,List.append_assoc]at H2;generalize hRR:fmtT L false (rs.drop (j+1))=RR at H2;have HRR:=lhd hRR;clear hRR;obtain⟨wo,hwo⟩:∃x,x=wr:=⟨_,rfl⟩;subst hwo;clear hvn;go_wp2_with (go_at_call 54;refine(FmI.line (s:=znv) H2.out HWL.out).mono ?_;rintro e w5 ⟨rfl,h5,k5⟩;have H5:=lhd h5;have hz5:=h5.k.size;clear h5 k5)
      have hb12:=zfj HB1.out HB2.out;have HM5:=lhd (SMap.made w5 Tryz.prog 9);have HI5:=lhd (H5.out.keep (((Below.refl _ w5).alloc (Nat.le_refl _) (.map #[] 0))));go_wp2_with fail
      go_loopw [70] (fun i wi=>∃(q:Nat) (T2:Bs) (done:List Bs) (f:BsM→Option Value),q≤L.length∧i=.int .i64 q∧FmI w w2 L (fmtT L false rs) wi T2 (ziu (zkG cv done ((L.drop q).map Dcl.dc))++(zir sEnd++RR))∧SMap Tryz.prog 9 wi w5.heap.size q f∧∀c,(f c).getD (.bool false)=.bool (decide (c∈done)))
       (fun i _=>L.length-(intOf i).toNat)
      case atStart=>exact⟨0,_,[],_,Nat.zero_le _,rfl,HI5.out,HM5.out,fun c=>by simp⟩
      case round=>
       obtain⟨q,T2,done,f,hq,rfl,hi2,hm,hf⟩:=hrel;obtain⟨wi,hwi⟩:∃x,x=wr:=⟨_,rfl⟩;subst hwi;by_cases hlq:q<L.length
       ·have hbw:Below w.heap.size w wi:=hb12.trans (hi2.k.mono hb12.size);obtain⟨b9,o9,rfl,hcl⟩:=(HD.out.below hbw).dcls hlq;have hdq:(L.drop q).map Dcl.dc=L[q].dc::(L.drop (q+1)).map Dcl.dc:=by rw[List.drop_eq_getElem_cons hlq];rfl
        rw[hdq,zkK]at hi2;have hcd:=HC.out L[q] (List.getElem_mem hlq);generalize L[q]=d at hcl hcd hi2;clear hdq;obtain⟨n0,n1,n2,n3,n4,n5,n6,n7,n8,n9⟩:=d;dsimp only at hi2 hcd;have g0:wi.cell? ⟨b9,o9+q*10,none⟩=some (.string (bsB n0)):=hcl 0 _ rfl;have g1:wi.cell? ⟨b9,o9+q*10+1,none⟩=some (.int .i64 n1):=hcl 1 _ rfl;have g2:wi.cell? ⟨b9,o9+q*10+2,none⟩=some (.int .i64 n2):=hcl 2 _ rfl;have g3:wi.cell? ⟨b9,o9+q*10+3,none⟩=some (.int .i64 n3):=hcl 3 _ rfl;have g4:wi.cell? ⟨b9,o9+q*10+4,none⟩=some (.bool n4):=hcl 4 _ rfl;have g5:wi.cell? ⟨b9,o9+q*10+5,none⟩=some (.int .i64 n5):=hcl 5 _ rfl;have g6:wi.cell? ⟨b9,o9+q*10+6,none⟩=some (.int .i64 n6):=hcl 6 _ rfl;have g7:wi.cell? ⟨b9,o9+q*10+7,none⟩=some (.string (bsB n7)):=hcl 7 _ rfl;have g8:wi.cell? ⟨b9,o9+q*10+8,none⟩=some (.int .i64 n8):=hcl 8 _ rfl;have g9:wi.cell? ⟨b9,o9+q*10+9,none⟩=some (.int .i64 n9):=hcl 9 _ rfl;clear hcl;have hal:Below wi.heap.size wi (wi.alloc (.cells #[.string (bsB n0),.int .i64 n1,.int .i64 n2,.int .i64 n3,.bool n4,.int .i64 n5,.int .i64 n6,.string (bsB n7),.int .i64 n8,.int .i64 n9] 68)):=(Below.refl _ _).alloc (Nat.le_refl _) _;have HBK:=lhd (heap_alloc_new wi (.cells #[.string (bsB n0),.int .i64 n1,.int .i64 n2,.int .i64 n3,.bool n4,.int .i64 n5,.int .i64 n6,.string (bsB n7),.int .i64 n8,.int .i64 n9] 68));have HHI:=lhd (hi2.keep hal);have HMI:=lhd (hm.below hal hm.lt);generalize hw1:wi.alloc (.cells #[.string (bsB n0),.int .i64 n1,.int .i64 n2,.int .i64 n3,.bool n4,.int .i64 n5,.int .i64 n6,.string (bsB n7),.int .i64 n8,.int .i64 n9] 68)=wb at*;have x0:=(zls HBK.out).cell (j:=0) rfl;have x1:=(zls HBK.out).cell (j:=1) rfl;have x2:=(zls HBK.out).cell (j:=2) rfl;have x3:=(zls HBK.out).cell (j:=3) rfl;have x4:=(zls HBK.out).cell (j:=4) rfl;have x5:=(zls HBK.out).cell (j:=5) rfl;have x6:=(zls HBK.out).cell (j:=6) rfl;have x7:=(zls HBK.out).cell (j:=7) rfl;have x8:=(zls HBK.out).cell (j:=8) rfl;have x9:=(zls HBK.out).cell (j:=9) rfl;have HBW:=lhd (hbw.trans (hal.mono hbw.size));have HCN:=lhd (zmA ⟨n0,n1,n2,n3,n4,n5,n6,n7,n8,n9⟩ wb (HG.out.below HBW.out) hcd);have HFD:=lhd hf;have HCNA:=lhd (fun(W:World) (hgw:Glob W)=>zmA ⟨n0,n1,n2,n3,n4,n5,n6,n7,n8,n9⟩ W hgw hcd);have HQW:IntKind.i64.wrap ((q:Int)+1)=(q:Int)+1:=IntWalk.i64_in _ (by omega);have q5:(0:Int)≤(q:Int):=by omega
        have q6:(q:Int)<(L.length:Int):=by omega
        generalize hcn:cnt cv (Dcl.dc ⟨n0,n1,n2,n3,n4,n5,n6,n7,n8,n9⟩)=cn at*;clear hal hbw hi2 hm hf hcn;go_upto_region 25 with fail;go_cut [87] (fun u wc=>u=.bool (decide (cn=true∧n8=0∧n7∉done))∧Below wb.heap.size wb wc)
        case first=>
         cases cn
         ·go_wp2_with (go_at_call 58;refine HCN.out.mono ?_;rintro e w6 ⟨rfl,hb6⟩)
          go_meet
          case rel=>exact⟨by simp,hb6⟩
         ·by_cases h8:n8=0
          ·subst h8;by_cases hdn:n7∈done
           ·go_wp2_with (go_at_call 58;refine HCN.out.mono ?_;rintro e w6 ⟨rfl,hb6⟩;have y7:=(hb6.cell (zbU x7)).trans x7;have y8:=(hb6.cell (zbU x8)).trans x8;have hlk:=zpc (HMI.out.below hb6 HMI.out.lt) HFD.out hcd;rw[decide_eq_true hdn]at hlk)
            go_meet
            case rel=>exact⟨by simp[hdn],hb6⟩
           ·go_wp2_with (go_at_call 58;refine HCN.out.mono ?_;rintro e w6 ⟨rfl,hb6⟩;have y7:=(hb6.cell (zbU x7)).trans x7;have y8:=(hb6.cell (zbU x8)).trans x8;have hlk:=zpc (HMI.out.below hb6 HMI.out.lt) HFD.out hcd;rw[decide_eq_false hdn]at hlk)
            go_meet
            case rel=>exact⟨by simp[hdn],hb6⟩
          ·have h8b:((n8:Int)==0)=false:=by rw[beq_eq_false_iff_ne];exact h8
           go_wp2_with (go_at_call 58;refine HCN.out.mono ?_;rintro e w6 ⟨rfl,hb6⟩;have y8:=(hb6.cell (zbU x8)).trans x8)
           go_meet
           case rel=>exact⟨by simp[h8],hb6⟩
        case rest=>
        obtain⟨rfl,hb6⟩:=hcut;have HI6:=lhd (HHI.out.keep hb6);have HM6:=lhd (HMI.out.below hb6 HMI.out.lt);have hbk6:=HBK.out;rw[←hb6.block _ (Array.getElem?_eq_some_iff.1 HBK.out).1]at hbk6;have HBK6:=lhd hbk6;have y0:=(zls hbk6).cell (j:=0) rfl;have y1:=(zls hbk6).cell (j:=1) rfl;have y2:=(zls hbk6).cell (j:=2) rfl;have y3:=(zls hbk6).cell (j:=3) rfl;have y4:=(zls hbk6).cell (j:=4) rfl;have y5:=(zls hbk6).cell (j:=5) rfl;have y6:=(zls hbk6).cell (j:=6) rfl;have y7:=(zls hbk6).cell (j:=7) rfl;have y8:=(zls hbk6).cell (j:=8) rfl;have y9:=(zls hbk6).cell (j:=9) rfl;have HBW6:=lhd (HBW.out.trans (hb6.mono HBW.out.size));clear x0 x1 x2 x3 x4 x5 x6 x7 x8 x9 g0 g1 g2 g3 g4 g5 g6 g7 g8 g9 hb6 hbk6 HHI HMI HBK HBW HCN;go_upto_if 87 with fail
        go_cut [] (fun wd=>∃T3,FmI w w2 L (fmtT L false rs) wd T3 (ziu (zkG cv (if cn=true then n7::done else done) ((L.drop (q+1)).map Dcl.dc))++(zir sEnd++RR))∧SMap Tryz.prog 9 wd w5.heap.size q f∧wd.heap[wi.heap.size]? =some (.cells #[.string (bsB n0),.int .i64 n1,.int .i64 n2,.int .i64 n3,.bool n4,.int .i64 n5,.int .i64 n6,.string (bsB n7),.int .i64 n8,.int .i64 n9] 68 (0,0))∧Below w.heap.size w wd)
        case first=>
         by_cases hcc:cn=true∧n8=0∧n7∉done
         ·have HI7:=HI6;rw[if_pos hcc,List.append_assoc]at HI7;rw[decide_eq_true hcc];have hvs:=zsY n8 n9;have hcs:(bsB n7).size≤100000:=by rw[zbt];omega
          have HE:=lhd (show cmdB n8 n9 (vi n8 n9) (bsB n7)=bsB (cmdL cv n8 n9 (vi n8 n9).data.toList n7)by unfold cmdB;rw[zbq]);clear hcc HI6;go_wp2_with fail
          go_region_held3 (fun w'=>w'.cell? ⟨wi.heap.size,7,none⟩=some (.string (bsB n7))∧w'.cell? ⟨wi.heap.size,8,none⟩=some (.int .i64 n8)∧w'.cell? ⟨wi.heap.size,9,none⟩=some (.int .i64 n9))
           (first|exact⟨y7,y8,y9⟩|exact⟨z7,z8,z9⟩|exact⟨u7,u8,u9⟩|exact⟨v7,v8,v9⟩|go_keep)
           (first
             |(go_at_call 59;refine(zr1 n8 n9 _).mono ?_;rintro e w7 ⟨rfl,hb7'⟩;have hb7:=zbc hb7';have HB7:=lhd hb7;have hbk7:=HBK6.out;rw[←hb7.block _ (Array.getElem?_eq_some_iff.1 HBK6.out).1]at hbk7;have HBK7:=lhd hbk7;have z7:=(zls hbk7).cell (j:=7) rfl;have z8:=(zls hbk7).cell (j:=8) rfl;have z9:=(zls hbk7).cell (j:=9) rfl;clear hb7 hb7' hbk7)
             |(go_at_call 57;refine(zrU n8 n9 (vi n8 n9) (bsB n7) _ (HG.out.below (HBW6.out.trans (HB7.out.mono HBW6.out.size))) (by omega) hcs).mono ?_;rintro e w8 ⟨rfl,hb8⟩;have HB8:=lhd (zfj HB7.out hb8);have hbk8:=HBK7.out;rw[←hb8.block _ (Array.getElem?_eq_some_iff.1 HBK7.out).1]at hbk8;have HBK8:=lhd hbk8;have u7:=(zls hbk8).cell (j:=7) rfl;have u8:=(zls hbk8).cell (j:=8) rfl;have u9:=(zls hbk8).cell (j:=9) rfl;rw[HE.out];clear hb8 hbk8)
             |(go_at_call 54;refine(FmI.line (HI7.out.keep HB8.out) HWL.out).mono ?_;rintro e w9 ⟨rfl,h9,k9⟩;have HI9:=lhd h9;have HK9:=lhd k9;have hbk9:=k9.keep _ _ HBK8.out (fun C' T' fr' e=>by injection e with _ e _;subst e;decide);have HBK9:=lhd hbk9;have v7:=(zls hbk9).cell (j:=7) rfl;have v8:=(zls hbk9).cell (j:=8) rfl;have v9:=(zls hbk9).cell (j:=9) rfl;clear h9 k9 hbk9)
             |fail "no arm")
          go_wp2_with fail;go_meet
          case rel=>exact⟨_,HI9.out,HK9.out.map (HM6.out.below HB8.out HM6.out.lt),HBK9.out,(HBW6.out.trans (HB8.out.mono HBW6.out.size)).trans (HK9.out.b.mono hb12.size)⟩
         ·have HI7:=HI6;rw[if_neg hcc,List.nil_append]at HI7;rw[decide_eq_false hcc];go_wp2_with fail;go_meet
          case rel=>exact⟨_,HI7.out,HM6.out,HBK6.out,HBW6.out⟩
        case rest=>
        obtain⟨T3,h3,hm3,hbk3,hbw3⟩:=hcut;obtain⟨wd,hwd⟩:∃x,x=wc:=⟨_,rfl⟩;subst hwd;have HI8:=lhd h3;have HM8:=lhd hm3;have HBK8:=lhd hbk3;have HBW8:=lhd hbw3;have s0:=(zls hbk3).cell (j:=0) rfl;have s1:=(zls hbk3).cell (j:=1) rfl;have s2:=(zls hbk3).cell (j:=2) rfl;have s3:=(zls hbk3).cell (j:=3) rfl;have s4:=(zls hbk3).cell (j:=4) rfl;have s5:=(zls hbk3).cell (j:=5) rfl;have s6:=(zls hbk3).cell (j:=6) rfl;have s7:=(zls hbk3).cell (j:=7) rfl;have s8:=(zls hbk3).cell (j:=8) rfl;have s9:=(zls hbk3).cell (j:=9) rfl;have hlk:=zpc hm3.drew HFD.out hcd;have hn7:(bsB n7).size≤maxLen:=by rw[zbt];unfold maxLen;omega
        have hqm:q<maxLen:=by unfold maxLen;omega
        clear h3 hbk3 hbw3 y0 y1 y2 y3 y4 y5 y6 y7 y8 y9 HI6 HM6 HBK6 HBW6;by_cases hdn:n7∈done
        ·rw[decide_eq_true hdn]at hlk;obtain⟨we,r4,h4,q4⟩:=hm3.drew.put (t:=118) Tryz.underlying9 Tryz.underlying118 hqm (bsB n7) hn7 (.bool true);have HM9:=lhd h4;have HQ9:=lhd q4;have hbk9:wd.drew.heap[wi.heap.size]? =some (.cells #[.string (bsB n0),.int .i64 n1,.int .i64 n2,.int .i64 n3,.bool n4,.int .i64 n5,.int .i64 n6,.string (bsB n7),.int .i64 n8,.int .i64 n9] 68 (0,0)):=HBK8.out;rw[←q4.block wi.heap.size (Array.getElem?_eq_some_iff.1 HBK8.out).1 (fun e=>by injection e with e;exact hm3.no_cells (e▸HBK8.out))]at hbk9;have HBK9:=lhd hbk9;have t0:=(zls hbk9).cell (j:=0) rfl;have t1:=(zls hbk9).cell (j:=1) rfl;have t2:=(zls hbk9).cell (j:=2) rfl;have t3:=(zls hbk9).cell (j:=3) rfl;have t4:=(zls hbk9).cell (j:=4) rfl;have t5:=(zls hbk9).cell (j:=5) rfl;have t6:=(zls hbk9).cell (j:=6) rfl;have t7:=(zls hbk9).cell (j:=7) rfl;have t8:=(zls hbk9).cell (j:=8) rfl;have t9:=(zls hbk9).cell (j:=9) rfl;clear h4 q4 hm3 hbk9;go_wp2_with fail;refine wp_region_held_drew (S:=(fun w'=>w'.cell? ⟨wi.heap.size,7,none⟩=some (.string (bsB n7)))) (by kernel_rfl) s7 (fun hHeld=>?_);refine tkH 0 hHeld (v:=?_) ?_;simp only[tkS];refine tkH 1 hHeld (v:=?_) ?_;simp only[tkS];refine tkH 2 hHeld (v:=?_) ?_;simp only[tkS];refine tkH 3 hHeld (v:=?_) ?_;simp only[tkS];refine tkH 4 hHeld (v:=?_) ?_;simp only[tkS];refine tkH 5 hHeld (v:=?_) ?_;simp only[tkS];refine oneH 6 (fun K hK=>?_);go_simp;refine hK.out _ _ s7 (fun hHeld=>?_);clear hK;try simp only[tkS]
         refine tkH 7 hHeld (v:=?_) ?_;simp only[tkS];refine wpAnyH_take (i:=8) (v:=undef) rfl (by kernel_rfl) (by kernel_rfl) (by kernel_rfl) (fun _ _ _ h=>h) (Or.inr ⟨by rfl,rfl⟩) hHeld ?_;simp only[tkS];refine wpAnyH_take (i:=9) (v:=undef) rfl (by kernel_rfl) (by kernel_rfl) (by kernel_rfl) (fun _ _ _ h=>h) (Or.inr ⟨by rfl,rfl⟩) hHeld ?_;simp only[tkS];refine tkH 10 hHeld (v:=?_) ?_;simp only[tkS];refine oneH 11 (fun K hK=>?_);go_simp;refine hK.out _ _ t7 (fun hHeld=>?_);clear hK;try simp only[tkS]
         refine wpAnyH_done (by kernel_rfl) ?_ _;clear hHeld;go_wp2_with fail;go_roundw;case rel=>exact⟨q+1,T3,_,_,by omega,by go_num,(HI8.out.keep (Below.refl _ _).drew).grown HM8.out.drew HQ9.out hz5,HM9.out,zkI HFD.out (by rw[decide_eq_true hdn];rfl)⟩
         case measure=>simp[intOf];omega
        ·rw[decide_eq_false hdn]at hlk;clear hm3;go_wp2_with fail
         go_region_held3 (fun w'=>w'.cell? ⟨wi.heap.size,0,none⟩=some (.string (bsB n0))∧w'.cell? ⟨wi.heap.size,1,none⟩=some (.int .i64 n1)∧w'.cell? ⟨wi.heap.size,2,none⟩=some (.int .i64 n2)∧w'.cell? ⟨wi.heap.size,3,none⟩=some (.int .i64 n3)∧w'.cell? ⟨wi.heap.size,4,none⟩=some (.bool n4)∧w'.cell? ⟨wi.heap.size,5,none⟩=some (.int .i64 n5)∧w'.cell? ⟨wi.heap.size,6,none⟩=some (.int .i64 n6)∧w'.cell? ⟨wi.heap.size,7,none⟩=some (.string (bsB n7))∧w'.cell? ⟨wi.heap.size,8,none⟩=some (.int .i64 n8)∧w'.cell? ⟨wi.heap.size,9,none⟩=some (.int .i64 n9))
          (first|exact⟨s0,s1,s2,s3,s4,s5,s6,s7,s8,s9⟩|exact⟨u0,u1,u2,u3,u4,u5,u6,u7,u8,u9⟩|exact⟨t0,t1,t2,t3,t4,t5,t6,t7,t8,t9⟩|go_keep)
          (first
            |(go_at_call 58;refine(HCNA.out _ (HG.out.below HBW8.out.drew)).mono ?_;rintro e w9 ⟨rfl,hb9'⟩;have hb9:=zbc hb9';obtain⟨we,r4,h4,q4⟩:=(HM8.out.below hb9 HM8.out.lt).put (t:=118) Tryz.underlying9 Tryz.underlying118 hqm (bsB n7) hn7 (.bool cn);have HM9:=lhd h4;have HI9:=lhd ((HI8.out.keep hb9).grown (HM8.out.below hb9 HM8.out.lt) q4 hz5);have hbk8:=HBK8.out;rw[←hb9.block wi.heap.size (Array.getElem?_eq_some_iff.1 HBK8.out).1]at hbk8;have hbk9:=hbk8;rw[←q4.block wi.heap.size (Array.getElem?_eq_some_iff.1 hbk8).1 (fun e=>by injection e with e;exact(HM8.out.below hb9 HM8.out.lt).no_cells (e▸hbk8))]at hbk9;have u0:=(zls hbk8).cell (j:=0) rfl;have t0:=(zls hbk9).cell (j:=0) rfl;have u1:=(zls hbk8).cell (j:=1) rfl;have t1:=(zls hbk9).cell (j:=1) rfl;have u2:=(zls hbk8).cell (j:=2) rfl;have t2:=(zls hbk9).cell (j:=2) rfl;have u3:=(zls hbk8).cell (j:=3) rfl;have t3:=(zls hbk9).cell (j:=3) rfl;have u4:=(zls hbk8).cell (j:=4) rfl;have t4:=(zls hbk9).cell (j:=4) rfl;have u5:=(zls hbk8).cell (j:=5) rfl;have t5:=(zls hbk9).cell (j:=5) rfl;have u6:=(zls hbk8).cell (j:=6) rfl;have t6:=(zls hbk9).cell (j:=6) rfl;have u7:=(zls hbk8).cell (j:=7) rfl;have t7:=(zls hbk9).cell (j:=7) rfl;have u8:=(zls hbk8).cell (j:=8) rfl;have t8:=(zls hbk9).cell (j:=8) rfl;have u9:=(zls hbk8).cell (j:=9) rfl;have t9:=(zls hbk9).cell (j:=9) rfl;clear hb9 hb9' h4 q4 hbk8 hbk9)
            |fail "no arm")
         go_wp2_with fail;go_roundw;case rel=>exact⟨q+1,T3,_,_,by omega,by go_num,HI9.out,HM9.out,zkI HFD.out (by rw[decide_eq_false hdn];rfl)⟩
         case measure=>simp[intOf];omega
       ·obtain rfl:q=L.length:=by omega
        rw[show ziu (zkG cv done ((L.drop L.length).map Dcl.dc))=[]by rw[List.drop_length];rfl,List.nil_append]at hi2;have HI6:=lhd hi2;clear hi2 hm hf hmm;go_wp2_with (go_at_call 54;refine(FmI.line (s:=sEnd) HI6.out HWL.out).mono ?_;rintro e w6 ⟨rfl,h6,k6⟩;have H6:=lhd h6;clear h6 k6)
        go_roundw;case rel=>exact⟨j+1,false,_,by omega,rfl,by go_num,by rw[HRR.out];exact H6.out,x,b',hx0,HVN.out⟩
        case measure=>simp[intOf];omega
     ·skip
      have HVN:=lhd hvn;have H2:=H1;rw[show zmY cv (knd L) (L.map Dcl.dc) (3,t,code,vl)=[znw]from rfl,ziy,show zk6 (3,t,code,vl) o=true by simp[zk6]]at H2;clear hvn;go_wp2_with (go_at_call 54;refine(FmI.line (s:=znw) H2.out HWL.out).mono ?_;rintro e w5 ⟨rfl,h5,k5⟩;have H5:=lhd h5;clear h5 k5)
      go_roundw;case rel=>exact⟨j+1,true,_,by omega,rfl,by go_num,H5.out,x,b',hx0,HVN.out⟩
      case measure=>simp[intOf];omega
     ·skip
      have HVN:=lhd hvn;have H2:=H1;rw[show zmY cv (knd L) (L.map Dcl.dc) (4,t,code,vl)=[znx]from rfl,ziy,show zk6 (4,t,code,vl) o=true by simp[zk6]]at H2;clear hvn;go_wp2_with (go_at_call 54;refine(FmI.line (s:=znx) H2.out HWL.out).mono ?_;rintro e w5 ⟨rfl,h5,k5⟩;have H5:=lhd h5;clear h5 k5)
      go_roundw;case rel=>exact⟨j+1,true,_,by omega,rfl,by go_num,H5.out,x,b,hx0,HVN.out⟩
      case measure=>simp[intOf];omega
   ·obtain rfl:j=rs.length:=by omega
    rw[List.drop_length]at HI;have hb12:=zfj HB1.out HB2.out;cases o
    ·have HI2:=HI;rw[show fmtT L false []=[]from rfl]at HI2;go_wp2_with (go_at_call 51;refine(Tryz.Builder_String_any w2.heap.size w2.heap.size T _ HI2.out.bld HI2.out.k.size).mono ?_;rintro e w6 ⟨rfl,hb6⟩)
     go_ret;exact⟨znf (by rw[HF.out,HI2.out.eq,List.append_nil];rfl),hb12.trans ((HI2.out.k.trans hb6).mono hb12.size)⟩
    ·have HI2:=HI;rw[show fmtT L true []=zir sEnd++ []from rfl]at HI2;go_wp2_with (go_at_call 54;refine(FmI.line (s:=sEnd) HI2.out HWL.out).mono ?_;rintro e w5 ⟨rfl,h5,k5⟩)
     go_wp2_with (go_at_call 51;refine(Tryz.Builder_String_any w2.heap.size w2.heap.size _ _ h5.bld h5.k.size).mono ?_;rintro e w6 ⟨rfl,hb6⟩)
     go_ret;exact⟨znf (by rw[HF.out,h5.eq,List.append_nil];rfl),hb12.trans ((h5.k.trans hb6).mono hb12.size)⟩
end Go.Proofs.YtfppgpamkdkckaaGreatDoor
