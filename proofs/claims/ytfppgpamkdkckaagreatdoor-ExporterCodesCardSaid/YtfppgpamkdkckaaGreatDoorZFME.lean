import Derived.Deep.DeepHandedRow
import Derived.LaidMore
import Derived.Lib.LaidTab
import Derived.Lib.LaidU8
import Derived.OpenShut
import Derived.ProofKit
import Derived.SevenTiedAt
import Derived.Shelf.Vars
import Derived.Stop.Joined
import Derived.Test.YtfppgpamkdkckaaGreatDoorCards
import Derived.Test.YtfppgpamkdkckaaGreatDoorRows
import Derived.Test.YtfppgpamkdkckaaGreatDoorTie
import Derived.Test.YtfppgpamkdkckaaGreatDoorZFM
set_option maxRecDepth 100000
set_option maxHeartbeats 16000000
namespace Go.Proofs.YtfppgpamkdkckaaGreatDoor
open Go.Joins Go.ChangeShapes Go.WideShapes Go.ChangeAt Go.RowKit Go.Deep
theorem own:ownKnob Tryz.prog.godebug=none:=by kernel_rfl
theorem laidOut:laidOutB Tryz.prog=true:=by kernel_rfl
noncomputable def zib (os:Os):World:=
 let w0:=World.doorLaid Tryz.prog 4000 os
 {w0 with heap:=w0.heap.modify 4 fun
  | .cells _ t frozen=> .cells (Lib.firstTab.map fun z=>Value.int .u8 z).toArray t frozen
  |o=>o}
theorem zic (os:Os) (args:Array Value):laidMetH Tryz.prog Rows.exporterCodesRow.laid ((zib os).forCall (fun _ _=>0) ⟨#[],args,[]⟩).memory:=
 laidMetH_of_parts3 (fuel:=8) (laidMet_of_run' 8 (by kernel_rfl) (by kernel_rfl)) (by kernel_rfl) (by kernel_rfl)
theorem zf8 {W:World} (h:laidMetH Tryz.prog Rows.exporterCodesRow.laid W):Glob W:=by
 rw[MakeChecks.laidMetH_plain _ _ _ (by kernel_rfl)]at h;obtain⟨g,t,cs,fuel,p,h1,h2,h3,h4⟩:=Lib.laidMet.reads h (.tail _ (.tail _ (.head _)));obtain rfl:=Option.some.inj (zf9.symm.trans h1);obtain rfl:=Option.some.inj ((show(Tryz.prog.globals[0]?).map (·.type)=some 263 by kernel_rfl).symm.trans h2);unfold Glob Lib.TabIs;rw[h3,←Lib.cells_of_tab (k:=.u64) (zs:=Lib.pow10Tab) Tryz.underlying263 Tryz.underlying216 (by kernel_rfl) (by kernel_rfl) h4]
theorem zf7 {W:World} (h:W.ShapedOpen Tryz.prog):Glm W:=
 Go.Proofs.cell_of_shapedOpen_int (zero:=#[.int .i64 0]) (t:=3) h (of_decide_eq_true (by kernel_rfl)) (by kernel_rfl) rfl (by kernel_rfl) (by kernel_rfl) Tryz.underlying3
theorem zts {H:Type} {enc:TypeId×Value→H} {a:Assume} {C:Checked} {os:Os} {f:FuncId} {fn:Func} {s:ChangeSpec} {conds:List PathCond} {apart fresh handsOn again:Bool} {X:World→Array Value→Prop}
 (hX:∀(w w':World) (args:Array Value),w.heap=w'.heap→X w args→X w' args)
 (hown:ownKnob C.prog.godebug=none) (started:os.Started) (noInit:C.prog.inits.idxOf? f=none) (hfn:C.prog.funcs[f]? =some fn)
 (hwit:∃(w:World) (tape:Tape) (i:Input),w.os=os∧(w.forCall tape i).Shaped C.prog∧i.vars=[]∧Input.okWide C.prog (w.forCall tape i) .any w.heap.size f i∧
   ((s.pre enc C.prog fn conds apart (w.forCall tape i).memory i.args∧X (w.forCall tape i).memory i.args)∧sizedMet enc C.prog fn (OpenSpec.ofChange s) apart (w.forCall tape i).memory i.args)∧a.holds C.prog (lone (Frame.enter C.prog f i.args .normal) [] (w.forCall tape i)))
 (hcon:∀(W:World) (base:Nat) (args:Array Value) (ds gs:List (DataW H)) (before:List MemPlace),
   (∀(j:Nat) t v,fn.params[j]? =some t→args[j]? =some v→Value.okWide C.prog W .any base t v)→
   DataW.Whole enc C.prog fn.params.toList s.vars apart W args.toList ds gs before→
   (DataW.weightsEach C.prog (fn.params.toList++s.plain.varTypes C.prog) (ds++gs)).all (· ≤reachBytes)=true→X W args→W.ShapedOpen C.prog→
   Calls C.prog f args W fun e W'=>∃v,e=.returned v∧s.post enc C.prog fn apart fresh handsOn again W args v W'):
 ReturnsInHanded a C os f .any (fun w args=>(s.pre enc C.prog fn conds apart w args∧X w args)∧sizedMet enc C.prog fn (OpenSpec.ofChange s) apart w args) (s.post enc C.prog fn apart fresh handsOn again):=by
 refine returnsInHanded_of_calls hown started noInit hwit ?_;intro w tape i _ hsh _ hok hpre _;obtain⟨_,_,_,fn',hfn',_,_,_,_,hval⟩:=hok;have e:fn'=fn:=Option.some.inj (hfn'.symm.trans hfn);subst e;obtain⟨⟨⟨ds,gs,before,hw,_⟩,hx⟩,hz⟩:=hpre;have hw':=DataW.Whole.of_heap (w':=w.forCall tape i) (by rfl) hw;refine(hcon (w.forCall tape i) w.heap.size i.args ds gs before hval hw' (hz.weights hw) (hX _ _ _ (by rfl) hx) hsh).mono fun e W' ⟨v,he,hp⟩=>?_;subst he;exact ChangeSpec.post_blind hp
theorem args_open {H:Type} {enc:TypeId×Value→H} {P:Program} {w:World} {base:Nat} {spare:Nat→Bool} {held:Bool} {t0 t1:TypeId} {args:Array Value} {ds:List (DataW H)} {ps:List MemPlace} (h:DataW.TrodAll enc P w base spare held [t0,t1] args.toList ds ps):
 ∃v0 v1 d0 d1 p0 p1,args=#[v0,v1]∧ds=[d0,d1]∧ps=p0++(p1++ [])∧DataW.Trod enc P w base spare held t0 v0 d0 p0∧DataW.Trod enc P w base spare held t1 v1 d1 p1:=by
 obtain⟨v0,vs0,d0,ds0,p0,q0,hargs,rfl,rfl,h0,hr0⟩:=trodAll_cons h;obtain⟨v1,vs1,d1,ds1,p1,q1,rfl,rfl,rfl,h1,hr1⟩:=trodAll_cons hr0;obtain⟨rfl,rfl,rfl⟩:=trodAll_nil hr1;exact⟨v0,v1,d0,d1,p0,p1,by cases args;simp_all,rfl,rfl,h0,h1⟩
theorem args_shut {H:Type} {enc:TypeId×Value→H} {P:Program} {w:World} {base:Nat} {spare:Nat→Bool} {held:Bool} {t0 t1:TypeId} {v0 v1:Value} {d0 d1:DataW H} {p0 p1:List MemPlace} (h0:DataW.Trod enc P w base spare held t0 v0 d0 p0) (h1:DataW.Trod enc P w base spare held t1 v1 d1 p1):
 DataW.TrodAll enc P w base spare held [t0,t1] [v0,v1] [d0,d1] (p0++(p1++ [])):=
 ⟨p0,_,h0,⟨p1,_,h1,trodAll_mk0,rfl⟩,rfl⟩
theorem lifted (os:Os) (started:os.Started) (H:Type) (enc:TypeId×Value→H):
 ReturnsInHanded {} Tryz.checked os 3 .any (fun w args=>(Rows.exporterCodesSpec.pre enc Tryz.prog Tryz.f3 [] false w args∧laidMetH Tryz.prog Rows.exporterCodesRow.laid w)∧sizedMet enc Tryz.prog Tryz.f3 (OpenSpec.ofChange Rows.exporterCodesSpec) false w args)
  (Rows.exporterCodesSpec.post enc Tryz.prog Tryz.f3 false true false false):=by
 refine zts (C:=Tryz.checked) (X:=fun w _=>laidMetH Tryz.prog Rows.exporterCodesRow.laid w) (fun _ _ _ hh h=>h.of_heap hh) own started (by kernel_rfl) Tryz.func3
  (ChangeSpec.witness_shaped (enc:=enc) (C:=Tryz.checked) (os:=os) (X:=fun w _=>laidMetH Tryz.prog Rows.exporterCodesRow.laid w) false (zib os) #[.int .i64 0,.string ⟨#[]⟩] 8 rfl (World.shaped_of_RefB (by kernel_rfl) (by kernel_rfl)) (by kernel_rfl) (by kernel_rfl) (by kernel_rfl) (zic os _)) ?_
 intro W base args ds gs before hval0 hW hsz0 hL hsh;have hval:∀(j:Nat) t v,Tryz.f3.params[j]? =some t→args[j]? =some v→Value.okWide Tryz.prog W .any base t v:=hval0;have hW':=hW;obtain⟨p,q,hA0,hV,rfl,hfz,hnd⟩:=hW;have hA:DataW.TrodAll enc Tryz.prog W 0 (fun _=>true) true Tryz.f3.params.toList args.toList ds p:=hA0;have hsz:(DataW.weightsEach Tryz.prog (Tryz.f3.params.toList++Rows.exporterCodesSpec.plain.varTypes Tryz.prog) (ds++gs)).all (fun x=>decide (x≤reachBytes))=true:=hsz0;rw[Tryz.params3]at hA hval hsz;obtain⟨v0,v1,d0,d1,p0,p1,rfl,rfl,hp,h0,h1⟩:=args_open hA;subst hp;obtain⟨rfl,rfl⟩:=trodVars_none hV;have hlt:∀x∈p0++(p1++ []),x.block<W.heap.size:=fun x hx=>hW'.lt x (by simpa using hx);have k0:=h0;have k1:=h1;obtain⟨x0,rfl⟩:=okWide_int Tryz.underlying3 (hval 0 3 v0 rfl rfl);obtain⟨g0,hg0⟩:=h0;obtain⟨z0,ei0,-,wg0⟩:=DataW.trod_int Tryz.underlying3 hg0
 have wf0:(Lit.int .i64 x0).wf=true:=by
  have:x0=z0:=by simpa[Value.cells] using ei0
  rw[this];exact wg0
 obtain⟨s1,rfl⟩:=okWide_string Tryz.underlying9 (hval 1 9 v1 rfl rfl);clear hA0 hval0;refine(law_ExporterCodes x0 s1 W (zf8 hL) (zf7 hsh) (ztu wf0)).mono fun e W' ⟨he,bel⟩=>?_;subst he;refine⟨_,rfl,_,_,_,[],p0++(p1++ []),[],hW',?_,?_,?_,bel.frame _,fun h=>by cases h⟩
 ·exact trodAll_mk1 (shut_bool Tryz.underlying4 _)
 ·exact args_shut (Below.trod laidOut (by kernel_rfl) (of_decide_eq_true (by kernel_rfl)) k0 bel (fun x hx=>hlt x (by simp[hx]))) (Below.trod laidOut (by kernel_rfl) (of_decide_eq_true (by kernel_rfl)) k1 bel (fun x hx=>hlt x (by simp[hx])))
 ·rfl
end Go.Proofs.YtfppgpamkdkckaaGreatDoor
