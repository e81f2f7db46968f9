import Derived.Deep.DeepHandedRow
import Derived.LaidMore
import Derived.Lib.LaidTab
import Derived.Lib.LaidU8
import Derived.OpenShut
import Derived.ProofKit
import Derived.SevenTiedAt
import Derived.Shelf.Vars
import Derived.Stop.Joined
import Derived.Test.YtbiadennhnokhaaGreatDoorCards
import Derived.Test.YtbiadennhnokhaaGreatDoorRows
import Derived.Test.YtbiadennhnokhaaGreatDoorTie
import Derived.Test.YtbiadennhnokhaaGreatDoorZLre
set_option maxRecDepth 100000
set_option maxHeartbeats 16000000
namespace Go.Proofs.YtbiadennhnokhaaGreatDoor
open Go.Joins Go.ChangeShapes Go.WideShapes Go.ChangeAt Go.RowKit Go.Deep
theorem own:ownKnob Tryz.prog.godebug=none:=by kernel_rfl
theorem zgQ:laidOutB Tryz.prog=true:=by kernel_rfl
noncomputable def zgR (os:Os):World:=
 let w0:=World.doorLaid Tryz.prog 4000 os
 {w0 with heap:=w0.heap.modify 1 fun
  | .cells _ t frozen=> .cells (Lib.firstTab.map fun z=>Value.int .u8 z).toArray t frozen
  |o=>o}
theorem zgS (os:Os) (args:Array Value):laidMetH Tryz.prog Rows.aliasRefusesRow.laid ((zgR os).forCall (fun _ _=>0) ⟨#[],args,[]⟩).memory:=
 laidMetH_of_parts3 (fuel:=8) (laidMet_of_run' 8 (by kernel_rfl) (by kernel_rfl)) (by kernel_rfl) (by kernel_rfl)
theorem ze6 {W:World} (h:laidMetH Tryz.prog Rows.aliasRefusesRow.laid W):Glob W:=by
 rw[MakeChecks.laidMetH_plain _ _ _ (by kernel_rfl)]at h;obtain⟨g,t,cs,fuel,p,h1,h2,h3,h4⟩:=Lib.laidMet.reads h (.tail _ (.tail _ (.head _)));obtain rfl:=Option.some.inj (ze7.symm.trans h1);obtain rfl:=Option.some.inj ((show(Tryz.prog.globals[3]?).map (·.type)=some 326 by kernel_rfl).symm.trans h2);unfold Glob Lib.TabIs;rw[h3,←Lib.cells_of_tab (k:=.u64) (zs:=Lib.pow10Tab) Tryz.underlying326 Tryz.underlying192 (by kernel_rfl) (by kernel_rfl) h4]
theorem ze5 {W:World} (h:W.ShapedOpen Tryz.prog):Glm W:=
 Go.Proofs.cell_of_shapedOpen_int (zero:=#[.int .i64 0]) (t:=3) h (of_decide_eq_true (by kernel_rfl)) (by kernel_rfl) rfl (by kernel_rfl) (by kernel_rfl) Tryz.underlying3
theorem zqE {H:Type} {enc:TypeId×Value→H} {a:Assume} {C:Checked} {os:Os} {f:FuncId} {fn:Func} {s:ChangeSpec} {conds:List PathCond} {apart fresh handsOn again:Bool} {X:World→Array Value→Prop}
 (hX:∀(w w':World) (args:Array Value),w.heap=w'.heap→X w args→X w' args)
 (hown:ownKnob C.prog.godebug=none) (started:os.Started) (noInit:C.prog.inits.idxOf? f=none) (hfn:C.prog.funcs[f]? =some fn)
 (hwit:∃(w:World) (tape:Tape) (i:Input),w.os=os∧(w.forCall tape i).Shaped C.prog∧i.vars=[]∧Input.okWide C.prog (w.forCall tape i) .any w.heap.size f i∧
   ((s.pre enc C.prog fn conds apart (w.forCall tape i).memory i.args∧X (w.forCall tape i).memory i.args)∧sizedMet enc C.prog fn (OpenSpec.ofChange s) apart (w.forCall tape i).memory i.args)∧a.holds C.prog (lone (Frame.enter C.prog f i.args .normal) [] (w.forCall tape i)))
 (hcon:∀(W:World) (base:Nat) (args:Array Value) (ds gs:List (DataW H)) (before:List MemPlace),
   (∀(j:Nat) t v,fn.params[j]? =some t→args[j]? =some v→Value.okWide C.prog W .any base t v)→
   DataW.Whole enc C.prog fn.params.toList s.vars apart W args.toList ds gs before→
   (DataW.weightsEach C.prog (fn.params.toList++s.plain.varTypes C.prog) (ds++gs)).all (· ≤reachBytes)=true→X W args→W.ShapedOpen C.prog→
   Calls C.prog f args W fun e W'=>∃v,e=.returned v∧s.post enc C.prog fn apart fresh handsOn again W args v W'):
 ReturnsInHanded a C os f .any (fun w args=>(s.pre enc C.prog fn conds apart w args∧X w args)∧sizedMet enc C.prog fn (OpenSpec.ofChange s) apart w args) (s.post enc C.prog fn apart fresh handsOn again):=by
 refine returnsInHanded_of_calls hown started noInit hwit ?_;intro w tape i _ hsh _ hok hpre _;obtain⟨_,_,_,fn',hfn',_,_,_,_,hval⟩:=hok;have e:fn'=fn:=Option.some.inj (hfn'.symm.trans hfn);subst e;obtain⟨⟨⟨ds,gs,before,hw,_⟩,hx⟩,hz⟩:=hpre;have hw':=DataW.Whole.of_heap (w':=w.forCall tape i) (by rfl) hw;refine(hcon (w.forCall tape i) w.heap.size i.args ds gs before hval hw' (hz.weights hw) (hX _ _ _ (by rfl) hx) hsh).mono fun e W' ⟨v,he,hp⟩=>?_;subst he;exact ChangeSpec.post_blind hp
theorem args_open {H:Type} {enc:TypeId×Value→H} {P:Program} {w:World} {base:Nat} {spare:Nat→Bool} {held:Bool} {t0 t1 t2:TypeId} {args:Array Value} {ds:List (DataW H)} {ps:List MemPlace} (h:DataW.TrodAll enc P w base spare held [t0,t1,t2] args.toList ds ps):
 ∃v0 v1 v2 d0 d1 d2 p0 p1 p2,args=#[v0,v1,v2]∧ds=[d0,d1,d2]∧ps=p0++(p1++(p2++ []))∧DataW.Trod enc P w base spare held t0 v0 d0 p0∧DataW.Trod enc P w base spare held t1 v1 d1 p1∧DataW.Trod enc P w base spare held t2 v2 d2 p2:=by
 obtain⟨v0,vs0,d0,ds0,p0,q0,hargs,rfl,rfl,h0,hr0⟩:=trodAll_cons h;obtain⟨v1,vs1,d1,ds1,p1,q1,rfl,rfl,rfl,h1,hr1⟩:=trodAll_cons hr0;obtain⟨v2,vs2,d2,ds2,p2,q2,rfl,rfl,rfl,h2,hr2⟩:=trodAll_cons hr1;obtain⟨rfl,rfl,rfl⟩:=trodAll_nil hr2;exact⟨v0,v1,v2,d0,d1,d2,p0,p1,p2,by cases args;simp_all,rfl,rfl,h0,h1,h2⟩
theorem args_shut {H:Type} {enc:TypeId×Value→H} {P:Program} {w:World} {base:Nat} {spare:Nat→Bool} {held:Bool} {t0 t1 t2:TypeId} {v0 v1 v2:Value} {d0 d1 d2:DataW H} {p0 p1 p2:List MemPlace} (h0:DataW.Trod enc P w base spare held t0 v0 d0 p0) (h1:DataW.Trod enc P w base spare held t1 v1 d1 p1) (h2:DataW.Trod enc P w base spare held t2 v2 d2 p2):
 DataW.TrodAll enc P w base spare held [t0,t1,t2] [v0,v1,v2] [d0,d1,d2] (p0++(p1++(p2++ []))):=
 ⟨p0,_,h0,⟨p1,_,h1,⟨p2,_,h2,trodAll_mk0,rfl⟩,rfl⟩,rfl⟩
theorem lifted (os:Os) (started:os.Started) (H:Type) (enc:TypeId×Value→H):
 ReturnsInHanded {} Tryz.checked os 10 .any (fun w args=>(Rows.aliasRefusesSpec.pre enc Tryz.prog Tryz.f10 [] false w args∧laidMetH Tryz.prog Rows.aliasRefusesRow.laid w)∧sizedMet enc Tryz.prog Tryz.f10 (OpenSpec.ofChange Rows.aliasRefusesSpec) false w args)
  (Rows.aliasRefusesSpec.post enc Tryz.prog Tryz.f10 false true false false):=by
 refine zqE (C:=Tryz.checked) (X:=fun w _=>laidMetH Tryz.prog Rows.aliasRefusesRow.laid w) (fun _ _ _ hh h=>h.of_heap hh) own started (by kernel_rfl) Tryz.func10
  (ChangeSpec.witness_shaped (enc:=enc) (C:=Tryz.checked) (os:=os) (X:=fun w _=>laidMetH Tryz.prog Rows.aliasRefusesRow.laid w) false (zgR os) #[.slice none 0 0,.slice none 0 0,.slice none 0 0] 8 rfl (World.shaped_of_RefB (by kernel_rfl) (by kernel_rfl)) (by kernel_rfl) (by kernel_rfl) (by kernel_rfl) (zgS os _)) ?_
 intro W base args ds gs before hval0 hW hsz0 hL hsh;have hval:∀(j:Nat) t v,Tryz.f10.params[j]? =some t→args[j]? =some v→Value.okWide Tryz.prog W .any base t v:=hval0;have hW':=hW;obtain⟨p,q,hA0,hV,rfl,hfz,hnd⟩:=hW;have hA:DataW.TrodAll enc Tryz.prog W 0 (fun _=>true) true Tryz.f10.params.toList args.toList ds p:=hA0;have hsz:(DataW.weightsEach Tryz.prog (Tryz.f10.params.toList++Rows.aliasRefusesSpec.plain.varTypes Tryz.prog) (ds++gs)).all (fun x=>decide (x≤reachBytes))=true:=hsz0;rw[Tryz.params10]at hA hval hsz;obtain⟨v0,v1,v2,d0,d1,d2,p0,p1,p2,rfl,rfl,hp,h0,h1,h2⟩:=args_open hA;subst hp;obtain⟨rfl,rfl⟩:=trodVars_none hV;have hlt:∀x∈p0++(p1++(p2++ [])),x.block<W.heap.size:=fun x hx=>hW'.lt x (by simpa using hx);have k0:=h0;have k1:=h1;have k2:=h2;obtain⟨sa0,sn0,sc0,rfl⟩:=okWide_slice Tryz.underlying24 (hval 0 24 v0 rfl rfl);obtain⟨f0,hf0⟩:=h0;obtain⟨u0,l0,eu0,hs0⟩:=zte hf0;have eu0':Value.slice sa0 sn0 sc0=u0:=by injection eu0
 subst eu0';obtain⟨sa1,sn1,sc1,rfl⟩:=okWide_slice Tryz.underlying24 (hval 1 24 v1 rfl rfl);obtain⟨f1,hf1⟩:=h1;obtain⟨u1,l1,eu1,hs1⟩:=zte hf1;have eu1':Value.slice sa1 sn1 sc1=u1:=by injection eu1
 subst eu1';obtain⟨sa2,sn2,sc2,rfl⟩:=okWide_slice Tryz.underlying76 (hval 2 76 v2 rfl rfl);obtain⟨f2,hf2⟩:=h2;obtain⟨u2,l2,eu2,hs2⟩:=ztd hf2;have eu2':Value.slice sa2 sn2 sc2=u2:=by injection eu2
 subst eu2';clear hA0 hval0;refine(law_AliasRefuses _ _ _ l0 l1 l2 W hs0 hs1 hs2 (ze6 hL) (ze5 hsh)).mono fun e W' ⟨he,bel⟩=>?_;subst he;refine⟨_,rfl,_,_,_,[],p0++(p1++(p2++ [])),[],hW',?_,?_,?_,bel.frame _,fun h=>by cases h⟩
 ·exact trodAll_mk1 (shut_bool Tryz.underlying4 _)
 ·exact args_shut (Below.trod zgQ (by kernel_rfl) (of_decide_eq_true (by kernel_rfl)) k0 bel (fun x hx=>hlt x (by simp[hx]))) (Below.trod zgQ (by kernel_rfl) (of_decide_eq_true (by kernel_rfl)) k1 bel (fun x hx=>hlt x (by simp[hx]))) (Below.trod zgQ (by kernel_rfl) (of_decide_eq_true (by kernel_rfl)) k2 bel (fun x hx=>hlt x (by simp[hx])))
 ·rfl
end Go.Proofs.YtbiadennhnokhaaGreatDoor
