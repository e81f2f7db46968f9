import Derived.Deep.DeepHandedRow
import Derived.Deep.DeepWitnessRowRef
import Derived.LaidMore
import Derived.Lib.LaidTab
import Derived.Lib.LaidU8
import Derived.OpenShut
import Derived.ProofKit
import Derived.SevenTiedAt
import Derived.Shelf.Vars
import Derived.Stop.Joined
import Derived.Test.YtcdekelomkcahaaGreatDoorRows
import Derived.Test.YtcdekelomkcahaaGreatDoorZRzF
set_option maxRecDepth 100000
set_option maxHeartbeats 16000000
namespace Go.Proofs.YtcdekelomkcahaaGreatDoor
open Go.Joins Go.ChangeShapes Go.WideShapes Go.ChangeAt Go.RowKit Go.Deep
theorem own:ownKnob Tryz.prog.godebug=none:=by kernel_rfl
theorem zgx:laidOutB Tryz.prog=true:=by kernel_rfl
noncomputable def zgy (os:Os):World:=
 let w0:=World.doorLaid Tryz.prog 4000 os
 {w0 with heap:=w0.heap.modify 2 fun
  | .cells _ t frozen=> .cells (Lib.firstTab.map fun z=>Value.int .u8 z).toArray t frozen
  |o=>o}
theorem zgz (os:Os) (args:Array Value):laidMetH Tryz.prog Rows.declarationsFormatsRow.laid ((zgy os).forCall (fun _ _=>0) ⟨#[],args,[]⟩).memory:=
 laidMetH_of_parts3 (fuel:=8) (laidMet_of_run' 8 (by kernel_rfl) (by kernel_rfl)) (by kernel_rfl) (by kernel_rfl)
theorem zex {W:World} (h:laidMetH Tryz.prog Rows.declarationsFormatsRow.laid W):Glob W:=by
 rw[MakeChecks.laidMetH_plain _ _ _ (by kernel_rfl)]at h;obtain⟨g,t,cs,fuel,p,h1,h2,h3,h4⟩:=Lib.laidMet.reads h (.tail _ (.tail _ (.head _)));obtain rfl:=Option.some.inj (zeA.symm.trans h1);obtain rfl:=Option.some.inj ((show(Tryz.prog.globals[1]?).map (·.type)=some 234 by kernel_rfl).symm.trans h2);unfold Glob Lib.TabIs;rw[h3,←Lib.cells_of_tab (k:=.u64) (zs:=Lib.pow10Tab) Tryz.underlying234 Tryz.underlying208 (by kernel_rfl) (by kernel_rfl) h4]
theorem ze9 {H:Type} {enc:TypeId×Value→H} {P:Program} {w:World} {base:Nat} {spare:Nat→Bool} {held:Bool} {fuel:Nat} {t:TypeId} {ms:_} {cs:List Value} {n:String} {d:DataW H} {p:List MemPlace} (hu:P.underlying t=some (.interface ms)) (h:DataW.trod enc P w base spare held fuel t cs=some (.iface n d,p)):∃u v,cs=[.iface u v]:=by
 cases fuel with
 |zero=>simp[DataW.trod]at h
 |succ k=>
  unfold DataW.trod at h;rw[hu]at h;split at h<;>simp_all
theorem zew {W:World} (h:laidMetH Tryz.prog Rows.declarationsFormatsRow.laid W):zag W:=by
 rw[MakeChecks.laidMetH_plain _ _ _ (by kernel_rfl)]at h;constructor
 ·obtain⟨g,t,cs,fuel,p,h1,h2,h3,h4⟩:=Lib.laidMet.reads h (.tail _ (.tail _ (.tail _ (.tail _ (.tail _ (.head _))))));obtain rfl:=Option.some.inj (zez.symm.trans h1);obtain rfl:=Option.some.inj ((show(Tryz.prog.globals[6]?).map (·.type)=some 125 by kernel_rfl).symm.trans h2);obtain⟨u,v,e⟩:=ze9 Tryz.underlying125 h4;exact⟨u,v,by rw[h3];exact congrArg some (by cases cs;simp_all)⟩
 ·obtain⟨g,t,cs,fuel,p,h1,h2,h3,h4⟩:=Lib.laidMet.reads h (.tail _ (.tail _ (.tail _ (.tail _ (.head _)))));obtain rfl:=Option.some.inj (zey.symm.trans h1);obtain rfl:=Option.some.inj ((show(Tryz.prog.globals[7]?).map (·.type)=some 125 by kernel_rfl).symm.trans h2);obtain⟨u,v,e⟩:=ze9 Tryz.underlying125 h4;exact⟨u,v,by rw[h3];exact congrArg some (by cases cs;simp_all)⟩
theorem zev {W:World} (h:W.ShapedOpen Tryz.prog):Glm W:=
 Go.Proofs.cell_of_shapedOpen_int (zero:=#[.int .i64 0]) (t:=3) h (of_decide_eq_true (by kernel_rfl)) (by kernel_rfl) rfl (by kernel_rfl) (by kernel_rfl) Tryz.underlying3
theorem args_open {H:Type} {enc:TypeId×Value→H} {P:Program} {w:World} {base:Nat} {spare:Nat→Bool} {held:Bool} {t0 t1 t2:TypeId} {args:Array Value} {ds:List (DataW H)} {ps:List MemPlace} (h:DataW.TrodAll enc P w base spare held [t0,t1,t2] args.toList ds ps):
 ∃v0 v1 v2 d0 d1 d2 p0 p1 p2,args=#[v0,v1,v2]∧ds=[d0,d1,d2]∧ps=p0++(p1++(p2++ []))∧DataW.Trod enc P w base spare held t0 v0 d0 p0∧DataW.Trod enc P w base spare held t1 v1 d1 p1∧DataW.Trod enc P w base spare held t2 v2 d2 p2:=by
 obtain⟨v0,vs0,d0,ds0,p0,q0,hargs,rfl,rfl,h0,hr0⟩:=trodAll_cons h;obtain⟨v1,vs1,d1,ds1,p1,q1,rfl,rfl,rfl,h1,hr1⟩:=trodAll_cons hr0;obtain⟨v2,vs2,d2,ds2,p2,q2,rfl,rfl,rfl,h2,hr2⟩:=trodAll_cons hr1;obtain⟨rfl,rfl,rfl⟩:=trodAll_nil hr2;exact⟨v0,v1,v2,d0,d1,d2,p0,p1,p2,by cases args;simp_all,rfl,rfl,h0,h1,h2⟩
theorem args_shut {H:Type} {enc:TypeId×Value→H} {P:Program} {w:World} {base:Nat} {spare:Nat→Bool} {held:Bool} {t0 t1 t2:TypeId} {v0 v1 v2:Value} {d0 d1 d2:DataW H} {p0 p1 p2:List MemPlace} (h0:DataW.Trod enc P w base spare held t0 v0 d0 p0) (h1:DataW.Trod enc P w base spare held t1 v1 d1 p1) (h2:DataW.Trod enc P w base spare held t2 v2 d2 p2):
 DataW.TrodAll enc P w base spare held [t0,t1,t2] [v0,v1,v2] [d0,d1,d2] (p0++(p1++(p2++ []))):=
 ⟨p0,_,h0,⟨p1,_,h1,⟨p2,_,h2,trodAll_mk0,rfl⟩,rfl⟩,rfl⟩
theorem reads (os:Os) {H:Type} (enc:TypeId×Value→H):∃places,DataW.whole enc Tryz.prog ((zgy os).forCall (fun _ _=>0) ⟨#[],#[.agg #[.int .i64 0,.string ⟨#[]⟩,.string ⟨#[]⟩,.string ⟨#[]⟩,.slice none 0 0,.slice none 0 0],.string ⟨#[]⟩,.int .i64 0],[]⟩).memory Tryz.f3.params.toList Rows.declarationsFormatsSpec.vars false #[.agg #[.int .i64 0,.string ⟨#[]⟩,.string ⟨#[]⟩,.string ⟨#[]⟩,.slice none 0 0,.slice none 0 0],.string ⟨#[]⟩,.int .i64 0].toList 8=some ([.agg [.lit (.int .i64 0),.lit (.string []),.lit (.string []),.lit (.string []),.nil,.nil],.lit (.string []),.lit (.int .i64 0)],[],places):=
 ⟨[],by kernel_rfl⟩
theorem lifted (os:Os) (started:os.Started) (H:Type) (enc:TypeId×Value→H) (F:Stop.Interp):
 ReturnsInHanded {} Tryz.checked os 3 .any ((OpenSpec.ofChange Rows.declarationsFormatsSpec).preRow enc Tryz.prog Tryz.f3 Rows.declarationsFormatsRow.domain false Rows.declarationsFormatsRow.laid) (((OpenSpec.ofChange Rows.declarationsFormatsSpec).at F).post enc Tryz.prog Tryz.f3 false true false false):=by
 obtain⟨places,hx⟩:=reads os enc
 refine returnsInHanded_of_row (C:=Tryz.checked) (s:=(OpenSpec.ofChange Rows.declarationsFormatsSpec)) own started (by kernel_rfl) Tryz.func3
  (witness_row_atRef (enc:=enc) (C:=Tryz.checked) false (zgy os) #[.agg #[.int .i64 0,.string ⟨#[]⟩,.string ⟨#[]⟩,.string ⟨#[]⟩,.slice none 0 0,.slice none 0 0],.string ⟨#[]⟩,.int .i64 0] rfl (by kernel_rfl) (by kernel_rfl) (by kernel_rfl)
    (OpenSpec.preRow_of_cond 8 hx (by kernel_rfl) (fun k hk=>by cases hk) (by kernel_rfl) (zgz os _))) ?_
 intro W base args ds gs before hval0 hW _ hcond hsz0 hL hsh _;have hval:∀(j:Nat) t v,Tryz.f3.params[j]? =some t→args[j]? =some v→Value.okWide Tryz.prog W .any base t v:=hval0;have hW':=hW;obtain⟨p,q,hA0,hV,rfl,hfz,hnd⟩:=hW;have hA:DataW.TrodAll enc Tryz.prog W 0 (fun _=>true) true Tryz.f3.params.toList args.toList ds p:=hA0;have hsz:(DataW.weightsEach Tryz.prog (Tryz.f3.params.toList++Rows.declarationsFormatsSpec.plain.varTypes Tryz.prog) (ds++gs)).all (fun x=>decide (x≤reachBytes))=true:=hsz0;rw[Tryz.params3]at hA hval hsz;obtain⟨v0,v1,v2,d0,d1,d2,p0,p1,p2,rfl,rfl,hp,h0,h1,h2⟩:=args_open hA;subst hp;obtain⟨rfl,rfl⟩:=trodVars_none hV;clear hcond;have hlt:∀x∈p0++(p1++(p2++ [])),x.block<W.heap.size:=fun x hx=>hW'.lt x (by simpa using hx);have k0:=h0;have k1:=h1;have k2:=h2;have hz0:∀m∈d0.weights Tryz.prog 25,m≤reachBytes:=fun m hm=>by simpa using List.all_eq_true.1 hsz m (DataW.weights_mem_each (j:=0) (t:=25) (d:=d0) rfl rfl m hm)
 obtain⟨dd0,vS0,vD0,rfl,hS0,hD0,hr0⟩:=zqH (hval 0 25 v0 rfl rfl) h0 hz0;obtain⟨y1,rfl⟩:=okWide_string Tryz.underlying9 (hval 1 9 v1 rfl rfl);obtain⟨s1,rfl⟩:∃l,bsB l=y1:=⟨y1.data.toList,zbj _⟩;obtain⟨x2,rfl⟩:=okWide_int Tryz.underlying3 (hval 2 3 v2 rfl rfl);clear hA0 hval0;refine(law_DeclarationsFormats dd0 _ _ s1 x2 W (zex hL) (zew hL) (zev hsh) hS0 hD0 hr0).mono fun e W' ⟨he,bel⟩=>?_;subst he;refine⟨_,rfl,_,_,_,[],p0++(p1++(p2++ [])),[],hW',?_,?_,?_,bel.frame _,fun h=>by cases h⟩
 ·exact trodAll_mk1 (shut_bool Tryz.underlying4 _)
 ·exact args_shut (Below.trod zgx (by kernel_rfl) (of_decide_eq_true (by kernel_rfl)) k0 bel (fun x hx=>hlt x (by simp[hx]))) (Below.trod zgx (by kernel_rfl) (of_decide_eq_true (by kernel_rfl)) k1 bel (fun x hx=>hlt x (by simp[hx]))) (Below.trod zgx (by kernel_rfl) (of_decide_eq_true (by kernel_rfl)) k2 bel (fun x hx=>hlt x (by simp[hx])))
 ·rfl
end Go.Proofs.YtcdekelomkcahaaGreatDoor
