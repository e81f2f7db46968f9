import Derived.Deep.DeepHandedRow
import Derived.Deep.DeepWitnessRowRef
import Derived.LaidMore
import Derived.Lib.LaidTab
import Derived.Lib.LaidU8
import Derived.OpenShut
import Derived.ProofKit
import Derived.SevenTiedAt
import Derived.Shelf.Vars
import Derived.Stop.Joined
import Derived.Test.YtcdekelomkcahaaGreatDoorZDzp
set_option maxRecDepth 100000
set_option maxHeartbeats 16000000
namespace Go.Proofs.YtcdekelomkcahaaGreatDoor
open Go.Joins Go.ChangeShapes Go.WideShapes Go.ChangeAt Go.RowKit Go.Deep
theorem own:ownKnob Tryz.prog.godebug=none:=by kernel_rfl
theorem zgx:laidOutB Tryz.prog=true:=by kernel_rfl
noncomputable def zgy (os:Os):World:=
 let w0:=World.doorLaid Tryz.prog 4000 os
 {w0 with heap:=w0.heap.modify 2 fun
  | .cells _ t frozen=> .cells (Lib.firstTab.map fun z=>Value.int .u8 z).toArray t frozen
  |o=>o}
theorem zgz (os:Os) (args:Array Value):laidMetH Tryz.prog Rows.declarationsPositionsRow.laid ((zgy os).forCall (fun _ _=>0) ⟨#[],args,[]⟩).memory:=
 laidMetH_of_parts3 (fuel:=8) (laidMet_of_run' 8 (by kernel_rfl) (by kernel_rfl)) (by kernel_rfl) (by kernel_rfl)
theorem zex {W:World} (h:laidMetH Tryz.prog Rows.declarationsPositionsRow.laid W):Glob W:=by
 rw[MakeChecks.laidMetH_plain _ _ _ (by kernel_rfl)]at h;obtain⟨g,t,cs,fuel,p,h1,h2,h3,h4⟩:=Lib.laidMet.reads h (.tail _ (.tail _ (.head _)));obtain rfl:=Option.some.inj (zeA.symm.trans h1);obtain rfl:=Option.some.inj ((show(Tryz.prog.globals[1]?).map (·.type)=some 234 by kernel_rfl).symm.trans h2);unfold Glob Lib.TabIs;rw[h3,←Lib.cells_of_tab (k:=.u64) (zs:=Lib.pow10Tab) Tryz.underlying234 Tryz.underlying208 (by kernel_rfl) (by kernel_rfl) h4]
theorem ze9 {H:Type} {enc:TypeId×Value→H} {P:Program} {w:World} {base:Nat} {spare:Nat→Bool} {held:Bool} {fuel:Nat} {t:TypeId} {ms:_} {cs:List Value} {n:String} {d:DataW H} {p:List MemPlace} (hu:P.underlying t=some (.interface ms)) (h:DataW.trod enc P w base spare held fuel t cs=some (.iface n d,p)):∃u v,cs=[.iface u v]:=by
 cases fuel with
 |zero=>simp[DataW.trod]at h
 |succ k=>
  unfold DataW.trod at h;rw[hu]at h;split at h<;>simp_all
theorem zew {W:World} (h:laidMetH Tryz.prog Rows.declarationsPositionsRow.laid W):zag W:=by
 rw[MakeChecks.laidMetH_plain _ _ _ (by kernel_rfl)]at h;constructor
 ·obtain⟨g,t,cs,fuel,p,h1,h2,h3,h4⟩:=Lib.laidMet.reads h (.tail _ (.tail _ (.tail _ (.tail _ (.tail _ (.head _))))));obtain rfl:=Option.some.inj (zez.symm.trans h1);obtain rfl:=Option.some.inj ((show(Tryz.prog.globals[6]?).map (·.type)=some 125 by kernel_rfl).symm.trans h2);obtain⟨u,v,e⟩:=ze9 Tryz.underlying125 h4;exact⟨u,v,by rw[h3];exact congrArg some (by cases cs;simp_all)⟩
 ·obtain⟨g,t,cs,fuel,p,h1,h2,h3,h4⟩:=Lib.laidMet.reads h (.tail _ (.tail _ (.tail _ (.tail _ (.head _)))));obtain rfl:=Option.some.inj (zey.symm.trans h1);obtain rfl:=Option.some.inj ((show(Tryz.prog.globals[7]?).map (·.type)=some 125 by kernel_rfl).symm.trans h2);obtain⟨u,v,e⟩:=ze9 Tryz.underlying125 h4;exact⟨u,v,by rw[h3];exact congrArg some (by cases cs;simp_all)⟩
theorem zev {W:World} (h:W.ShapedOpen Tryz.prog):Glm W:=
 Go.Proofs.cell_of_shapedOpen_int (zero:=#[.int .i64 0]) (t:=3) h (of_decide_eq_true (by kernel_rfl)) (by kernel_rfl) rfl (by kernel_rfl) (by kernel_rfl) Tryz.underlying3
theorem args_open {H:Type} {enc:TypeId×Value→H} {P:Program} {w:World} {base:Nat} {spare:Nat→Bool} {held:Bool} {t0:TypeId} {args:Array Value} {ds:List (DataW H)} {ps:List MemPlace} (h:DataW.TrodAll enc P w base spare held [t0] args.toList ds ps):
 ∃v0 d0 p0,args=#[v0]∧ds=[d0]∧ps=p0++ []∧DataW.Trod enc P w base spare held t0 v0 d0 p0:=by
 obtain⟨v0,vs0,d0,ds0,p0,q0,hargs,rfl,rfl,h0,hr0⟩:=trodAll_cons h;obtain⟨rfl,rfl,rfl⟩:=trodAll_nil hr0;exact⟨v0,d0,p0,by cases args;simp_all,rfl,rfl,h0⟩
theorem args_shut {H:Type} {enc:TypeId×Value→H} {P:Program} {w:World} {base:Nat} {spare:Nat→Bool} {held:Bool} {t0:TypeId} {v0:Value} {d0:DataW H} {p0:List MemPlace} (h0:DataW.Trod enc P w base spare held t0 v0 d0 p0):
 DataW.TrodAll enc P w base spare held [t0] [v0] [d0] (p0++ []):=
 ⟨p0,_,h0,trodAll_mk0,rfl⟩
theorem reads (os:Os) {H:Type} (enc:TypeId×Value→H):∃places,DataW.whole enc Tryz.prog ((zgy os).forCall (fun _ _=>0) ⟨#[],#[.string ⟨#[]⟩],[]⟩).memory Tryz.f6.params.toList Rows.declarationsPositionsSpec.vars false #[.string ⟨#[]⟩].toList 8=some ([.lit (.string [])],[],places):=
 ⟨[],by kernel_rfl⟩
theorem lifted (os:Os) (started:os.Started) (H:Type) (enc:TypeId×Value→H) (F:Stop.Interp):
 ReturnsInHanded {} Tryz.checked os 6 .any ((OpenSpec.ofChange Rows.declarationsPositionsSpec).preRow enc Tryz.prog Tryz.f6 Rows.declarationsPositionsRow.domain false Rows.declarationsPositionsRow.laid) (((OpenSpec.ofChange Rows.declarationsPositionsSpec).at F).post enc Tryz.prog Tryz.f6 false true false false):=by
 obtain⟨places,hx⟩:=reads os enc
 refine returnsInHanded_of_row (C:=Tryz.checked) (s:=(OpenSpec.ofChange Rows.declarationsPositionsSpec)) own started (by kernel_rfl) Tryz.func6
  (witness_row_atRef (enc:=enc) (C:=Tryz.checked) false (zgy os) #[.string ⟨#[]⟩] rfl (by kernel_rfl) (by kernel_rfl) (by kernel_rfl)
    (OpenSpec.preRow_of_cond 8 hx (by kernel_rfl) (fun k hk=>by cases hk) (by kernel_rfl) (zgz os _))) ?_
 intro W base args ds gs before hval0 hW _ hcond hsz0 hL hsh _;have hval:∀(j:Nat) t v,Tryz.f6.params[j]? =some t→args[j]? =some v→Value.okWide Tryz.prog W .any base t v:=hval0;have hW':=hW;obtain⟨p,q,hA0,hV,rfl,hfz,hnd⟩:=hW;have hA:DataW.TrodAll enc Tryz.prog W 0 (fun _=>true) true Tryz.f6.params.toList args.toList ds p:=hA0;have hsz:(DataW.weightsEach Tryz.prog (Tryz.f6.params.toList++Rows.declarationsPositionsSpec.plain.varTypes Tryz.prog) (ds++gs)).all (fun x=>decide (x≤reachBytes))=true:=hsz0;rw[Tryz.params6]at hA hval hsz;obtain⟨v0,d0,p0,rfl,rfl,hp,h0⟩:=args_open hA;subst hp;obtain⟨rfl,rfl⟩:=trodVars_none hV;clear hcond;have hlt:∀x∈p0++ [],x.block<W.heap.size:=fun x hx=>hW'.lt x (by simpa using hx);have k0:=h0;obtain⟨y0,rfl⟩:=okWide_string Tryz.underlying9 (hval 0 9 v0 rfl rfl);obtain⟨s0,rfl⟩:∃l,bsB l=y0:=⟨y0.data.toList,zbj _⟩;clear hA0 hval0;refine(law_DeclarationsPositions s0 W (zex hL) (zew hL) (zev hsh)).mono fun e W' ⟨he,bel⟩=>?_;subst he;refine⟨_,rfl,_,_,_,[],p0++ [],[],hW',?_,?_,?_,bel.frame _,fun h=>by cases h⟩
 ·exact trodAll_mk1 (shut_bool Tryz.underlying4 _)
 ·exact args_shut (Below.trod zgx (by kernel_rfl) (of_decide_eq_true (by kernel_rfl)) k0 bel (fun x hx=>hlt x (by simp[hx])))
 ·rfl
end Go.Proofs.YtcdekelomkcahaaGreatDoor
