import Derived.Below
import Derived.Deep.RegionHeld
import Derived.WalkKit
set_option maxRecDepth 100000
set_option maxHeartbeats 16000000
namespace Go.Proofs.YtcdekelomkcahaaGreatDoor
open Go
def ziD (md:Region.Mode) (ops:Array Oper) (listed:Array Bool) (i:Nat):Bool:=
 !listed.getD i true&&((ops[i]?).map (·.after.all fun e=>!Region.binds md e||listed.getD e.on false)).getD false
theorem ziE {md:Region.Mode} {ops:Array Oper} {listed:Array Bool} {i:Nat} {oi:Oper} (hi:ops[i]? =some oi) (h:ziD md ops listed i=true):(Region.ready md ops listed).contains i=true:=by
 unfold Region.ready;rw[List.contains_iff_mem,List.mem_filter,List.mem_range];exact⟨(Array.getElem?_eq_some_iff.1 hi).1,h⟩
def zen (md:Region.Mode) (ops:Array Oper) (i:Nat):Bool:=
 match ops[i]? with
 |none=>false
 |some oi=>(List.range ops.size).all fun j=>j==i||match ops[j]? with
   |some oj=>oj.after.any (fun e=>Region.binds md e&&e.on==i)||oi.after.any (fun e=>Region.binds md e&&e.on==j)||oi.apart ops oj
   |none=>true
def znf (md:Region.Mode) (ops:Array Oper) (l:List Nat):Bool:=Region.noSelect ops&&l.all fun i=>zen md ops i
theorem zeo {md:Region.Mode} {ops:Array Oper} {listed:Array Bool} {i:Nat} {oi:Oper} (hi:ops[i]? =some oi) (hf:zen md ops i=true) (hr:ziD md ops listed i=true):Region.free md ops listed i=true:=by
 unfold zen at hf;unfold Region.free;rw[hi]at hf⊢;dsimp only at hf⊢;rw[List.all_eq_true]at hf⊢;intro j hj;have h1:=hf j hj;rw[Bool.or_eq_true]at h1⊢;rcases h1 with h1|h1
 ·exact .inl (by rw[h1,Bool.true_or])
 ·cases hlj:listed.getD j true with
  |true=>exact .inl (by rw[Bool.or_true])
  |false=>
   refine .inr ?_;cases hoj:ops[j]? with
   |none=>rfl
   |some oj=>
    rw[hoj]at h1;dsimp only at h1⊢;rw[Bool.or_eq_true,Bool.or_eq_true]at h1;rw[Bool.or_eq_true];rcases h1 with(h1|h1)|h1
    ·exact .inl h1
    ·exfalso
     obtain⟨e,he,hb⟩:=Array.any_eq_true'.1 h1;rw[Bool.and_eq_true,beq_iff_eq]at hb;unfold ziD at hr;rw[hi,Bool.and_eq_true]at hr;have h2:=Array.all_eq_true_iff_forall_mem.1 (show(oi.after.all fun e=>!Region.binds md e||listed.getD e.on false)=true from hr.2) e he;rw[hb.1,hb.2,Bool.not_true,Bool.false_or]at h2
     have hjl:j<listed.size:=by
      rw[Array.getD_eq_getD_getElem?]at h2;cases hx:listed[j]? with
      |none=>rw[hx]at h2;cases h2
      |some b=>exact(Array.getElem?_eq_some_iff.1 hx).1
     rw[Array.getD_eq_getD_getElem?,Array.getElem?_eq_getElem hjl]at h2 hlj;dsimp only[Option.getD_some]at h2 hlj;rw[h2]at hlj;cases hlj
    ·exact .inr h1
section
variable {P : Program} {md : Region.Mode} {ops : Array Oper} {Q : Exit → Act → World → Prop} {S : World → Prop}
theorem zqi {l:List Nat} {i:Nat} {oi:Oper} {v:Value} {fuel:Nat} {listed:Array Bool} {a:Act} {w:World} (hst:RowKit.Hid (znf md ops l=true)) (hi:ops[i]? =some oi) (hl:l.contains i=true) (hr:ziD md ops listed i=true)
 (hQ:∀c a w,Q (.panic c) (a.put oi.dst v) w→Q (.panic c) a w) (hy:YieldsIf P ops S oi v a) (hS:S w)
 (h:wpAnyH P md ops Q S fuel (listed.setIfInBounds i true) (a.put oi.dst v) w):wpAnyH P md ops Q S (fuel+1) listed a w:=by
 have hst:=hst.out;unfold znf at hst;rw[Bool.and_eq_true,List.all_eq_true]at hst;exact wpAnyH_take hi hst.1 (zeo hi (hst.2 i (by rwa [List.contains_iff_mem]at hl)) hr) (ziE hi hr) hQ hy hS h
def zaz (ops:Array Oper):List Nat→Act→Act→Prop
 | [],a,b=>a=b
 |i::is,a,b=>∃oi,ops[i]? =some oi∧Region.wanted oi (yielded ops a.tmps)=false∧zaz ops is (a.put oi.dst undef) b
theorem zaz.nil {ops:Array Oper} {a:Act}:zaz ops [] a a:=rfl
theorem zaz.cons {ops:Array Oper} {i:Nat} {is:List Nat} {a b:Act} {oi:Oper} (ho:ops[i]? =some oi) (hw:Region.wanted oi (yielded ops a.tmps)=false) (h:zaz ops is (a.put oi.dst undef) b):zaz ops (i::is) a b:=⟨oi,ho,hw,h⟩
def zk1 (md:Region.Mode) (ops:Array Oper):List Nat→Array Bool→Bool
 | [],_=>true
 |i::is,listed=>ziD md ops listed i&&zk1 md ops is (listed.setIfInBounds i true)
theorem zqh {l:List Nat} {i d:Nat} {oi:Oper} {v:Value} {fuel:Nat} {lb lb':List Bool} {ts ts':List Value} {df:List Deferred} {w:World} (hst:RowKit.Hid (znf md ops l=true)) (hi:ops[i]? =some oi) (hd:oi.dst=some d) (hl:l.contains i=true) (hr:ziD md ops lb.toArray i=true)
 (hQ:∀c a w,Q (.panic c) (a.put (some d) v) w→Q (.panic c) a w) (hy:YieldsIf P ops S oi v ⟨ts.toArray,df⟩) (hS:S w) (h1:lb.set i true=lb') (h2:ts.set d v=ts')
 (h:wpAnyH P md ops Q S fuel lb'.toArray ⟨ts'.toArray,df⟩ w):wpAnyH P md ops Q S (fuel+1) lb.toArray ⟨ts.toArray,df⟩ w:=by
 refine zqi hst hi hl hr (fun c a w hq=>by rw[hd]at hq;exact hQ c a w hq) hy hS ?_
 have e:Act.put ⟨ts.toArray,df⟩ oi.dst v=⟨ts'.toArray,df⟩:=by
  rw[hd,←h2];show Act.mk (ts.toArray.setIfInBounds d v) df=_;rw[List.setIfInBounds_toArray]
 rw[e,List.setIfInBounds_toArray,h1];exact h
def zay (ops:Array Oper):List Nat→List Value→List Value→Prop
 | [],a,b=>a=b
 |i::is,a,b=>∃oi d c,ops[i]? =some oi∧oi.dst=some d∧Region.wanted oi (yielded ops a.toArray)=false∧a.set d undef=c∧zay ops is c b
theorem zay.nil {ops:Array Oper} {a:List Value}:zay ops [] a a:=rfl
theorem zay.cons {ops:Array Oper} {i d:Nat} {is:List Nat} {a b c:List Value} {oi:Oper} (ho:ops[i]? =some oi) (hd:oi.dst=some d) (hw:Region.wanted oi (yielded ops a.toArray)=false) (hc:a.set d undef=c) (h:zay ops is c b):zay ops (i::is) a b:=⟨oi,d,c,ho,hd,hw,hc,h⟩
theorem zqg {l:List Nat} (hst:RowKit.Hid (znf md ops l=true)) (hQ:∀c a w (k:Nat),Q (.panic c) (a.put (some k) undef) w→Q (.panic c) a w):∀(is:List Nat) (m:Nat) {fuel:Nat} {lb lb':List Bool} {a b:List Value} {df:List Deferred} {w:World} (_:is.length=m) (_:is.all (fun i=>l.contains i)=true) (_:zk1 md ops is lb.toArray=true) (_:zay ops is a b) (_:S w)
 (_:is.foldl (fun l i=>l.set i true) lb=lb') (_:wpAnyH P md ops Q S fuel lb'.toArray ⟨b.toArray,df⟩ w),wpAnyH P md ops Q S (fuel+m) lb.toArray ⟨a.toArray,df⟩ w
 | [],m,fuel,lb,lb',a,b,df,w,hm,_,_,hb,_,e,h=>by
   obtain rfl:m=0:=hm.symm;obtain rfl:a=b:=hb;obtain rfl:lb=lb':=e;exact h
 |i::is,m,fuel,lb,lb',a,b,df,w,hm,hl,hr,⟨oi,d,c,ho,hd,hw,hc,hb⟩,hS,e,h=>by
  obtain rfl:m=is.length+1:=hm.symm;rw[List.all_cons,Bool.and_eq_true]at hl;unfold zk1 at hr;rw[Bool.and_eq_true,List.setIfInBounds_toArray]at hr;exact zqh (fuel:=fuel+is.length) hst ho hd hl.1 hr.1 (fun c a w hq=>hQ c a w d hq) (.inr ⟨hw,rfl⟩) hS rfl hc (zqg hst hQ is is.length rfl hl.2 hr.2 hb hS e h)
theorem zqn (l:List Nat) (lb:List Bool) {id:Nat} {a:Act} {w:World} (hm:P.follows .mixedOrders=true) (hst:znf .any ops l=true) (hlb:List.replicate ops.size false=lb) (hS:S w.drew)
 (h:S w.drew→RowKit.Hid (znf .any ops l=true)→wpAnyH P .any ops Q S lb.length lb.toArray a w.drew):(Code.region id ops true).wp P Q a w:=
 wp_region_held_drew hm hS (fun h1=>by
  have h2:=h h1 hst;have e:Array.replicate ops.size false=lb.toArray:=by rw[←hlb];simp
  rw[e,show ops.size=lb.length by rw[←hlb];simp];exact h2)
theorem tkV {l:List Nat} (i:Nat) (v:Value) {d:Nat} {oi:Oper} {fuel:Nat} {lb lb':List Bool} {ts ts':List Value} {df:List Deferred} {w:World} (hst:RowKit.Hid (znf md ops l=true)) (hS:S w)
 (hi:ops[i]? =some oi) (hd:oi.dst=some d)
 (h:wpAnyH P md ops Q S fuel lb'.toArray ⟨ts'.toArray,df⟩ w) (hl:l.contains i=true:=by rfl) (hr:ziD md ops lb.toArray i=true:=by kernel_rfl)
 (hQ:∀c a w,Q (.panic c) (a.put (some d) v) w→Q (.panic c) a w:=by exact fun _ _ _ h=>h)
 (hw:Region.wanted oi (yielded ops ts.toArray)=true:=by kernel_rfl) (hy:∀w,S w→(execOp (Act.mk ts.toArray df).eval oi).run P w=.ok (.value v) w:=by exact fun _ _=>by kernel_rfl)
 (h1:lb.set i true=lb':=by dsimp only[List.set_cons_succ,List.set_cons_zero]) (h2:ts.set d v=ts':=by dsimp only[List.set_cons_succ,List.set_cons_zero]):
 wpAnyH P md ops Q S (fuel+1) lb.toArray ⟨ts.toArray,df⟩ w:=zqh hst hi hd hl hr hQ (Or.inl ⟨hw,hy⟩) hS h1 h2 h
theorem tkL {l:List Nat} (i:Nat) {v:Value} {d:Nat} {oi:Oper} {fuel:Nat} {lb lb':List Bool} {ts ts':List Value} {df:List Deferred} {w:World} (hst:RowKit.Hid (znf md ops l=true)) (hS:S w)
 (hi:ops[i]? =some oi) (hd:oi.dst=some d) (hy:∀w,S w→(execOp (Act.mk ts.toArray df).eval oi).run P w=.ok (.value v) w)
 (h:wpAnyH P md ops Q S fuel lb'.toArray ⟨ts'.toArray,df⟩ w) (hl:l.contains i=true:=by rfl) (hr:ziD md ops lb.toArray i=true:=by kernel_rfl)
 (hQ:∀c a w,Q (.panic c) (a.put (some d) v) w→Q (.panic c) a w:=by exact fun _ _ _ h=>h)
 (hw:Region.wanted oi (yielded ops ts.toArray)=true:=by rfl)
 (h1:lb.set i true=lb':=by dsimp only[List.set_cons_succ,List.set_cons_zero]) (h2:ts.set d v=ts':=by dsimp only[List.set_cons_succ,List.set_cons_zero]):
 wpAnyH P md ops Q S (fuel+1) lb.toArray ⟨ts.toArray,df⟩ w:=zqh hst hi hd hl hr hQ (Or.inl ⟨hw,hy⟩) hS h1 h2 h
theorem tkQ {l:List Nat} (i:Nat) {v:Value} {d:Nat} {oi:Oper} {fuel:Nat} {lb lb':List Bool} {ts ts':List Value} {df:List Deferred} {w:World} (hst:RowKit.Hid (znf md ops l=true)) (hS:S w)
 (hi:ops[i]? =some oi) (hd:oi.dst=some d)
 (h:wpAnyH P md ops Q S fuel lb'.toArray ⟨ts'.toArray,df⟩ w) (hl:l.contains i=true:=by rfl) (hr:ziD md ops lb.toArray i=true:=by kernel_rfl)
 (hQ:∀c a w,Q (.panic c) (a.put (some d) v) w→Q (.panic c) a w:=by exact fun _ _ _ h=>h)
 (hw:Region.wanted oi (yielded ops ts.toArray)=true:=by rfl) (hy:∀w,S w→(execOp (Act.mk ts.toArray df).eval oi).run P w=.ok (.value v) w:=by intro w h;(try dsimp only at h);go_simp;all_goals with_reducible rfl)
 (h1:lb.set i true=lb':=by dsimp only[List.set_cons_succ,List.set_cons_zero]) (h2:ts.set d v=ts':=by dsimp only[List.set_cons_succ,List.set_cons_zero]):
 wpAnyH P md ops Q S (fuel+1) lb.toArray ⟨ts.toArray,df⟩ w:=zqh hst hi hd hl hr hQ (Or.inl ⟨hw,hy⟩) hS h1 h2 h
theorem zay.c {ops:Array Oper} {i d:Nat} {is:List Nat} {a b c:List Value} {oi:Oper} (ho:ops[i]? =some oi) (hd:oi.dst=some d) (hw:Region.wanted oi (yielded ops a.toArray)=false:=by kernel_rfl) (hc:a.set d undef=c:=by dsimp only[List.set_cons_succ,List.set_cons_zero]) (h:zay ops is c b):zay ops (i::is) a b:=⟨oi,d,c,ho,hd,hw,hc,h⟩
theorem skL {l:List Nat} (is:List Nat) (m:Nat) {fuel:Nat} {lb lb':List Bool} {a b:List Value} {df:List Deferred} {w:World} (hst:RowKit.Hid (znf md ops l=true)) (hS:S w) (hk:zay ops is a b)
 (h:wpAnyH P md ops Q S fuel lb'.toArray ⟨b.toArray,df⟩ w) (hm:is.length=m:=by rfl) (hl:is.all (fun i=>l.contains i)=true:=by kernel_rfl) (hr:zk1 md ops is lb.toArray=true:=by kernel_rfl)
 (hQ:∀c a w (k:Nat),Q (.panic c) (a.put (some k) undef) w→Q (.panic c) a w:=by exact fun _ _ _ _ h=>h)
 (he:is.foldl (fun l i=>l.set i true) lb=lb':=by dsimp only[List.foldl_cons,List.foldl_nil,List.set_cons_succ,List.set_cons_zero]):
 wpAnyH P md ops Q S (fuel+m) lb.toArray ⟨a.toArray,df⟩ w:=zqg hst hQ is m hm hl hr hk hS he h
end
end Go.Proofs.YtcdekelomkcahaaGreatDoor
