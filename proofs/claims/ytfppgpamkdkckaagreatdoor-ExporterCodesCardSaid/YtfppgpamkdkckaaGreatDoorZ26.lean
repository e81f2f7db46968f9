import Derived.Test.YtfppgpamkdkckaaGreatDoorZ00
import Derived.ChangeSame
import Derived.Deep.Cut
import Derived.Deep.CutRange
import Derived.Deep.Fields
import Derived.Deep.LoopGhost
import Derived.Deep.Slices
import Derived.DeepKeys4
import Derived.Ground.GgzProg
import Derived.Laws.AppendOwnNone
import Derived.Lib.AppendZeros
import Derived.Lib.AtoiAll
import Derived.Lib.Builder
import Derived.Lib.IndexAny
import Derived.Lib.IndexBytes
import Derived.Lib.Join
import Derived.Lib.LazyBuf
import Derived.Lib.SmallJoins
import Derived.Lib.SplitLaws
import Derived.Maps.OwnIn
import Derived.Shelf.SlGeneric
import Derived.Shelf.SlIterI.Nil
import Derived.Shelf.SlIterI.Sorted
import Derived.SizedLaws
import Derived.Test.YtfppgpamkdkckaaGreatDoorZ05
set_option maxRecDepth 100000
set_option maxHeartbeats 16000000
namespace Go.Proofs.YtfppgpamkdkckaaGreatDoor
structure PSok (V:Vals) (K:Bs→Option Dc) (s:PS):Prop where
 v:zsz V K 0 false s.out=true
 l:zid 0 s.out=s.last
 o:offA false s.out=s.off
theorem zie:∀(a b:List Rc) (x:Int),zid x (a++b)=zid (zid x a) b
 | [],_,_=>rfl
 |_::a,b,_=>zie a b _
theorem zkx:∀(a b:List Rc) (x:Bool),offA x (a++b)=offA (offA x a) b
 | [],_,_=>rfl
 |_::a,b,_=>zkx a b _
theorem PSok.prob {V:Vals} {K:Bs→Option Dc} {s:PS} (h:PSok V K s) (e:Int) (w:Wd):PSok V K (s.prob e w):=⟨h.v,h.l,h.o⟩
theorem PSok.app {V:Vals} {K:Bs→Option Dc} {s s':PS} (h:PSok V K s) {r:Rc} (hv:zsz V K s.last s.off [r]=true) (ho:s'.out=s.out++ [r]) (hl:s'.last=zid s.last [r]) (hf:s'.off=offA s.off [r]):PSok V K s':=
 ⟨by rw[ho,zsC,h.v,h.l,h.o,hv];rfl,by rw[ho,zie,h.l,hl],by rw[ho,zkx,h.o,hf]⟩
theorem PSok.same {V:Vals} {K:Bs→Option Dc} {s s':PS} (h:PSok V K s) (ho:s'.out=s.out) (hl:s'.last=s.last) (hf:s'.off=s.off):PSok V K s':=
 ⟨by rw[ho];exact h.v,by rw[ho,h.l,hl],by rw[ho,h.o,hf]⟩
theorem PSok.time {V:Vals} {K:Bs→Option Dc} {s:PS} (h:PSok V K s) (w:Wd):PSok V K (zqx s w):=by
 unfold zqx;split
 ·exact h.same rfl rfl rfl
 ·rename_i t ht
  split
  ·exact h.same rfl rfl rfl
  ·rename_i hn
   refine h.app (r:=(0,t,[],[])) ?_ rfl rfl rfl;unfold zsz zsz;rw[if_pos rfl];dsimp only;rw[decide_eq_false (show ¬t<s.last by omega),decide_eq_true (show t≤1099511627776 by omega)];rfl
theorem PSok.dump {V:Vals} {K:Bs→Option Dc} {s:PS} (h:PSok V K s) (w:Wd):PSok V K (zet s w):=by
 unfold zet PS.put
 have h1:PSok V K (if s.opn=true then s.prob 10 w else s):=by
  split
  ·exact h.prob _ _
  ·exact h
 generalize (if s.opn=true then s.prob 10 w else s)=s1 at h1⊢;dsimp only;split
 ·exact h1.same rfl rfl rfl
 ·exact h1.app (r:=(4,0,[],[])) rfl rfl rfl rfl
theorem PSok.turn {V:Vals} {K:Bs→Option Dc} {s:PS} (h:PSok V K s) (w:Wd) (o:Bool):PSok V K (zrh s w o):=by
 unfold zrh
 have h1:PSok V K (if(s.opn||(s.off==o))=true then s.prob 10 w else s)∧(if(s.opn||(s.off==o))=true then s.prob 10 w else s).off=s.off∧(if(s.opn||(s.off==o))=true then s.prob 10 w else s).skip=s.skip:=by
  split
  ·exact⟨h.prob _ _,rfl,rfl⟩
  ·exact⟨h,rfl,rfl⟩
 generalize (if(s.opn||(s.off==o))=true then s.prob 10 w else s)=s1 at h1⊢;obtain⟨h1,h2,h3⟩:=h1;dsimp only;split
 ·exact h1.same rfl rfl rfl
 ·rename_i hn
  have hn':(s.off==o)=false∧s.skip=false:=by simpa using hn
  unfold PS.put;dsimp only;rw[if_neg (by rw[h3,hn'.2];simp)]
  have hoo:s1.off=!o:=by
   rw[h2];exact(show ∀x y:Bool,(x==y)=false→x=!y by decide) _ _ hn'.1
  refine h1.app (r:=(if o=true then 2 else 3,0,[],[])) ?_ rfl ?_ ?_
  ·rw[hoo];cases o<;>rfl
  ·cases o<;>rfl
  ·rw[hoo];cases o<;>rfl
theorem PSok.fin {V:Vals} {K:Bs→Option Dc} {s:PS} (h:PSok V K s) (w:Wd):PSok V K (endP s w):=by
 unfold endP;split
 ·exact h.same rfl rfl rfl
 ·exact h.same rfl rfl rfl
theorem PSok.change {V:Vals} (hV:ValsOk V) {l:List Dc} {s:PS} (h:PSok V (knL V l) s) (w hw:Wd) (code text:Bs) (kinds:List Int):PSok V (knL V l) (zb3 V (knL V l) s w hw code text kinds):=by
 unfold zb3;split
 ·exact h
 ·rename_i hs
  split
  ·exact h.prob _ _
  ·rename_i x hx
   split
   ·exact h.prob _ _
   ·split
    ·exact h.prob _ _
    ·rename_i hp
     split
     ·split
      ·exact h
      ·exact h.prob _ _
     ·rename_i hof
      unfold PS.put;rw[if_neg hs];obtain⟨hc,hcode⟩:=zh9 hx;obtain⟨ht,hco⟩:=zcF.1 hc
      have hpv:V.par x.2.1 x.2.2 text=((V.par x.2.1 x.2.2 text).1,0):=by
       have:=Classical.not_not.1 hp;rw[←this]
      have hvv:=hV.par_ok _ _ _ _ hpv;refine h.app (r:=(1,0,code,(V.par x.2.1 x.2.2 text).1)) ?_ rfl rfl rfl;unfold zsz zsz;rw[if_neg (by omega),if_pos rfl];dsimp only;rw[hx];dsimp only
      have hcm:cmdL V x.2.1 x.2.2 (V.par x.2.1 x.2.2 text).1 code≠ []:=by
       unfold cmdL;rw[if_pos (by rw[ht,hvv,←hcode,hco];rfl)];split
       ·intro hh;have:=(List.append_eq_nil_iff.1 hh).2;exact(zcY (hcode▸hco)).1 this
       ·simp
      rw[decide_eq_false hcm]
      have:(s.off&&decide (x.2.1=0))=false:=by
       rw[Bool.and_eq_false_iff,decide_eq_false_iff_not];by_cases ho:s.off=true
       ·exact .inr fun hk=>hof ⟨ho,hk⟩
       ·exact .inl (by simpa using ho)
      rw[this];rfl
theorem PSok.step {V:Vals} (hV:ValsOk V) {l:List Dc} {s:PS} (h:PSok V (knL V l) s) (w:Wd) (t:List Wd):PSok V (knL V l) (zlT V (knL V l) s w t).1:=by
 unfold zlT;split
 ·exact h.prob _ _
 ·split
  ·exact h.time w
  ·split
   ·split
    ·exact h.dump w
    ·split
     ·exact h.turn w true
     ·split
      ·exact h.turn w false
      ·split
       ·exact h.fin w
       ·unfold zoh;split
        ·exact h.prob _ _
        ·dsimp only;split
         ·exact h
         ·exact h.prob _ _
   ·split
    ·split
     ·dsimp only;split
      ·exact h
      ·exact h.prob _ _
     ·exact h.change hV _ _ _ _ _
    ·split
     ·exact h.prob _ _
     ·split
      ·dsimp only;split
       ·exact h
       ·exact h.prob _ _
      ·exact h.change hV _ _ _ _ _
theorem PSok.run {V:Vals} (hV:ValsOk V) {l:List Dc}:∀(n:Nat) (ws:List Wd) (s:PS),ws.length≤n→PSok V (knL V l) s→PSok V (knL V l) (pRun V (knL V l) s ws)
 |_,[],s,_,h=>by rw[zlS];exact h
 |0,w::t,s,hl,h=>by simp at hl
 |n+1,w::t,s,hl,h=>by
  rw[zlR];have:=zlU V (knL V l) s w t;exact PSok.run hV n _ _ (by simp at hl;omega) (h.step hV w t)
def PS.pre (p:List Pb) (s:PS):PS:={s with wrong:=p++s.wrong}
open Go.RowKit
set_option linter.unusedSimpArgs false
end Go.Proofs.YtfppgpamkdkckaaGreatDoor
namespace Go.Proofs
open Go.Shelf
def Tryz.keysA_ren:Go.Shelf.Ren:=⟨fun|7=>143|10=>187|n=>n,fun|23=>135|26=>3|3=>4|28=>71|0=>0|27=>70|33=>121|4=>4|n=>n,fun|n=>n⟩
theorem Tryz.keysA:Go.Proofs.SlLaysZI.n7 Tryz.prog Tryz.keysA_ren:={
 mixed:=by kernel_rfl
 f7:=⟨Tryz.f143.name,by decide,Tryz.func143.trans (congrArg some (by kernel_rfl))⟩
 f10:=⟨Tryz.f187.name,by decide,Tryz.func187.trans (congrArg some (by kernel_rfl))⟩
 t0:=Tryz.underlying0
 a0:=Tryz.isAgg0
 z0:=Tryz.sizeOf0
 v0:=Tryz.zeroValue0
 t4:=Tryz.underlying4
 a4:=Tryz.isAgg4
 z4:=Tryz.sizeOf4
 v4:=Tryz.zeroValue4
 t23:=Tryz.underlying135
 a23:=Tryz.isAgg135
 z23:=Tryz.sizeOf135
 v23:=Tryz.zeroValue135
 t26:=Tryz.underlying3
 a26:=Tryz.isAgg3
 z26:=Tryz.sizeOf3
 v26:=Tryz.zeroValue3
 t27:=Tryz.underlying70
 a27:=Tryz.isAgg70
 z27:=Tryz.sizeOf70
 v27:=Tryz.zeroValue70
 t28:=Tryz.underlying71
 a28:=Tryz.isAgg71
 z28:=Tryz.sizeOf71
 v28:=Tryz.zeroValue71
 t33:=Tryz.underlying121
 a33:=Tryz.isAgg121
 z33:=Tryz.sizeOf121
 v33:=Tryz.zeroValue121}
def Tryz.sortedA_ren:Go.Shelf.Ren:=⟨fun|6=>142|8=>186|9=>78|11=>251|13=>145|12=>144|23=>197|24=>198|14=>188|15=>189|16=>190|17=>191|18=>192|19=>193|20=>194|21=>195|22=>196|25=>252|26=>253|27=>254|28=>255|29=>256|30=>257|31=>299|n=>n,fun|26=>3|28=>71|24=>77|0=>0|3=>3|37=>178|48=>214|50=>216|4=>4|40=>208|39=>207|45=>23|5=>5|9=>9|51=>238|55=>242|57=>278|58=>171|33=>121|n=>n,fun|n=>n⟩
theorem Tryz.sortedA:Go.Proofs.SlLaysZI.n6 Tryz.prog Tryz.sortedA_ren:={
 mixed:=by kernel_rfl
 f6:=⟨Tryz.f142.name,by decide,Tryz.func142.trans (congrArg some (by kernel_rfl))⟩
 f8:=⟨Tryz.f186.name,by decide,Tryz.func186.trans (congrArg some (by kernel_rfl))⟩
 f11:=⟨Tryz.f251.name,by decide,Tryz.func251.trans (congrArg some (by kernel_rfl))⟩
 t0:=Tryz.underlying0
 a0:=Tryz.isAgg0
 z0:=Tryz.sizeOf0
 v0:=Tryz.zeroValue0
 t24:=Tryz.underlying77
 a24:=Tryz.isAgg77
 z24:=Tryz.sizeOf77
 v24:=Tryz.zeroValue77
 t26:=Tryz.underlying3
 a26:=Tryz.isAgg3
 z26:=Tryz.sizeOf3
 v26:=Tryz.zeroValue3
 t28:=Tryz.underlying71
 a28:=Tryz.isAgg71
 z28:=Tryz.sizeOf71
 v28:=Tryz.zeroValue71
 i26:=by kernel_rfl}
end Go.Proofs
namespace Go.Proofs.YtfppgpamkdkckaaGreatDoor
open Go.RowKit Go.Maps Go.Sort Go.Shelf
theorem zgR (m:Nat):AnyZI.SortsIn Tryz.prog Tryz.sortedA_ren Fence.wide m:=
 ⟨fun blk off cap ss W hH hblk hsz=>callsIn_wide.2 (Tryz.slices_Sort_int blk off cap ss W hH hblk hsz),
  fun p cap W=>callsIn_wide.2 (Any.slices_Sort_int_none Tryz.lays189 p cap W)⟩
theorem zgP (mb:Option Nat) (W:World):Calls Tryz.prog 143 #[.map mb] W fun e w'=>e=.returned (.func (.func 187) #[] #[.pointer (some ⟨W.heap.size,0,none⟩)])∧w'=W.alloc (.cells #[.map mb] 135):=
 (callsIn_wide (n:=6)).1 (AnyZI.keys_in Tryz.keysA Fence.wide 6 trivial rfl mb W)
theorem zgQ {H:Type} (b nn:Nat) (D0:DataW H) (R:Value→Option (DataW H×List MemPlace)) (w:World) (hown:w.ownsMap Tryz.prog 3 R b nn D0) (hmax:Maps.size D0≤maxLen) (hbytes:Maps.size D0*8≤140737488355328):
 Calls Tryz.prog 142 #[.func (.func 187) #[] #[.pointer (some ⟨w.heap.size,0,none⟩)]] (w.alloc (.cells #[.map (some b)] 135)) fun e w'=>∃(v:Value) (ss:List Int),e=.returned v∧ss.Perm (intKeys D0)∧
  w'.ownsRow (w.heap.size+1) 3 1 v ss.length ((ss.mergeSort (fun x y=>decide (x≤y))).map encZ)∧Below (w.heap.size+1) (w.alloc (.cells #[.map (some b)] 135)) w':=by
 refine(callsIn_wide (n:=6)).1 ?_;have hbl:=hown.lt
 have hseq:SeqGives Fence.wide 3 Tryz.prog 187 #[.pointer (some ⟨w.heap.size,0,none⟩)] encZ (fun ss=>ss.Perm (intKeys D0)) (Maps.size D0) (w.alloc (.cells #[.map (some b)] 135)):=
  AnyZI.keys_gives (ρ:=Tryz.keysA_ren) {Tryz.keysA with} Fence.wide _ trivial rfl (by omega) w.heap.size b nn D0 _ (by simp) (by simp) (by
   obtain⟨es,clock,hb,Ft,hs,hD⟩:=hown;exact⟨es,clock,(Below.heap_alloc _ _ b hbl).trans hb,Ft,hs,hD⟩)
 have cS:=AnyZI.sorted_in Tryz.sortedA Fence.wide 6 trivial trivial trivial trivial rfl (by omega) (zgR _) (enters_of Tryz.func78 (by kernel_rfl) rfl) 187 #[.pointer (some ⟨w.heap.size,0,none⟩)] trivial (enters_of Tryz.func187 (by kernel_rfl) rfl) _ _ hmax hbytes _ hseq;refine cS.mono ?_;rintro e w' ⟨v,ss,rfl,hS,hrow,-,hb⟩;have e1:(w.alloc (.cells #[.map (some b)] 135)).heap.size=w.heap.size+1:=by simp
 rw[e1]at hrow hb;exact⟨v,ss,rfl,hS,hrow,hb⟩
theorem keys_perm {P:Program} {K:TypeId} {w:World} {b n:Nat} {R:Value→Option (DataW Value×List MemPlace)} {D:DataW Value} (hown:w.ownsMap P K R b n D) (hK:P.underlying K=some (.int .i64)) {L:List Int} (hn:L.Nodup) (hw:∀x∈L,(Lit.int .i64 x).wf=true) (hm:∀x,(Lit.int .i64 x).wf=true→(x∈L↔Maps.has D (.int .i64 x)=true)):L.Perm (intKeys D):=by
 have hwf:=intKeys_wf hown hK;obtain⟨es,hD,hpw,-⟩:=hown.entries (Maps.int_keyed hK);obtain⟨es',hD',hko⟩:=hown.keysOf;obtain rfl:es=es':=by rw[hD]at hD';simpa using hD'
 subst hD
 have hk:∀p∈es,∃x,p.1=Lit.int .i64 x:=fun p hp=>by
  obtain⟨v,hv⟩:=hko p hp;obtain⟨x,-,hx,-⟩:=Maps.keyOf_i64 hK hv;exact⟨x,hx⟩
 refine perm_intKeys hpw hk hn fun x=>?_;by_cases hx:(Lit.int .i64 x).wf=true
 ·exact hm x hx
 ·refine⟨fun h=>absurd (hw x h) hx,fun h=>absurd ?_ hx⟩;rw[Maps.has_eq,List.any_eq_true]at h;obtain⟨p,hp,hs⟩:=h;obtain⟨a,ha⟩:=hk p hp
  have hin:a∈intKeys (DataW.map es):=by
   show a∈es.map fun p=>Go.intOf p.1;exact List.mem_map.2 ⟨p,hp,by rw[ha];rfl⟩
  rw[ha]at hs;have:a=x:=by simpa[Lit.sameKey] using hs
  rw[←this];exact hwf a hin
open Go.RowKit
set_option linter.unusedSimpArgs false
theorem zl5 {k:Nat} (h:k≤17):(1:Int)≤((10^k:Nat):Int)∧((10^k:Nat):Int)≤100000000000000000:=by
 have h1:10^k≤10^17:=Nat.pow_le_pow_right (by decide) h;have h2:0<10^k:=Nat.pow_pos (by decide);omega
theorem zre (b n:Nat) (w:World) (hn:n≤17) (hc:w.cell? ⟨b,0,none⟩=some (.int .i64 1)) (hf:w.frozen? ⟨b,0,none⟩=false):
 Calls Tryz.prog 214 #[.int .i64 n,.pointer (some ⟨b,0,none⟩)] w fun e w'=>e=.returned (.tuple #[])∧w'.cell? ⟨b,0,none⟩=some (.int .i64 (10^n:Nat))∧Below b w w':=by
 go_enter Tryz.func214,Tryz.ntmps214;go_wp2_with fail;go_loopw [4] (fun u wr=>∃k:Nat,k≤n∧u=.int .i64 k∧wr.cell? ⟨b,0,none⟩=some (.int .i64 (10^k:Nat))∧wr.frozen? ⟨b,0,none⟩=false∧Below b w wr) (fun u _=>n-(intOf u).toNat)
 case atStart=>exact⟨0,Nat.zero_le _,rfl,hc,hf,Below.refl _ _⟩
 case round=>
  obtain⟨k,hk,rfl,hck,hfk,hb⟩:=hrel;have HB:=lhd hb;clear hb;by_cases hlt:k<n
  ·have hp:=zl5 (k:=k) (by omega);have HN:=lhd (show((10^k:Nat):Int)*10=((10^(k+1):Nat):Int)by rw[Nat.pow_succ];omega);have hq:=zl5 (k:=k+1) (by omega);generalize ((10^k:Nat):Int)=x at*;obtain⟨y,hy⟩:∃y:Int,y=((10^(k+1):Nat):Int):=⟨_,rfl⟩;rw[←hy]at HN hq;have HY:=lhd hy;clear hy;have hw:IntKind.i64.wrap (x*10)=y:=by rw[HN.out];exact IntWalk.i64_in _ (by omega)
   have HC2:=lhd (show(wr.setCell ⟨b,0,none⟩ (.int .i64 y)).cell? ⟨b,0,none⟩=some (.int .i64 y)by simp[World.cell?_setCell_same,hck]);have HF2:=lhd (show(wr.setCell ⟨b,0,none⟩ (.int .i64 y)).frozen? ⟨b,0,none⟩=false by rw[World.frozen?_setCell];exact hfk);have HB2:=lhd (show Below b w (wr.setCell ⟨b,0,none⟩ (.int .i64 y))from HB.out.setCell (Nat.le_refl _) _);go_wp2_with fail;go_roundw;case rel=>exact⟨k+1,hlt,by go_num,HY.out▸HC2.out,HF2.out,HB2.out⟩
   case measure=>simp[intOf];omega
  ·obtain rfl:k=n:=by omega
   go_wp2_with fail;go_end0
   exact⟨rfl,hck,HB.out⟩
theorem zrd (n:Nat) (w:World) (hn:n≤17):Calls Tryz.prog 160 #[.int .i64 n] w fun e w'=>e=.returned (.int .i64 (10^n:Nat))∧Below w.heap.size w w':=by
 have hal:Below w.heap.size w (w.alloc (.cells #[.int .i64 1] 3)):=(Below.refl _ _).alloc (Nat.le_refl _) _;have hx:=zan.fresh w #[.int .i64 1] 3;have HT:=lhd (zre w.heap.size n _ hn (hx.cell (j:=0) rfl) (hx.free (j:=0) (by simp)));have HB:=lhd hal;clear hal hx;go_enter Tryz.func160,Tryz.ntmps160;go_wp2_with fail;refine HT.out.mono ?_;rintro e w2 ⟨rfl,hc,hb⟩;have HB2:=lhd (HB.out.trans hb);clear hb;generalize hy:((10^n:Nat):Int)=y at hc;have HY:=lhd hy;clear hy;go_wp2_with fail;go_ret;exact⟨by rw[HY.out];rfl,HB2.out⟩
open Go.Joins Go.ChangeShapes Go.WideShapes Go.RowKit Go.Deep
theorem zpp {w:World} {a:Addr} {v:Value} (h:w.cell? a=some v):a.spot=none:=by
 unfold World.cell? at h;split at h
 ·split at h
  ·cases h
  ·rename_i h1;simpa using h1
 ·cases h
theorem ztt {H:Type} {P:Program} {e:TypeId}:∀{l:List (DataW H)} {d:DataW H},d∈l→∀n∈d.weights P e,n∈DataW.weightsAll P e l
 |x::r,d,h,n,hn=>by
  unfold DataW.weightsAll;rcases List.mem_cons.1 h with rfl|h
  ·exact List.mem_append.2 (.inl hn)
  ·exact List.mem_append.2 (.inr (ztt h n hn))
theorem zfx {T:Type} {enc:T→List Value} {k:Nat} (henc:∀x,(enc x).length=k):∀l:List T,(l.flatMap enc).length=k*l.length
 | []=>rfl
 |x::l=>by rw[List.flatMap_cons,List.length_append,henc,zfx henc l,List.length_cons,Nat.mul_add];omega
theorem ziA {T:Type} {enc:T→List Value} {k:Nat} (henc:∀x,(enc x).length=k) {Q:T→Prop} {w:World} {a:Addr}:∀{m:Nat},(∀i,i<m→∃c:T,Q c∧∀(j:Nat) (u:Value),(enc c)[j]? =some u→w.cell? (a.add (i*k+j))=some u)→
 ∃l:List T,l.length=m∧(∀c∈l,Q c)∧∀(j:Nat) (u:Value),(l.flatMap enc)[j]? =some u→w.cell? (a.add j)=some u
 |0,_=>⟨[],rfl,by simp,fun j u h=>by simp at h⟩
 |m+1,h=>by
  obtain⟨l,hl,hq,hc⟩:=ziA henc (m:=m) fun i hi=>h i (by omega);obtain⟨c,h0,h1⟩:=h m (by omega);have hf:=zfx henc l;refine⟨l++ [c],by simp[hl],fun x hx=>?_,fun j u hj=>?_⟩
  ·rcases List.mem_append.1 hx with hx|hx
   ·exact hq x hx
   ·rw[List.mem_singleton]at hx;subst hx;exact h0
  ·rw[List.flatMap_append]at hj;by_cases hlt:j<(l.flatMap enc).length
   ·rw[List.getElem?_append_left hlt]at hj;exact hc j u hj
   ·rw[List.getElem?_append_right (by omega)]at hj;have:=h1 (j-(l.flatMap enc).length) u (by simpa using hj);rwa [show m*k+(j-(l.flatMap enc).length)=j by rw[hf,hl,Nat.mul_comm m k];rw[hf,hl]at hlt;omega]at this
section
variable {H : Type} {enc : TypeId × Value → H} {P : Program} {w : World} {base : Nat} {spare : Nat → Bool} {held : Bool}
theorem zk0 {T:Type} {encT:T→List Value} {k:Nat} (henc:∀x,(encT x).length=k) (hk0:0<k) {Q:T→Prop} {t e:TypeId} (ht:P.underlying t=some (.slice e)) (hk:P.cellsOf e=k)
 (hel:∀(n:Nat) (cs':List Value) (y:DataW H×List MemPlace),cs'.length=k→DataW.trod enc P w base spare held n e cs'=some y→(∀m∈y.1.weights P e,m≤reachBytes)→∃c:T,cs'=encT c∧Q c)
 {fuel:Nat} {cs:List Value} {x:DataW H×List MemPlace} (h:DataW.trod enc P w base spare held fuel t cs=some x) (hz:∀m∈x.1.weights P t,m≤reachBytes):
 ∃(v:Value) (l:List T),cs=[v]∧SlR w v l.length (l.flatMap encT)∧∀c∈l,Q c:=by
 rcases open_slice ht h with⟨rfl,-⟩|⟨a,len,cap,m,n,D,Pl,rfl,hb,hl,hm,hmm,rfl,hi⟩
 ·exact⟨_,[],rfl,SlR.nil _,by simp⟩
 ·have hlm:len≤m:=by rw[hmm];split<;>omega
  obtain⟨l,hll,hq,hc⟩:=ziA henc (Q:=Q) (w:=w) (a:=a) (m:=len) fun i him=>by
   obtain⟨cs',hcs,htr⟩:=hi i (by omega);rw[hk]at hcs;obtain⟨-,hcl,hat⟩:=World.cells?_some hcs
   obtain⟨c,rfl,hqc⟩:=hel n cs' _ hcl htr fun q hq=>hz q (by
    unfold DataW.weights;rw[ht];refine List.mem_cons_of_mem _ (List.mem_append.2 (.inl (ztt (d:=D i) ?_ q hq)));exact List.mem_map.2 ⟨i,List.mem_range.2 him,rfl⟩)
   refine⟨c,hqc,fun j u hj=>?_⟩;have hjk:j<k:=by have:=(List.getElem?_eq_some_iff.1 hj).1;rwa [hcl]at this
   rw[←Go.Deep.add_add,hat j hjk,hj]
  subst hll;refine⟨_,l,rfl,⟨some a,cap,rfl,hl,hm,fun h=>by simp at h,fun hn=>?_⟩,hq⟩;have hpos:0<(l.flatMap encT).length:=by rw[zfx henc];exact Nat.mul_pos hk0 (by omega)
  have hsp:a.spot=none:=by
   have h0:=hc 0 _ (List.getElem?_eq_getElem hpos);have:=zpp h0;simpa[Addr.add] using this
  obtain⟨b,o,sp⟩:=a;simp only at hsp;subst hsp;exact⟨b,o,rfl,fun j u hj=>by have:=hc j u hj;rwa [addr_add]at this⟩
theorem fld {t:TypeId} {fs:Array Field} {n:Nat} {cs:List Value} {y:DataW H×List MemPlace} (hu:P.underlying t=some (.struct fs)) (h:DataW.trod enc P w base spare held n t cs=some y) (hz:∀m∈y.1.weights P t,m≤reachBytes)
 (i:Nat) {f:Field} (hi:fs[i]? =some f) {k o:Nat} (hk:P.cellsOf f.type=k) (ho:f.offset=o):∃(n':Nat) (z:DataW H×List MemPlace),DataW.trod enc P w base spare held n' f.type ((cs.drop o).take k)=some z∧∀m∈z.1.weights P f.type,m≤reachBytes:=by
 obtain⟨xs,n',-,rfl,-,hxl,hf⟩:=DataW.trod_struct hu h;have hlt:i<xs.length:=by rw[hxl];exact(Array.getElem?_eq_some_iff.1 hi).1
 have h1:=hf i f hi;rw[hk,ho,List.getElem?_eq_getElem hlt]at h1;refine⟨n',xs[i],h1,fun m hm=>hz m ?_⟩;unfold DataW.weights;rw[hu];refine DataW.weights_mem_each (j:=i) (t:=f.type) (d:=xs[i].1) ?_ ?_ m hm
 ·rw[List.getElem?_map,Array.getElem?_toList,hi];rfl
 ·rw[List.getElem?_map,List.getElem?_eq_getElem hlt];rfl
end
section
variable {H : Type} {enc : TypeId × Value → H} {w : World} {base : Nat} {spare : Nat → Bool} {held : Bool} {n : Nat} {v : Value} {z : DataW H × List MemPlace}
theorem zim (h:DataW.trod enc Tryz.prog w base spare held n 4 [v]=some z):∃x:Bool,v=.bool x:=by
 obtain⟨x,e,-⟩:=DataW.trod_bool Tryz.underlying4 h;injection e with e;exact⟨x,e⟩
theorem zio (h:DataW.trod enc Tryz.prog w base spare held n 9 [v]=some z) (hz:∀m∈z.1.weights Tryz.prog 9,m≤reachBytes):∃x:Bs,v=.string (bsB x)∧x.length≤140737488351232:=by
 obtain⟨x,e,rfl,-⟩:=DataW.trod_string Tryz.underlying9 h;injection e with e;refine⟨x.data.toList,by rw[zbs];exact e,?_⟩;exact hz _ (by unfold DataW.weights;exact List.mem_singleton.2 rfl)
end
end Go.Proofs.YtfppgpamkdkckaaGreatDoor
