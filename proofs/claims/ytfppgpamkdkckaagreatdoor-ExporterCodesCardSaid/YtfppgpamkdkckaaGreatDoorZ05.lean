import Derived.Test.YtfppgpamkdkckaaGreatDoorZ00
import Derived.Deep.AppendLies
import Derived.Deep.RegionHeld
import Derived.Deep.RegionLaw
import Derived.Laws.BytesArg
import Derived.Laws.BytesString
import Derived.Laws.OwnMore
import Derived.Lib.OwnBridge
import Derived.LoopIn
import Derived.LoopNIn
import Derived.Maps.AppendAt
import Derived.Maps.OwnSet
import Derived.OneCell
import Derived.OrdersHeld
import Derived.OrdersIn
import Derived.OwnWalkIn
import Derived.RangeFuncBound
import Derived.RangeFuncCalls
import Derived.RangeFuncLeaves
import Derived.RangeFuncNested
import Derived.RegionTactic
import Derived.Shelf.Abstract
import Derived.Shelf.RegionOpen
import Derived.TacticsInMore
import Derived.Test.YtfppgpamkdkckaaGreatDoorZ03
import Derived.Test.YtfppgpamkdkckaaGreatDoorZ04
set_option maxRecDepth 100000
set_option maxHeartbeats 16000000
namespace Go.Proofs.YtfppgpamkdkckaaGreatDoor
open Go.RowKit Go.WideMaps
abbrev BsM:=List UInt8
def vR (v:Value):Option (DataW Value×List MemPlace):=some (.held v,[])
def SMap (P:Program) (K:TypeId) (w:World) (b n:Nat) (f:BsM→Option Value):Prop:=
 ∃D:DataW Value,w.ownsMap P K vR b n D∧∀s:BsM,Maps.has D (.string s)=(f s).isSome∧∀v,f s=some v→∀z,D.atKey (.string s) z=.held v
section
variable {P : Program} {K t e : TypeId} {w : World} {b n : Nat} {f : BsM → Option Value}
theorem SMap.at (h:SMap P K w b n f) (s:BsM):∃D:DataW Value,w.ownsMap P K vR b n D∧Maps.has D (.string s)=(f s).isSome∧∀z,D.atKey (.string s) (.held z)=.held ((f s).getD z):=by
 obtain⟨D,ho,hf⟩:=h;obtain⟨h1,h2⟩:=hf s;refine⟨D,ho,h1,fun z=>?_⟩;cases hs:f s with
 |none=>
  rw[hs]at h1;exact Maps.atKey_of_not_has h1 _
 |some v=>exact h2 v hs _
theorem SMap.look (h:SMap P K w b n f) (hK:P.underlying K=some .string) (ht:P.underlying t=some (.map K e)) {z:Value} (hz:(zeroValue e).run P w=.ok z w) (s:ByteArray) (hs:s.size≤maxLen):
 (Instr.lookup t (.map (some b)) (.string s) true).run P w=.ok (.tuple #[(f s.data.toList).getD z,.bool (f s.data.toList).isSome]) w:=by
 obtain⟨D,ho,h1,h2⟩:=h.at s.data.toList;obtain⟨v,ps,hr,hv⟩:=ho.look_ok (Maps.string_keyed hK) ht hz (zd:=.held z) (zp:=[]) rfl (keyOf_string_mk hK hs);rw[hr,h1];rw[h2 z]at hv;unfold vR at hv;injection hv with hv;injection hv with hv _;injection hv with hv;rw[hv]
theorem SMap.look1 (h:SMap P K w b n f) (hK:P.underlying K=some .string) (ht:P.underlying t=some (.map K e)) {z:Value} (hz:(zeroValue e).run P w=.ok z w) (s:ByteArray) (hs:s.size≤maxLen):
 (Instr.lookup t (.map (some b)) (.string s) false).run P w=.ok ((f s.data.toList).getD z) w:=by
 obtain⟨D,ho,h1,h2⟩:=h.at s.data.toList;obtain⟨v,ps,hr,hv⟩:=ho.lookup (Maps.string_keyed hK) ht hz (zd:=.held z) (zp:=[]) rfl (keyOf_string_mk hK hs);rw[hr];rw[h2 z]at hv;unfold vR at hv;injection hv with hv;injection hv with hv _;injection hv with hv;rw[hv]
theorem zpP (s:BsM):WideAt.IsKeyLit (.string s):=trivial
theorem SMap.put (h:SMap P K w b n f) (hK:P.underlying K=some .string) (ht:P.underlying t=some (.map K e)) (hn:n<maxLen) (s:ByteArray) (hs:s.size≤maxLen) (v:Value):
 ∃w',(Instr.mapUpdate t (.map (some b)) (.string s) v).run P w=.ok () w'∧SMap P K w' b (n+1) (fun x=>if x=s.data.toList then some v else f x)∧w.grownBy w' (some b):=by
 obtain⟨D,ho,hf⟩:=h;obtain⟨w',hr,ho',hg⟩:=ho.update (Maps.string_keyed hK) ht hn (keyOf_string_mk hK hs) (val:=v) (d:=.held v) (ps:=[]) rfl;refine⟨w',hr,⟨_,ho',fun x=>?_⟩,hg⟩;by_cases hx:x=s.data.toList
 ·subst hx;simp only[if_true];refine⟨Maps.has_put_same ho.isMap (zpP _) _,fun u hu z=>?_⟩;injection hu with hu;subst hu;exact Maps.atKey_put_same ho.isMap (zpP _) _ _
 ·have hne:(Lit.string x)≠Lit.string s.data.toList:=fun h=>hx (by injection h);simp only[if_neg hx];exact⟨(Maps.has_put_other hne _).trans (hf x).1,fun u hu z=>(Maps.atKey_put_other hne _ _).trans ((hf x).2 u hu z)⟩
theorem SMap.made (w:World) (P:Program) (K:TypeId):SMap P K (w.alloc (.map #[] 0)) w.heap.size 0 (fun _=>none):=
 ⟨_,World.ownsMap_made w P K vR,fun _=>⟨rfl,fun _ h=>by cases h⟩⟩
theorem SMap.ext (h:SMap P K w b n f) {g:BsM→Option Value} (he:∀s,f s=g s):SMap P K w b n g:=by
 rw[show g=f from funext fun s=>(he s).symm];exact h
theorem SMap.lt (h:SMap P K w b n f):b<w.heap.size:=by
 obtain⟨D,ho,-⟩:=h;exact ho.lt
theorem SMap.kept {w':World} {row:Option Nat} (h:SMap P K w b n f) (hg:w.grownBy w' row) (hne:some b≠row):SMap P K w' b n f:=by
 obtain⟨D,ho,hf⟩:=h;exact⟨D,ho.kept hg hne,hf⟩
theorem SMap.same {w':World} (h:SMap P K w b n f) (hb:w'.heap[b]? =w.heap[b]?):SMap P K w' b n f:=by
 obtain⟨D,⟨es,clock,h1,h2⟩,hf⟩:=h;exact⟨D,⟨es,clock,hb.trans h1,h2⟩,hf⟩
theorem SMap.below {w':World} {B:Nat} (h:SMap P K w b n f) (hb:Below B w w') (hB:b<B):SMap P K w' b n f:=h.same (hb.block b hB)
theorem SMap.setCell {a:Addr} (h:SMap P K w b n f) (ha:b≠a.block) (u:Value):SMap P K (w.setCell a u) b n f:=by
 obtain⟨D,ho,hf⟩:=h;exact⟨D,ho.setCell ha u,hf⟩
theorem SMap.alloc (h:SMap P K w b n f) (o:Obj):SMap P K (w.alloc o) b n f:=h.kept (World.grownBy_alloc w o none) (by simp)
theorem SMap.drew (h:SMap P K w b n f):SMap P K w.drew b n f:=h
theorem SMap.no_cells (h:SMap P K w b n f) {C:Array Value} {T:TypeId} {fr:Nat×Nat}:w.heap[b]? ≠some (.cells C T fr):=by
 obtain⟨D,⟨es,clock,h1,-⟩,-⟩:=h;rw[h1];intro h;cases h
theorem SMap.ne_row (h:SMap P K w b n f) {B T size m:Nat} {v:Value} {xs:List Value} (ho:w.ownsRow B T size v m xs):some b≠v.ownBlock:=by
 rcases ho with⟨-,⟨rfl,-⟩|⟨g,cap,cur,rfl,-,hg,-⟩⟩
 ·intro h;cases h
 ·intro e;injection e with e;subst e;exact h.no_cells hg
end
theorem ziN {ws:List Wd} {a b:List Bs} (h:ws.map (·.1)=a++b):∃u v,ws=u++v∧u.map (·.1)=a∧v.map (·.1)=b:=List.map_eq_append_iff.1 h|>.elim fun u ⟨v,h1,h2,h3⟩=>⟨u,v,h1,h2,h3⟩
theorem zh9 {V:Vals} {l:List Dc} {c:Bs} {x:Dc} (h:knL V l c=some x):cnt V x=true∧x.1=c:=by
 have:=List.find?_some h;rw[Bool.and_eq_true,decide_eq_true_iff]at this;exact this
theorem zcF {V:Vals} {x:Dc}:cnt V x=true↔V.vt x.2.1 x.2.2=true∧codeOk x.1=true:=by unfold cnt;rw[Bool.and_eq_true]
theorem zcY {id:Bs} (h:codeOk id=true):id≠ []∧(∀c∈id,isW c=false)∧id≠sEnd:=by
 unfold codeOk at h;rw[Bool.and_eq_true,Bool.and_eq_true,Bool.and_eq_true,Bool.not_eq_true',decide_eq_false_iff_not,Bool.not_eq_true',decide_eq_false_iff_not,List.all_eq_true]at h;exact⟨h.1.1.1,fun c hc=>zmz (h.1.2 c hc),h.2⟩
theorem zcx {V:Vals} {k n:Int} {v id:Bs} (h:cmdL V k n v id≠ []):V.vt k n=true∧V.vv k n v=true∧codeOk id=true:=by
 unfold cmdL at h;split at h
 ·rename_i h1
  rw[Bool.and_eq_true,Bool.and_eq_true]at h1;exact⟨h1.1.1,h1.1.2,h1.2⟩
 ·exact absurd rfl h
def zid:Int→List Rc→Int
 |last,[]=>last
 |last,r::t=>zid (if r.1=0 then r.2.1 else last) t
def offA:Bool→List Rc→Bool
 |off,[]=>off
 |off,r::t=>offA (if r.1=2∨r.1=3 then !off else off) t
theorem zsC {V:Vals} {K:Bs→Option Dc}:∀(a b:List Rc) (last:Int) (off:Bool),zsz V K last off (a++b)=(zsz V K last off a&&zsz V K (zid last a) (offA off a) b)
 | [],b,last,off=>by simp[zsz,zid,offA]
 |r::a,b,last,off=>by
  rw[List.cons_append,zsz,zsz,zid,offA];by_cases h0:r.1=0
  ·rw[if_pos h0,if_pos h0,if_pos h0,if_neg (by omega),zsC a b];simp only[Bool.and_assoc]
  rw[if_neg h0,if_neg h0,if_neg h0];by_cases h1:r.1=1
  ·rw[if_pos h1,if_pos h1,if_neg (by omega)];cases K r.2.2.1 with
   |none=>rfl
   |some x=>dsimp only;rw[zsC a b];simp only[Bool.and_assoc]
  rw[if_neg h1,if_neg h1];by_cases h2:r.1=2∨r.1=3
  ·rw[if_pos h2,if_pos h2,if_pos h2,zsC a b];simp only[Bool.and_assoc]
  rw[if_neg h2,if_neg h2,if_neg h2];by_cases h4:r.1=4
  ·rw[if_pos h4,if_pos h4,zsC a b];simp only[Bool.and_assoc]
  ·rw[if_neg h4,if_neg h4];rfl
open Go.RowKit
theorem zlx {W W':World} {B e size n:Nat} {v:Value} {xs:List Value} (h:W.ownsRow B e size v n xs) (hb:RowKit.Below W.heap.size W W'):W'.ownsRow B e size v n xs:=
 h.kept (row:=none) ⟨hb.os,hb.tape,hb.output,hb.size,fun i hi _=>hb.block i hi⟩ (by cases v.ownBlock<;>simp)
theorem zdo (w:World) (base n:Nat) (o:Bs) (v:Value) (h:w.ownsRow base 5 1 v n (bys o)) (hn:n=o.length):
 (convert 62 9 v).run Tryz.prog w=.ok (.string (bsB o)) w:=by
 subst hn;have hs:=SlR.of_own h;obtain⟨a,cap,rfl,hc,hm,hz,hcs⟩:=hs;cases o with
 |nil=>
  have h0:=run_convert_bytes_string w 62 9 5 a 0 cap Tryz.underlying62 Tryz.underlying5 Tryz.underlying9;refine h0.trans ?_;cases a<;>simp[Conv.bytesToString,loadCells]<;>rfl
 |cons c t=>
  obtain⟨b,i,rfl,hcell⟩:=hcs (by simp);exact zdn Tryz.prog w 62 9 5 b i _ (c::t) Tryz.underlying62 Tryz.underlying5 Tryz.underlying9 hcell
theorem zmO {s:ByteArray} {k:Nat} (h:k<s.size):quoL (s.data.toList.take (k+1))=quoL (s.data.toList.take k)++quoC s[k]:=by
 rw[List.take_succ_eq_append_getElem (by simpa using h)];unfold quoL;rw[List.flatMap_append];simp;rfl
theorem zmK (c:UInt8):(quoC c).length≤4:=by
 unfold quoC;split
 ·simp
 ·split<;>simp
theorem zmN:∀l:Bs,(quoL l).length≤4*l.length
 | []=>by simp[quoL]
 |c::t=>by
  have h1:=zmN t;have h2:=zmK c;have:quoL (c::t)=quoC c++quoL t:=rfl;rw[this,List.length_append,List.length_cons];omega
theorem zmI:quoC 92=[92,92]:=rfl
theorem zmM {c:UInt8} (h1:c≠92) (h2:33≤c.toNat) (h3:c.toNat≤126):quoC c=[c]:=by
 unfold quoC;rw[if_neg h1,if_neg (by omega)]
theorem zmJ {c:UInt8} (h1:c≠92) (h2:c.toNat<33∨126<c.toNat):quoC c=[92,120,hexd (c.toNat/16),hexd (c.toNat % 16)]:=by
 unfold quoC;rw[if_neg h1,if_pos h2]
theorem zgo:∀d:Fin 16,hexS.data.toList[d.val]? =some (hexd d.val):=by decide
theorem zgn (d:Nat) (hd:d<16) (h:d<hexS.size):hexS[d]'h=hexd d:=(zaW (zgo ⟨d,hd⟩)).2
theorem zaO:∀n:Fin 256,bits .and .u8 (n.val:Int) 15=((n.val % 16:Nat):Int):=by decide+kernel
theorem zaN (c:UInt8):bits .and .u8 (c.toNat:Int) 15=((c.toNat % 16:Nat):Int):=zaO ⟨c.toNat,c.toNat_lt⟩
theorem zgg {w w':World} {b:Nat} {xs:List Value} {row:Option Nat} (h:zan w b xs) (hg:w.grownBy w' row) (hb:b<w.heap.size) (hne:∀k,row=some k→b<k):zan w' b xs:=
 h.grown hg hb (fun e=>by have:=hne b e.symm;omega)
set_option linter.unusedSimpArgs false in
theorem zmP (s:ByteArray) (w:World) (hm:s.size≤100000):Calls Tryz.prog 236 #[.string s] w fun e w'=>e=.returned (.string (bsB (quoL s.data.toList)))∧Below w.heap.size w w':=by
 obtain⟨i0,hi,iz0,iz1,iz2⟩:=info_parts (P:=Tryz.prog) zro;have hcv:=run_bytes_of_string (P:=Tryz.prog) w 9 62 5 s Tryz.underlying9 Tryz.underlying62 Tryz.underlying5;have hown:=zbG w.drew s (grownCap w s.size 0 5) 5 (bytesRow s (grownCap w s.size 0 5)).size (zbH _ _);have h9:=(Below.refl w.heap.size w).drew.alloc (Nat.le_refl _) (.cells (bytesRow s (grownCap w s.size 0 5)) 5 ((bytesRow s (grownCap w s.size 0 5)).size,(bytesRow s (grownCap w s.size 0 5)).size+1));have hz9:(w.drew.alloc (.cells (bytesRow s (grownCap w s.size 0 5)) 5 ((bytesRow s (grownCap w s.size 0 5)).size,(bytesRow s (grownCap w s.size 0 5)).size+1))).heap.size=w.heap.size+1:=by simp
 generalize grownCap w s.size 0 5=cap9 at*;generalize w.drew.alloc (.cells (bytesRow s cap9) 5 ((bytesRow s cap9).size,(bytesRow s cap9).size+1))=w9 at*;have HOWN:=lhd hown;have H9:=lhd h9;have HZ9:=lhd hz9;clear hown h9 hz9;go_enter Tryz.func236,Tryz.ntmps236;go_wp2_with fail;clear hcv;go_loopw [3,9] (fun o i wr=>∃k:Nat,k≤s.size∧w.heap.size+1≤wr.heap.size∧i=.int .i64 k∧wr.ownsRow (w.heap.size+1) 5 1 o (quoL (s.data.toList.take k)).length (bys (quoL (s.data.toList.take k)))∧zan wr w.heap.size (s.data.toList.map zbE)∧Below w.heap.size w wr) (fun _ i _=>s.size-(intOf i).toNat)
 case atStart=>exact⟨0,Nat.zero_le _,by have:=HZ9.out;omega,rfl,World.ownsRow_nil _ _ _ _,HOWN.out,H9.out⟩
 case round=>
  obtain⟨k,hk,hz,rfl,ho,hr,hb⟩:=hrel;obtain⟨ao,co,rfl,-,-⟩:=(SlR.of_own ho).shape;have HO:=lhd ho;have HR:=lhd hr;have HB:=lhd hb;have HZ:=lhd hz;clear ho hr hb hz;by_cases hlt:k<s.size
  ·have hcell:wr.cell? ⟨w.heap.size,k,none⟩=some (.int .u8 s[k].toNat):=HR.out.cell (by
    rw[List.getElem?_map,List.getElem?_eq_getElem (by simpa using hlt)];rfl)
   have HQ:=lhd (zmO hlt)
   have hul:(quoL (s.data.toList.take k)).length≤400000:=by
    have:=zmN (s.data.toList.take k);rw[List.length_take]at this;omega
   generalize s[k]=c at hcell HQ;generalize quoL (s.data.toList.take k)=u at HO HQ hul⊢;have hlt2:(k:Int)<(s.size:Int):=by omega
   by_cases h92:c=92
   ·subst h92;rw[zmI]at HQ;have HQ2:=lhd HQ.out;clear HQ;have hsz2:(⟨#[92,92]⟩:ByteArray).size=2:=rfl;go_wp2_with (at_builtin;(refine Lib.wpList_append_own_string _ rfl _ _ 62 9 rfl (w.heap.size+1) 5 i0 Tryz.underlying62 Tryz.underlying9 hi iz0 iz1 iz2 _ _ _ rfl HO.out _ rfl (by unfold maxLen;omega) (by omega) HZ.out ?_))
    intro v8 w8 ho8 hg8 _
    have HO8:=lhd (show w8.ownsRow (w.heap.size+1) 5 1 v8 (quoL (s.data.toList.take (k+1))).length (bys (quoL (s.data.toList.take (k+1))))by
     rw[HQ2.out,List.length_append];have:bys (u++([92,92]:Bs))=bys u++bys ([92,92]:Bs):=by simp[bys]
     rw[this];exact ho8)
    have HR8:=lhd (zgg HR.out hg8 (by have:=HZ.out;simp;omega) (fun q hq=>by have:=(HO.out).lt q hq;omega));have HB8:=lhd ((HB.out).grown hg8 (by have:=HZ.out;simp;omega) (fun q hq=>by have:=(HO.out).lt q hq;omega));have HZ8:=lhd (show w.heap.size+1≤w8.heap.size by have:=hg8.size;have:=HZ.out;simp at*;omega);clear ho8 hg8;go_wp2_with fail;go_roundw;case rel=>exact⟨k+1,by omega,HZ8.out,by go_num,HO8.out,HR8.out,HB8.out⟩
    case measure=>simp[intOf];omega
   ·have hb3:((c.toNat:Int)==92)=false:=by
     rw[beq_eq_false_iff_ne];intro e;exact h92 (UInt8.toNat_inj.1 (by have:(92:UInt8).toNat=92:=rfl;omega))
    by_cases hp:33≤c.toNat∧c.toNat≤126
    ·have HQ2:=lhd (HQ.out.trans (congrArg (u++ ·) (zmM h92 hp.1 hp.2)));have hb1:decide ((c.toNat:Int)<33)=false:=by rw[decide_eq_false_iff_not];omega
     have hb2:decide ((126:Int)<(c.toNat:Int))=false:=by rw[decide_eq_false_iff_not];omega
     clear hp HQ;have HC:=lhd (World.news_of_block (w:=wr.alloc (.cells #[.int .u8 (c.toNat:Int)] 5)) (cs:=#[.int .u8 (c.toNat:Int)]) (t:=5) (fr:=(0,0)) (by exact heap_alloc_new _ _));have hal:=(Below.refl wr.heap.size wr).alloc (Nat.le_refl _) (.cells #[.int .u8 (c.toNat:Int)] 5);have HO3:=lhd (zlx HO.out hal);have HB3:=lhd (zfj HB.out hal);have HR3:=lhd (HR.out.alloc (by have:=HZ.out;omega) (.cells #[.int .u8 (c.toNat:Int)] 5));clear hal;go_wp2_with (at_builtin;refine wpList_append_own_at _ rfl _ _ 62 rfl (w.heap.size+1) 5 i0 (.int .u8 0) 1 1 Tryz.underlying62 hi iz0 iz1 iz2 rfl (by decide) _ _ _ rfl HO3.out ⟨wr.heap.size,0,none⟩ 1 1 [.int .u8 (c.toNat:Int)] rfl rfl HC.out (by simp[Value.oneCell']) (by unfold maxLen;omega) (by omega) (by have:=HZ.out;simp;omega) ?_)
     intro v8 w8 ho8 hg8 _ _
     have HO8:=lhd (show w8.ownsRow (w.heap.size+1) 5 1 v8 (quoL (s.data.toList.take (k+1))).length (bys (quoL (s.data.toList.take (k+1))))by
      rw[HQ2.out,List.length_append];have:bys (u++([c]:Bs))=bys u++bys ([c]:Bs):=by simp[bys]
      rw[this];exact ho8)
     have HR8:=lhd (zgg HR3.out hg8 (by have:=HZ.out;simp;omega) (fun q hq=>by have:=(HO3.out).lt q hq;omega));have HB8:=lhd ((HB3.out).grown hg8 (by have:=HZ.out;simp;omega) (fun q hq=>by have:=(HO3.out).lt q hq;omega));have HZ8:=lhd (show w.heap.size+1≤w8.heap.size by have:=hg8.size;have:=HZ.out;simp at*;omega);clear ho8 hg8;go_wp2_with fail;go_roundw;case rel=>exact⟨k+1,by omega,HZ8.out,by go_num,HO8.out,HR8.out,HB8.out⟩
     case measure=>simp[intOf];omega
    ·have hp2:c.toNat<33∨126<c.toNat:=by omega
     have HQ2:=lhd (HQ.out.trans (congrArg (u++ ·) (zmJ h92 hp2)));clear HQ hp;have hdd:c.toNat/16<16:=by have:=c.toNat_lt;omega
     have hmm:c.toNat % 16<16:=by omega
     have hi1:(c.toNat:Int)/16=((c.toNat/16:Nat):Int):=by omega
     have hi2:bits .and .u8 (c.toNat:Int) 15=((c.toNat % 16:Nat):Int):=zaN c;generalize c.toNat/16=d at hdd hi1 HQ2;generalize c.toNat % 16=m at hmm hi2 HQ2;have hdi:(d:Int)<16:=by omega
     have hmi:(m:Int)<16:=by omega
     have hx1:=zgn d hdd;have hx2:=zgn m hmm;unfold hexS at hx1 hx2;clear hdd hmm;have hal:=((Below.refl wr.heap.size wr).alloc (Nat.le_refl _) (.cells #[.int .u8 92,.int .u8 120,.int .u8 ((hexd d).toNat:Int),.int .u8 ((hexd m).toNat:Int)] 5)).drew;have hnw:=World.news_of_block (w:=(wr.alloc (.cells #[.int .u8 92,.int .u8 120,.int .u8 ((hexd d).toNat:Int),.int .u8 ((hexd m).toNat:Int)] 5)).drew) (cs:=#[.int .u8 92,.int .u8 120,.int .u8 ((hexd d).toNat:Int),.int .u8 ((hexd m).toNat:Int)]) (t:=5) (fr:=(0,0)) (by exact heap_alloc_new wr _);have HO3:=lhd (zlx HO.out hal);have HB3:=lhd (zfj HB.out hal);have HR3:=lhd (show zan (wr.alloc (.cells #[.int .u8 92,.int .u8 120,.int .u8 ((hexd d).toNat:Int),.int .u8 ((hexd m).toNat:Int)] 5)).drew w.heap.size (s.data.toList.map zbE)from HR.out.alloc (by have:=HZ.out;omega) (.cells #[.int .u8 92,.int .u8 120,.int .u8 ((hexd d).toNat:Int),.int .u8 ((hexd m).toNat:Int)] 5));have HNW:=lhd hnw;clear hal hnw;rcases hp2 with hp2|hp2
     ·have hb1:decide ((c.toNat:Int)<33)=true:=by rw[decide_eq_true_iff];omega
      go_upto_region 9 with fail;clear hcell;go_region_law (refine step_append_lies _ (by rfl) _ _ _ (by rfl) (w.heap.size+1) 5 i0 (.int .u8 0) 1 1 Tryz.underlying62 hi iz0 iz1 iz2 rfl (by decide) (.slice ao u.length co) u.length (bys u) (by rfl) HO3.out ⟨wr.heap.size,0,none⟩ 4 4 [.int .u8 92,.int .u8 120,.int .u8 ((hexd d).toNat:Int),.int .u8 ((hexd m).toNat:Int)] (by rfl) (by rfl) HNW.out (by simp[Value.oneCell']) (by omega) (by unfold maxLen;omega) (by omega) (by have:=HZ.out;simp;omega) (wr.heap.size+1) (by simp) ?_;intro gg cap10 w8 ho8 hg8 hat hlt10)
      all_goals
       clear hat hlt10;generalize (.slice (some ⟨gg,0,none⟩) (u.length+4) cap10:Value)=v8 at ho8⊢
       have HO8:=lhd (show w8.ownsRow (w.heap.size+1) 5 1 v8 (quoL (s.data.toList.take (k+1))).length (bys (quoL (s.data.toList.take (k+1))))by
        rw[HQ2.out,List.length_append];have:bys (u++([92,120,hexd d,hexd m]:Bs))=bys u++bys ([92,120,hexd d,hexd m]:Bs):=by simp[bys]
        rw[this];exact ho8)
       have HR8:=lhd (zgg HR3.out hg8 (by have:=HZ.out;simp;omega) (fun q hq=>by have:=(HO3.out).lt q hq;omega));have HB8:=lhd ((HB3.out).grown hg8 (by have:=HZ.out;simp;omega) (fun q hq=>by have:=(HO3.out).lt q hq;omega));have HZ8:=lhd (show w.heap.size+1≤w8.heap.size by have:=hg8.size;have:=HZ.out;simp at*;omega);clear ho8 hg8;go_wp2_with fail;go_roundw;case rel=>exact⟨k+1,by omega,HZ8.out,by go_num,HO8.out,HR8.out,HB8.out⟩
       case measure=>simp[intOf];omega
     ·have hb1:decide ((c.toNat:Int)<33)=false:=by rw[decide_eq_false_iff_not];omega
      have hb2:decide ((126:Int)<(c.toNat:Int))=true:=by rw[decide_eq_true_iff];omega
      go_upto_region 9 with fail;clear hcell;go_region_law (refine step_append_lies _ (by rfl) _ _ _ (by rfl) (w.heap.size+1) 5 i0 (.int .u8 0) 1 1 Tryz.underlying62 hi iz0 iz1 iz2 rfl (by decide) (.slice ao u.length co) u.length (bys u) (by rfl) HO3.out ⟨wr.heap.size,0,none⟩ 4 4 [.int .u8 92,.int .u8 120,.int .u8 ((hexd d).toNat:Int),.int .u8 ((hexd m).toNat:Int)] (by rfl) (by rfl) HNW.out (by simp[Value.oneCell']) (by omega) (by unfold maxLen;omega) (by omega) (by have:=HZ.out;simp;omega) (wr.heap.size+1) (by simp) ?_;intro gg cap10 w8 ho8 hg8 hat hlt10)
      all_goals
       clear hat hlt10;generalize (.slice (some ⟨gg,0,none⟩) (u.length+4) cap10:Value)=v8 at ho8⊢
       have HO8:=lhd (show w8.ownsRow (w.heap.size+1) 5 1 v8 (quoL (s.data.toList.take (k+1))).length (bys (quoL (s.data.toList.take (k+1))))by
        rw[HQ2.out,List.length_append];have:bys (u++([92,120,hexd d,hexd m]:Bs))=bys u++bys ([92,120,hexd d,hexd m]:Bs):=by simp[bys]
        rw[this];exact ho8)
       have HR8:=lhd (zgg HR3.out hg8 (by have:=HZ.out;simp;omega) (fun q hq=>by have:=(HO3.out).lt q hq;omega));have HB8:=lhd ((HB3.out).grown hg8 (by have:=HZ.out;simp;omega) (fun q hq=>by have:=(HO3.out).lt q hq;omega));have HZ8:=lhd (show w.heap.size+1≤w8.heap.size by have:=hg8.size;have:=HZ.out;simp at*;omega);clear ho8 hg8;go_wp2_with fail;go_roundw;case rel=>exact⟨k+1,by omega,HZ8.out,by go_num,HO8.out,HR8.out,HB8.out⟩
       case measure=>simp[intOf];omega
  ·obtain rfl:k=s.size:=by omega
   have hlt2:¬(s.size:Int)<(s.size:Int):=by omega
   have HQ:=lhd (show s.data.toList.take s.size=s.data.toList from List.take_of_length_le (by simp));have hcv:=zdo _ _ _ _ _ HO.out rfl;go_wp2_with fail;refine bodyPost_ret (v:=.string (bsB (quoL (s.data.toList.take s.size)))) (by simp[results,Tryz.results236,go_sem]) rfl ?_;rw[HQ.out];exact⟨rfl,HB.out⟩
theorem zkW {l n:Nat} {P:Program} {o:Oper} {a:Act} {w:World} {K K':Act→World→Prop} {Q:Exit→Act→World→Prop} (hd:∀c,o.op≠ .defer c) (h:o.wp P a w K Q) (hK:∀a w,K a w→K' a w):o.wpIn (Fence.wide.inRound l) n P a w K' Q:=by
 unfold Oper.wp at h;unfold Oper.wpIn;refine⟨fun _ _=>trivial,?_⟩;rw[show(Fence.wide.inRound l).round=some l from rfl,Oper.semAt_eq _ _ o hd];generalize (execOp a.eval o).run P w=r at h;cases r with
 |ok x w'=>
  cases x with
  |value v=>exact hK _ _ h
  |skip=>exact hK _ _ h
  |defer d=>exact hK _ _ h
  |enter f args=>
   refine⟨(fun h0=>by cases h0),(CallsIn.inRound l (callsIn_wide.2 h)).mono fun e w'' he=>?_⟩;cases e with
   |returned v=>exact hK _ _ he
   |panicked c=>exact he
   |outgrown=>exact he
  |row r args=>
   refine⟨(fun h0=>by cases h0),fun c cs _=>?_⟩;obtain⟨v,w2,hv,hs⟩:=h c cs;exact⟨v,w2,hK _ _ hv,stepsIn_wide.2 hs⟩
  |_=>exact h.elim
 |halt x w'=>
  cases x<;>exact h
theorem zjF {ops:Array Oper} (h:ops.all (fun o=>match o.op with| .defer _=>false|_=>true)=true):∀(i:Nat) (o:Oper),ops[i]? =some o→∀c,o.op≠ .defer c:=by
 intro i o ho c hc;rw[Array.all_eq_true]at h;obtain⟨hi,e⟩:=Array.getElem?_eq_some_iff.1 ho;have:=h i hi;rw[e]at this;simp[hc]at this
theorem zaP {l n:Nat} {P:Program} {md:Region.Mode} {ops:Array Oper} {Q:Exit→Act→World→Prop} (hd:∀(i:Nat) (o:Oper),ops[i]? =some o→∀c,o.op≠ .defer c) (hl:¬LetsOut Q):
 ∀(fuel:Nat) (listed:Array Bool) (a:Act) (w:World),wpAny P md ops Q fuel listed a w→wpAnyIn (Fence.wide.inRound l) n P md ops Q fuel listed a w
 |0,_,_,_,h=>h
 |fuel+1,listed,a,w,h=>by
  refine⟨h.1,fun i hi=>?_⟩;have h2:=h.2 i hi;unfold wpOp at h2;unfold wpOpIn;cases ho:ops[i]? with
  |none=>
   rw[ho]at h2;exact zaP hd hl fuel _ _ _ h2
  |some o=>
   rw[ho]at h2;simp only at h2⊢;split
   ·rename_i hw
    rw[if_pos hw]at h2;rcases h2 with h2|⟨-,h2⟩
    ·exact zkW (hd i o ho) h2 fun a w h=>zaP hd hl fuel _ _ _ h
    ·exact absurd h2 hl
   ·rename_i hw
    rw[if_neg hw]at h2;exact⟨fun _ _=>trivial,zaP hd hl fuel _ _ _ h2⟩
open Go.RowKit Go.Shelf
attribute [local go_sem] Oper.semAt_some
set_option linter.unusedSimpArgs false
structure TurnI (B:Nat) (T:TypeId) (W V:World):Prop where
 os:V.os=W.os
 tape:V.tape=W.tape
 output:V.output=W.output
 size:W.heap.size≤V.heap.size
 low:∀b,b<B→V.heap[b]? =W.heap[b]?
 cells:∀(b:Nat) (C:Array Value) (T':TypeId) (fr:Nat×Nat),T'≠T→W.heap[b]? =some (.cells C T' fr)→V.heap[b]? =some (.cells C T' fr)
structure TurnJ (B:Nat) (T:TypeId) (W V:World):Prop where
 i:TurnI B T W V
 others:∀(b:Nat) (o:Obj),o.isCells=false→W.heap[b]? =some o→V.heap[b]? =some o
structure Same0 (W V:World):Prop where
 size:W.heap.size≤V.heap.size
 cells:∀(b:Nat) (C:Array Value) (T:TypeId) (fr:Nat×Nat),W.heap[b]? =some (.cells C T fr)→V.heap[b]? =some (.cells C T fr)
theorem TurnJ.drew (B:Nat) (T:TypeId) (W:World) (n:Nat):TurnJ B T W (W.drewN n):=⟨⟨rfl,rfl,rfl,Nat.le_refl _,fun _ _=>rfl,fun _ _ _ _ _ h=>h⟩,fun _ _ _ h=>h⟩
theorem TurnJ.below {B:Nat} {T:TypeId} {W V:World} (hB:B≤W.heap.size) (h:Below W.heap.size W V):TurnJ B T W V:=
 ⟨⟨h.os,h.tape,h.output,h.size,fun b hb=>h.block b (by omega),fun b C T' fr _ hb=>by rw[h.block b (Array.getElem?_eq_some_iff.1 hb).1];exact hb⟩,fun b o _ hb=>by rw[h.block b (Array.getElem?_eq_some_iff.1 hb).1];exact hb⟩
theorem TurnJ.trans {B:Nat} {T:TypeId} {X Y Z:World} (h:TurnJ B T X Y) (k:TurnJ B T Y Z):TurnJ B T X Z:=
 ⟨⟨k.i.os.trans h.i.os,k.i.tape.trans h.i.tape,k.i.output.trans h.i.output,Nat.le_trans h.i.size k.i.size,fun b hb=>(k.i.low b hb).trans (h.i.low b hb),fun b C T' fr hT hb=>k.i.cells b C T' fr hT (h.i.cells b C T' fr hT hb)⟩,fun b o ho hb=>k.others b o ho (h.others b o ho hb)⟩
theorem TurnJ.setCell {B:Nat} {T:TypeId} {W:World} {b:Nat} {C:Array Value} {fr:Nat×Nat} (hb:W.heap[b]? =some (.cells C T fr)) (hB:B≤b) (j:Nat) (u:Value):TurnJ B T W (W.setCell ⟨b,j,none⟩ u):=by
 refine⟨⟨rfl,rfl,rfl,by simp,fun i hi=>Below.heap_setCell _ _ _ _ (by show i≠b;omega),fun i C' T' fr' hT hi=>?_⟩,fun i o ho hi=>?_⟩
 ·have hne:i≠b:=by
   rintro rfl;rw[hb]at hi;injection hi with hi;injection hi with _ hi _;exact hT hi.symm
  rw[Below.heap_setCell _ _ _ _ hne];exact hi
 ·have hne:i≠b:=by
   rintro rfl;rw[hb]at hi;injection hi with hi;subst hi;cases ho
  rw[Below.heap_setCell _ _ _ _ hne];exact hi
theorem TurnI.putObj {B:Nat} {T:TypeId} {W:World} {l:Nat} {o:Obj} (hl:W.heap[l]? =some o) (ho:o.isCells=false) (hB:B≤l) (o':Obj):TurnI B T W (W.putObj l o'):=by
 have hlt:=(Array.getElem?_eq_some_iff.1 hl).1;have hg:=grownBy_putObj' W l o';refine⟨hg.os,hg.tape,hg.output,hg.size,fun b hb=>World.putObj_heap_other (by omega),fun b C T' fr _ hb=>?_⟩
 have hne:b≠l:=by
  rintro rfl;rw[hl]at hb;injection hb with hb;subst hb;cases ho
 rw[World.putObj_heap_other hne];exact hb
theorem Same0.putObj {W:World} {l:Nat} {o:Obj} (hl:W.heap[l]? =some o) (ho:o.isCells=false) (o':Obj):Same0 W (W.putObj l o'):=by
 refine⟨(grownBy_putObj' W l o').size,fun b C T' fr hb=>?_⟩
 have hne:b≠l:=by
  rintro rfl;rw[hl]at hb;injection hb with hb;subst hb;cases ho
 rw[World.putObj_heap_other hne];exact hb
theorem zmR {F:Fence} {n:Nat} {P:Program} {g:Operand} {ps:Array Tmp} {assign body:Code} {Q:Exit→Act→World→Prop} {a:Act} {w:World}
 (hro:F.round=none) (h1:1≤n) {gf:Nat} {lb:Array Value} (hg:a.eval g=.func (.func gf) #[] lb) (hFg:F.fn gf) (eg:∀args w,(callFunc gf args).run P w=.ok (.enter gf args) w)
 {encs:Nat→Array Value} {Kp:World→World→Prop} {N:Nat} {T:TypeId} {B0:Nat} (hB0:B0≤w.heap.size)
 (hiter:∀(l:Nat) (J:Nat→World→Prop) (W:World),Below w.heap.size w W→(∀k X Y,J k X→TurnJ B0 T X Y→J k Y)→
   (∀k W1,J k W1→k<N→YieldAt F (n-1-1) P l (encs k) W1 fun e W'=>e=.returned (.bool true)∧J (k+1) W'∧Kp W1 W')→J 0 W→
   CallsIn F (n-1) P gf (#[.func (.yield l) #[] #[]]++lb) W fun e W'=>(∃v,e=.returned v)∧J N W')
 (hKt:∀{A B C:World},Kp A B→Kp B C→Kp A C) (hK0:∀W V,Same0 W V→Kp W V) (hps:∀k,(encs k).size=ps.size)
 (I:Nat→World→Prop) (hI:∀k W V,I k W→TurnI B0 T W V→I k V) (h0:I 0 w)
 (hround:∀(l k:Nat) (W:World),w.heap.size≤l→I k W→k<N→
   assign.wpIn (F.inRound l) (n-1-1) P (Exit.then (fun a1 W1=>KeepsFrom w.heap.size W W1∧Kp W W1∧∀W2,Same0 W1 W2→TurnI B0 T W1 W2→body.wpIn (F.inRound l) (n-1-1) P (fun e _ W3=>e=.normal∧KeepsFrom w.heap.size W2 W3∧Kp W2 W3∧I (k+1) W3) a1 W2) (fun _ _ _=>False))
    {tmps:=(ps.zip (encs k)).foldl (fun t (p,v)=>t.setIfInBounds p v) a.tmps,defers:=[]} W)
 (hdone:∀(D:Nat) (W:World),w.heap.size≤D→I N W→W.heap[D]? =some (.deferred (some []))→Q .normal {a with defers:={target:=.collected D,args:=#[]}::a.defers} W):
 (Code.rangeFunc g ps assign body).wpIn F n P Q a w:=by
 refine wpIn_rangeFunc fun fn hfn=>?_;rw[hro];let rec':LoopState→Option Code→Loop:=fun st pe=>{state:=st,pending:=pe,fn,tmps:=a.tmps,params:=ps,assign,body,defers:=w.heap.size}
 let D:=w.heap.size
 let l:=w.heap.size+1
 let X1:World:=(w.alloc (.deferred (some []))).alloc (.loop (rec' .ready none))
 have hz1:(w.alloc (.deferred (some []))).heap.size=w.heap.size+1:=World.size_alloc _ _
 have hL1:((w.alloc (.deferred (some []))).alloc (.loop (rec' .ready none))).heap[l]? =some (.loop (rec' .ready none)):=by
  have:=World.alloc_heap_new (w.alloc (.deferred (some []))) (.loop (rec' .ready none));rwa [hz1]at this
 have hD1:((w.alloc (.deferred (some []))).alloc (.loop (rec' .ready none))).heap[D]? =some (.deferred (some [])):=(Below.heap_alloc _ _ _ (by rw[hz1];exact Nat.lt_succ_self _)).trans (World.alloc_heap_new w _);have hB1:Below w.heap.size w ((w.alloc (.deferred (some []))).alloc (.loop (rec' .ready none))):=(((Below.refl _ w).alloc (Nat.le_refl _) _).alloc (by simp) _);have hI1:I 0 ((w.alloc (.deferred (some []))).alloc (.loop (rec' .ready none))):=hI 0 _ _ h0 (TurnJ.below hB0 hB1).i;refine⟨l,[{target:=.collected D,args:=#[]}],X1,{target:=.fn (.func gf) lb,args:=#[.func (.yield l) #[] #[]]},X1,gf,#[.func (.yield l) #[] #[]]++lb,X1,run_enterLoop_outer _ _ _ _ _,?_,?_,?_,fun _=>h1,?_⟩
 ·simp only[resolve,hg];simp[go_sem]
 ·intro f' hf';simp[Target.leads]at hf';subst hf';exact hFg
 ·simp[invoke,go_sem,eg]
 refine(hiter l (fun k W=>I k W∧W.heap[l]? =some (.loop (rec' .ready none))∧W.heap[D]? =some (.deferred (some []))) _ hB1
  (fun k X Y h t=>⟨hI k X Y h.1 t.i,t.others _ _ rfl h.2.1,t.others _ _ rfl h.2.2⟩) ?_ ⟨hI1,hL1,hD1⟩).mono ?_
 ·rintro k W ⟨hi,hl,hd⟩ hk;refine⟨fn,_,assign,body,run_yield (P:=P) (args:=encs k) hl (hps k),roundIn_of_wpIn hfn (wpIn_mono (hround l k W (Nat.le_succ _) hi hk) ?_)⟩;rintro e a1 W1 hp;cases e with
  |normal=>
   obtain⟨k1,p1,hbody⟩:=hp;have hl1:=k1.same _ _ (Nat.le_succ _) hl rfl;have hd1:=k1.same _ _ (Nat.le_refl _) hd rfl;have s12:=Same0.putObj hl1 rfl (.loop {rec' .ready none with state:=.busy});have hl2:(W1.putObj l (.loop {rec' .ready none with state:=.busy})).heap[l]? =some (.loop {rec' .ready none with state:=.busy}):=World.putObj_heap_same (Array.getElem?_eq_some_iff.1 hl1).1;have hd2:(W1.putObj l (.loop {rec' .ready none with state:=.busy})).heap[D]? =some (.deferred (some [])):=(World.putObj_heap_other (Nat.ne_of_lt (Nat.lt_succ_self _))).trans hd1;refine⟨_,run_beginRound hl1 rfl,wpIn_mono (hbody _ s12 (TurnI.putObj hl1 rfl (Nat.le_trans hB0 (Nat.le_succ _)) _)) ?_⟩;rintro e3 a3 W3 ⟨rfl,k3,p3,i3⟩;have hl3:=k3.same _ _ (Nat.le_succ _) hl2 rfl;have hd3:=k3.same _ _ (Nat.le_refl _) hd2 rfl
   exact⟨_,_,run_endRound (P:=P) none hl3,rfl,⟨hI _ _ _ i3 (TurnI.putObj hl3 rfl (Nat.le_trans hB0 (Nat.le_succ _)) _),World.putObj_heap_same (Array.getElem?_eq_some_iff.1 hl3).1,(World.putObj_heap_other (Nat.ne_of_lt (Nat.lt_succ_self _))).trans hd3⟩,
    hKt p1 (hKt (hK0 _ _ s12) (hKt p3 (hK0 _ _ (Same0.putObj hl3 rfl _))))⟩
  |ret=>exact hp.elim
  |exit id=>exact hp.elim
  |goto t=>exact hp.elim
  |panic ch=>exact hp.elim
  |outgrown=>exact hp.elim
 ·rintro e W2 ⟨⟨v,rfl⟩,hi,hl,hd⟩;exact⟨none,_,run_endLoop (P:=P) hl (by simp[rec']),hdone D _ (Nat.le_refl _) (hI _ _ _ hi (TurnI.putObj hl rfl (Nat.le_trans hB0 (Nat.le_succ _)) _)) ((World.putObj_heap_other (Nat.ne_of_lt (Nat.lt_succ_self _))).trans hd)⟩
theorem zmW {F:Fence} {n:Nat} {P:Program} {g:Operand} {ps:Array Tmp} {assign body:Code} {Q:Exit→Act→World→Prop} {a:Act} {w:World}
 (hro:F.round=none) (h1:1≤n) {gf:Nat} {lb:Array Value} (hg:a.eval g=.func (.func gf) #[] lb) (hFg:F.fn gf) (eg:∀args w,(callFunc gf args).run P w=.ok (.enter gf args) w)
 {encs:Nat→Array Value} {Kp:World→World→Prop} {N:Nat} {T:TypeId}
 (hiter:∀(l:Nat) (J:Nat→World→Prop) (W:World),Below w.heap.size w W→(∀k X Y,J k X→TurnJ w.heap.size T X Y→J k Y)→
   (∀k W1,J k W1→k<N→YieldAt F (n-1-1) P l (encs k) W1 fun e W'=>e=.returned (.bool true)∧J (k+1) W'∧Kp W1 W')→J 0 W→
   CallsIn F (n-1) P gf (#[.func (.yield l) #[] #[]]++lb) W fun e W'=>(∃v,e=.returned v)∧J N W')
 (hKt:∀{A B C:World},Kp A B→Kp B C→Kp A C) (hK0:∀W V,Same0 W V→Kp W V) (hps:∀k,(encs k).size=ps.size)
 (I:Nat→World→Prop) (hI:∀k W V,I k W→TurnI w.heap.size T W V→I k V) (h0:I 0 w)
 (hround:∀(l k:Nat) (W:World),w.heap.size≤l→I k W→k<N→
   assign.wpIn (F.inRound l) (n-1-1) P (Exit.then (fun a1 W1=>KeepsFrom w.heap.size W W1∧Kp W W1∧∀W2,Same0 W1 W2→TurnI w.heap.size T W1 W2→body.wpIn (F.inRound l) (n-1-1) P (fun e _ W3=>e=.normal∧KeepsFrom w.heap.size W2 W3∧Kp W2 W3∧I (k+1) W3) a1 W2) (fun _ _ _=>False))
    {tmps:=(ps.zip (encs k)).foldl (fun t (p,v)=>t.setIfInBounds p v) a.tmps,defers:=[]} W)
 (hdone:∀(D:Nat) (W:World),w.heap.size≤D→I N W→W.heap[D]? =some (.deferred (some []))→Q .normal {a with defers:={target:=.collected D,args:=#[]}::a.defers} W):
 (Code.rangeFunc g ps assign body).wpIn F n P Q a w:=
 zmR (hB0:=Nat.le_refl _) hro h1 hg hFg eg hiter hKt hK0 hps I hI h0 hround hdone
section
variable {α : Type} (k : α → Int)
def Srt (l:List α):Prop:=l.Pairwise fun x y=>k x≤k y
def ins (a:α):List α→List α
 | []=> [a]
 |x::l=>if k x<k a then x::ins a l else a::x::l
def zhk:List α→List α
 | []=> []
 |a::l=>ins k a (zhk l)
def mrg (A B:List α):List α:=A.foldr (ins k) B
variable {k}
theorem zg9 {a:α}:∀{l:List α} {x:α},x∈ins k a l↔x=a∨x∈l
 | [],x=>by simp[ins]
 |y::l,x=>by
  unfold ins;split
  ·rw[List.mem_cons,zg9,List.mem_cons];constructor
   ·rintro(h|h|h)
    ·exact .inr (.inl h)
    ·exact .inl h
    ·exact .inr (.inr h)
   ·rintro(h|h|h)
    ·exact .inr (.inl h)
    ·exact .inl h
    ·exact .inr (.inr h)
  ·exact List.mem_cons
theorem zg8 (a:α):∀l:List α,(ins k a l).length=l.length+1
 | []=>rfl
 |x::l=>by
  unfold ins;split
  ·rw[List.length_cons,zg8 a l,List.length_cons]
  ·rfl
theorem zhc {a:α}:∀{l:List α},Srt k l→Srt k (ins k a l)
 | [],_=>List.pairwise_singleton _ _
 |x::l,h=>by
  have h':=List.pairwise_cons.1 h;unfold ins;split
  ·rename_i hx
   refine List.pairwise_cons.2 ⟨fun y hy=>?_,zhc h'.2⟩;rcases zg9.1 hy with rfl|hy
   ·omega
   ·exact h'.1 y hy
  ·rename_i hx
   refine List.pairwise_cons.2 ⟨fun y hy=>?_,h⟩;rcases List.mem_cons.1 hy with rfl|hy
   ·omega
   ·have:=h'.1 y hy;omega
theorem zi8 (B:List α):mrg k [] B=B:=rfl
theorem zi1 (a:α) (A B:List α):mrg k (a::A) B=ins k a (mrg k A B):=rfl
theorem zi0 (A A' B:List α):mrg k (A++A') B=mrg k A (mrg k A' B):=by simp[mrg]
theorem zi7 {B:List α} {x:α}:∀{A:List α},x∈mrg k A B↔x∈A∨x∈B
 | []=>by simp[zi8]
 |a::A=>by rw[zi1,zg9,zi7,List.mem_cons,or_assoc]
theorem zi6 (B:List α):∀A:List α,(mrg k A B).length=A.length+B.length
 | []=>by simp[zi8]
 |a::A=>by rw[zi1,zg8,zi6 B A,List.length_cons];omega
theorem zjd {B:List α} (h:Srt k B):∀A:List α,Srt k (mrg k A B)
 | []=>h
 |_::A=>zhc (zjd h A)
theorem zhs:∀l:List α,Srt k (zhk k l)
 | []=>List.Pairwise.nil
 |_::l=>zhc (zhs l)
theorem zhn:∀l:List α,(zhk k l).length=l.length
 | []=>rfl
 |a::l=>by unfold zhk;rw[zg8,zhn l,List.length_cons]
theorem zho {x:α}:∀{l:List α},x∈zhk k l↔x∈l
 | []=>Iff.rfl
 |a::l=>by unfold zhk;rw[zg9,zho,List.mem_cons]
theorem zhb (a:α):∀l:List α,(ins k a l).Perm (a::l)
 | []=>List.Perm.refl _
 |x::l=>by
  unfold ins;split
  ·exact((zhb a l).cons x).trans (List.Perm.swap a x l)
  ·exact List.Perm.refl _
theorem zhq:∀l:List α,(zhk k l).Perm l
 | []=>List.Perm.refl _
 |a::l=>(zhb a _).trans ((zhq l).cons a)
theorem zg4 {x:α} {D:List α} (h:∀y∈D,k x≤k y):ins k x D=x::D:=by
 cases D with
 |nil=>rfl
 |cons y D=>unfold ins;rw[if_neg (by have:=h y (by simp);omega)]
theorem zha {x:α} {D:List α}:∀{B:List α},(∀y∈B,k y<k x)→ins k x (B++D)=B++ins k x D
 | [],_=>rfl
 |b::B,h=>by
  rw[List.cons_append];show(if k b<k x then b::ins k x (B++D)else x::b::(B++D))=_;rw[if_pos (h b (by simp)),zha fun y hy=>h y (by simp[hy])];rfl
theorem zg6 {x:α} {D:List α} (h:∀y∈D,k x≤k y):∀(E:List α),ins k x (E++D)=ins k x E++D
 | []=>by rw[List.nil_append,zg4 h];rfl
 |e::E=>by
  rw[List.cons_append];show(if k e<k x then e::ins k x (E++D)else x::e::(E++D))=(if k e<k x then e::ins k x E else x::e::E)++D;split
  ·rw[zg6 h E];rfl
  ·rfl
theorem zg3 {a x:α} (h:k x<k a):∀{C:List α},Srt k C→ins k a (ins k x C)=ins k x (ins k a C)
 | [],_=>by
   show(if k x<k a then x::ins k a []else _)=(if k a<k x then _ else _);rw[if_pos h,if_neg (by omega)];rfl
 |c::C,hs=>by
  have h':=List.pairwise_cons.1 hs;show ins k a (if k c<k x then c::ins k x C else x::c::C)=ins k x (if k c<k a then c::ins k a C else a::c::C);by_cases h1:k c<k x
  ·rw[if_pos h1,if_pos (by omega)];show(if k c<k a then c::ins k a (ins k x C)else _)=(if k c<k x then c::ins k x (ins k a C)else _);rw[if_pos (by omega),if_pos h1,zg3 h h'.2]
  ·rw[if_neg h1];by_cases h2:k c<k a
   ·rw[if_pos h2];show(if k x<k a then x::(if k c<k a then c::ins k a C else _)else _)=(if k c<k x then _ else x::c::ins k a C);rw[if_pos h,if_pos h2,if_neg h1]
   ·rw[if_neg h2];show(if k x<k a then x::(if k c<k a then _ else a::c::C)else _)=(if k a<k x then _ else x::a::c::C);rw[if_pos h,if_neg h2,if_neg (by omega)]
theorem zi3 {a:α} {C:List α} (hC:Srt k C):∀{A:List α},Srt k A→mrg k (ins k a A) C=ins k a (mrg k A C)
 | [],_=>rfl
 |x::A,h=>by
  have h':=List.pairwise_cons.1 h;show mrg k (if k x<k a then x::ins k a A else a::x::A) C=_;split
  ·rename_i hx
   rw[zi1,zi3 hC h'.2,zi1,zg3 hx (zjd hC A)]
  ·rfl
theorem zi4 {C:List α} (hC:Srt k C):∀A:List α,mrg k (zhk k A) C=mrg k A C
 | []=>rfl
 |a::A=>by
  show mrg k (ins k a (zhk k A)) C=_;rw[zi3 hC (zhs A),zi4 hC A,zi1]
theorem zhl (A B:List α):zhk k (A++B)=mrg k (zhk k A) (zhk k B):=by
 rw[zi4 (zhs B)];induction A with
 |nil=>rfl
 |cons a A ih=>rw[List.cons_append];show ins k a (zhk k (A++B))=_;rw[ih,zi1]
theorem zjc {A1 A2 B1 B2:List α} (hA:Srt k (A1++A2)) (h1:∀x∈A1,∀y∈B2,k x≤k y) (h2:∀y∈B1,∀x∈A2,k y<k x):mrg k (A1++A2) (B1++B2)=mrg k A1 B1++mrg k A2 B2:=by
 have e1:∀A:List α,(∀y∈B1,∀x∈A,k y<k x)→mrg k A (B1++B2)=B1++mrg k A B2:=by
  intro A;induction A with
  |nil=>intro _;rfl
  |cons a A ih=>
   intro h;rw[zi1,ih (fun y hy x hx=>h y hy x (by simp[hx])),zha (fun y hy=>h y hy a (by simp)),zi1]
 have e2:∀(D:List α) (A:List α),(∀x∈A,∀y∈D,k x≤k y)→mrg k A (B1++D)=mrg k A B1++D:=by
  intro D A;induction A with
  |nil=>intro _;rfl
  |cons a A ih=>
   intro h;rw[zi1,ih (fun x hx y hy=>h x (by simp[hx]) y hy),zg6 (fun y hy=>h a (by simp) y hy),zi1]
 rw[zi0,e1 A2 h2,e2 _ A1 (fun x hx y hy=>by
  rcases zi7.1 hy with hy|hy
  ·exact(List.pairwise_append.1 hA).2.2 x hx y hy
  ·exact h1 x hx y hy)]
theorem zi9 {A:List α} (h:Srt k A):mrg k A []=A:=by
 induction A with
 |nil=>rfl
 |cons a A ih=>
  have h':=List.pairwise_cons.1 h;rw[zi1,ih h'.2,zg4 h'.1]
theorem zi5 {A B:List α} (hA:Srt k A) (h:∀x∈A,∀y∈B,k x≤k y):mrg k A B=A++B:=by
 have:=zjc (A1:=A) (A2:=[]) (B1:=[]) (B2:=B) (by rw[List.append_nil];exact hA) h (fun y hy=>by cases hy);rw[List.append_nil,List.nil_append,zi9 hA,zi8]at this;exact this
theorem zja {x:α} {B1 B2:List α} (h1:∀y∈B1,k y<k x) (h2:∀y∈B2,k x≤k y):mrg k [x] (B1++B2)=B1++x::B2:=by
 rw[zi1,zi8,zha h1,zg4 h2]
theorem zjb {y:α} {A1 A2:List α} (hA:Srt k (A1++A2)) (h1:∀x∈A1,k x≤k y) (h2:∀x∈A2,k y<k x):mrg k (A1++A2) [y]=A1++y::A2:=by
 have hp:=List.pairwise_append.1 hA;have:=zjc (B1:=[y]) (B2:=[]) hA (fun x hx z hz=>by cases hz) (fun z hz x hx=>by rw[List.mem_singleton]at hz;subst hz;exact h2 x hx);rw[List.append_nil]at this;rw[this,zi5 hp.1 (fun x hx z hz=>by rw[List.mem_singleton]at hz;subst hz;exact h1 x hx),zi9 hp.2.1];simp
theorem zhr (A:List α) (y:α):zhk k (A++ [y])=mrg k (zhk k A) [y]:=zhl A [y]
theorem zhm {l:List α} (h:Srt k l):zhk k l=l:=by
 induction l with
 |nil=>rfl
 |cons a l ih=>
  have h':=List.pairwise_cons.1 h;show ins k a (zhk k l)=_;rw[ih h'.2,zg4 h'.1]
variable (k) in
end
section
variable {par : Nat → Int} {n : Nat}
def pre (par:Nat→Int) (n:Nat):Nat→Int→List Nat
 |0,_=> []
 |f+1,p=>(List.range n).flatMap fun i=>if par i=p then i::pre par n f i else []
def Fst (par:Nat→Int) (n:Nat):Prop:=∀i,i<n→ -1≤par i∧par i<(i:Int)
theorem zmv (f:Nat) (p:Int):pre par n (f+1) p=(List.range n).flatMap fun i=>if par i=p then i::pre par n f i else []:=rfl
theorem zmq {f:Nat} {p:Int} {x:Nat}:x∈pre par n (f+1) p↔ ∃i,i<n∧par i=p∧(x=i∨x∈pre par n f i):=by
 rw[zmv,List.mem_flatMap];constructor
 ·rintro⟨i,hi,hx⟩;split at hx
  ·rename_i hp
   exact⟨i,List.mem_range.1 hi,hp,List.mem_cons.1 hx⟩
  ·cases hx
 ·rintro⟨i,hi,hp,hx⟩;exact⟨i,List.mem_range.2 hi,by rw[if_pos hp];exact List.mem_cons.2 hx⟩
theorem zmp (hF:Fst par n):∀(f:Nat) (p:Int) (x:Nat),x∈pre par n f p→x<n∧p≤par x∧p<(x:Int)∧(par x=p∨∃y,y∈pre par n f p∧par x=(y:Int))
 |0,_,_,h=>by cases h
 |f+1,p,x,h=>by
  obtain⟨i,hi,hp,hx⟩:=zmq.1 h;have h1:=hF i hi;rcases hx with rfl|hx
  ·exact⟨hi,by omega,by omega,.inl hp⟩
  ·obtain⟨a,b,c,d⟩:=zmp hF f i x hx;refine⟨a,by omega,by omega,.inr ?_⟩;rcases d with d|⟨y,hy,d⟩
   ·exact⟨i,zmq.2 ⟨i,hi,hp,.inl rfl⟩,d⟩
   ·exact⟨y,zmq.2 ⟨i,hi,hp,.inr hy⟩,d⟩
theorem zmm (hF:Fst par n):∀(f:Nat) (p:Int) (x y:Nat),(n:Int)<(f:Int)+p+1→y∈pre par n f p→x<n→par x=(y:Int)→x∈pre par n f p
 |0,_,_,_,_,h,_,_=>by cases h
 |f+1,p,x,y,hf,h,hx,hp=>by
  obtain⟨i,hi,hpi,hy⟩:=zmq.1 h;have h1:=hF i hi;have h2:=hF x hx;rcases hy with rfl|hy
  ·cases f with
   |zero=>omega
   |succ f=>exact zmq.2 ⟨y,hi,hpi,.inr (zmq.2 ⟨x,hx,hp,.inl rfl⟩)⟩
  ·exact zmq.2 ⟨i,hi,hpi,.inr (zmm hF f i x y (by omega) hy hx hp)⟩
theorem zmj (hF:Fst par n):∀(x:Nat),x<n→x∈pre par n (n+1) (-1):=fun x=>by
 induction x using Nat.strongRecOn with
 |ind x ih=>
  intro hx;have h:=hF x hx;by_cases hp:par x= -1
  ·exact zmq.2 ⟨x,hx,hp,.inl rfl⟩
  ·obtain⟨y,hy⟩:∃y:Nat,par x=(y:Int):=⟨(par x).toNat,by omega⟩;exact zmm hF (n+1) (-1) x y (by omega) (ih y (by omega) (by omega)) hx hy
theorem zms (hF:Fst par n) {f:Nat} {p:Int}:∀(x i j:Nat),i<n→j<n→par i=p→par j=p→(x=i∨x∈pre par n f i)→(x=j∨x∈pre par n f j)→i=j:=fun x=>by
 induction x using Nat.strongRecOn with
 |ind x ih=>
  intro i j hi hj hpi hpj h1 h2;have fi:=hF i hi;have fj:=hF j hj;rcases h1 with rfl|h1
  ·rcases h2 with h2|h2
   ·exact h2
   ·have:=(zmp hF f j x h2).2.1;omega
  ·have l1:=zmp hF f i x h1;rcases h2 with rfl|h2
   ·have:=l1.2.1;omega
   ·have l2:=zmp hF f j x h2;rcases l1.2.2.2 with e1|⟨y,hy,e1⟩
    ·rcases l2.2.2.2 with e2|⟨z,hz,e2⟩
     ·omega
     ·obtain rfl:i=z:=by omega
      exact ih i (by have:=hF x l1.1;omega) i j hi hj hpi hpj (.inl rfl) (.inr hz)
    ·rcases l2.2.2.2 with e2|⟨z,hz,e2⟩
     ·obtain rfl:j=y:=by omega
      exact ih j (by have:=hF x l1.1;omega) i j hi hj hpi hpj (.inr hy) (.inl rfl)
     ·obtain rfl:y=z:=by omega
      exact ih y (by have:=hF x l1.1;omega) i j hi hj hpi hpj (.inr hy) (.inr hz)
theorem zjG {β γ:Type} {g:β→List γ}:∀{l:List β},l.Nodup→(∀a∈l,(g a).Nodup)→(∀a∈l,∀b∈l,∀x,x∈g a→x∈g b→a=b)→(l.flatMap g).Nodup
 | [],_,_,_=>List.nodup_nil
 |a::l,hn,h1,h2=>by
  have hn':=List.nodup_cons.1 hn;rw[List.flatMap_cons];refine List.nodup_append.2 ⟨h1 a (by simp),zjG hn'.2 (fun b hb=>h1 b (by simp[hb])) (fun b hb c hc=>h2 b (by simp[hb]) c (by simp[hc])),?_⟩;rintro x hx y hy rfl;obtain⟨b,hb,hy⟩:=List.mem_flatMap.1 hy;exact hn'.1 (h2 a (by simp) b (by simp[hb]) x hx hy▸hb)
theorem zmr (hF:Fst par n):∀(f:Nat) (p:Int),(pre par n f p).Nodup
 |0,_=>List.nodup_nil
 |f+1,p=>by
  rw[zmv];refine zjG List.nodup_range (fun i hi=>?_) (fun i hi j hj x hx hy=>?_)
  ·split
   ·refine List.nodup_cons.2 ⟨fun h=>?_,zmr hF f i⟩;have:=(zmp hF f i i h).2.2.1;omega
   ·exact List.nodup_nil
  ·split at hx
   ·rename_i hpi
    split at hy
    ·rename_i hpj
     exact zms hF x i j (List.mem_range.1 hi) (List.mem_range.1 hj) hpi hpj (List.mem_cons.1 hx) (List.mem_cons.1 hy)
    ·cases hy
   ·cases hx
theorem zmo (hF:Fst par n):(pre par n (n+1) (-1)).length=n:=by
 have h1:(pre par n (n+1) (-1)).Perm (List.range n):=by
  refine(List.perm_ext_iff_of_nodup (zmr hF _ _) List.nodup_range).2 fun x=>?_;rw[List.mem_range];exact⟨fun h=>(zmp hF _ _ x h).1,fun h=>zmj hF x h⟩
 rw[h1.length_eq,List.length_range]
theorem zmk:∀(f:Nat) (p:Int) (A:List Nat) (x:Nat) (B:List Nat),pre par n f p=A++x::B→par x=p∨∃y∈A,par x=(y:Int)
 |0,p,A,x,B,h=>by
  have:=congrArg List.length h;simp[pre]at this
 |f+1,p,A,x,B,h=>by
  rw[zmv]at h;generalize List.range n=is at h;induction is generalizing A with
  |nil=>
   have:=congrArg List.length h;simp at this
  |cons i is ih=>
   rw[List.flatMap_cons]at h;by_cases hc:par i=p
   ·rw[if_pos hc]at h;rcases List.append_eq_append_iff.1 h with⟨a',ha,hb⟩|⟨c',ha,hb⟩
    ·rcases ih a' hb with h1|⟨y,hy,h1⟩
     ·exact .inl h1
     ·exact .inr ⟨y,by rw[ha];simp[hy],h1⟩
    ·cases c' with
     |nil=>
      rcases ih [] hb.symm with h1|⟨y,hy,h1⟩
      ·exact .inl h1
      ·cases hy
     |cons z c'=>
      rw[List.cons_append]at hb;injection hb with hb1 hb2;subst hb1;cases A with
      |nil=>
       injection ha with ha1 _;subst ha1;exact .inl hc
      |cons a A=>
       injection ha with ha1 ha2;subst ha1;rcases zmk f i A x c' ha2 with h1|⟨y,hy,h1⟩
       ·exact .inr ⟨i,by simp,h1⟩
       ·exact .inr ⟨y,by simp[hy],h1⟩
   ·rw[if_neg hc,List.nil_append]at h;exact ih A h
def pos (o:List Nat) (i:Int):Int:=if i<0 then i else(o.idxOf i.toNat:Int)
theorem zl1 {o:List Nat} {i j:Int} (hi: -1≤i) (hj: -1≤j) (h1:0≤i→i.toNat∈o) (h2:0≤j→j.toNat∈o) (h:pos o i=pos o j):i=j:=by
 unfold pos at h;split at h
 ·split at h
  ·omega
  ·omega
 ·rename_i hi0
  split at h
  ·omega
  ·rename_i hj0
   have e:o.idxOf i.toNat=o.idxOf j.toNat:=by omega
   have a:=List.idxOf_lt_length_of_mem (h1 (by omega));have b:=List.idxOf_lt_length_of_mem (h2 (by omega));have e2:o[o.idxOf i.toNat]=o[o.idxOf j.toNat]:=by simp only[e]
   rw[List.getElem_idxOf,List.getElem_idxOf]at e2;omega
theorem zgO:∀{A B:List Nat} {x:Nat},x∉A→(A++x::B).idxOf x=A.length
 | [],B,x,_=>by simp
 |a::A,B,x,h=>by
  rw[List.cons_append,List.idxOf_cons,zgO (fun hx=>h (by simp[hx]))];have:(a==x)=false:=by rw[beq_eq_false_iff_ne];rintro rfl;exact h (by simp)
  rw[this];rfl
theorem zfw {β γ:Type} {f g:β→List γ}:∀{l:List β},(∀a∈l,f a=g a)→l.flatMap f=l.flatMap g
 | [],_=>rfl
 |a::l,h=>by rw[List.flatMap_cons,List.flatMap_cons,h a (by simp),zfw fun b hb=>h b (by simp[hb])]
theorem zfz (g:Nat→List Nat):∀(l:List Nat) (t:Nat),(l.zipIdx t).flatMap (fun x=>g x.2)=(List.range' t l.length).flatMap g
 | [],_=>rfl
 |a::l,t=>by rw[List.zipIdx_cons,List.flatMap_cons,zfz g l (t+1),List.length_cons,List.range'_succ,List.flatMap_cons]
theorem zfy {β γ:Type} {f:β→List γ}:∀{l:List β},(∀a∈l,f a=[])→l.flatMap f=[]
 | [],_=>rfl
 |a::l,h=>by rw[List.flatMap_cons,h a (by simp),zfy fun b hb=>h b (by simp[hb])];rfl
theorem zt8 {l:List Nat} {t:Nat} {x:Nat×Nat} (h:x∈l.zipIdx t):x.1∈l:=by
 have:=List.mem_map_of_mem (f:=Prod.fst) h;rwa [List.zipIdx_map_fst]at this
theorem zml (hF:Fst par n) {o:List Nat} (ho:o=pre par n (n+1) (-1)) {par':Nat→Int} (hp':∀j (h:j<o.length),par' j=pos o (par o[j])):
 ∀(f:Nat) (p:Int) (A B:List Nat),-1≤p→(0≤p→p.toNat∈o)→(n:Int)<(f:Int)+p+1→o=A++pre par n f p++B→pre par' n f (pos o p)=List.range' A.length (pre par n f p).length
 |0,_,_,_,_,_,_,_=>rfl
 |f+1,p,A,B,hp1,hp2,hf,hsp=>by
  have hnd:o.Nodup:=ho▸zmr hF _ _;have hln:o.length=n:=ho▸zmo hF;have hmem:∀x,x∈o↔x<n:=fun x=>by rw[ho];exact⟨fun h=>(zmp hF _ _ x h).1,fun h=>zmj hF x h⟩
  have e2:pre par' n (f+1) (pos o p)=(o.zipIdx 0).flatMap fun x=>if par x.1=p then x.2::pre par' n f x.2 else []:=by
   rw[zmv,←hln,List.range_eq_range',←zfz];refine zfw fun x hx=>?_;obtain⟨h1,h2⟩:=List.mem_zipIdx' hx;rw[hp' x.2 h1,←h2,hln];have hxo:x.1<n:=(hmem _).1 (zt8 hx);have hfx:=hF x.1 hxo;by_cases hc:par x.1=p
   ·rw[if_pos hc,if_pos (by rw[hc])]
   ·rw[if_neg hc,if_neg];exact fun h=>hc (zl1 hfx.1 hp1 (fun h0=>(hmem _).2 (by omega)) hp2 h)
  have hin:∀x,x<n→par x=p→x∈pre par n (f+1) p:=fun x hx hp=>zmq.2 ⟨x,hx,hp,.inl rfl⟩
  have e3:∀(is A' B':List Nat),(∀i∈is,i<n)→o=A'++(is.flatMap fun i=>if par i=p then i::pre par n f i else [])++B'→
   (((is.flatMap fun i=>if par i=p then i::pre par n f i else []).zipIdx A'.length).flatMap fun x=>if par x.1=p then x.2::pre par' n f x.2 else [])=List.range' A'.length (is.flatMap fun i=>if par i=p then i::pre par n f i else []).length:=by
   intro is;induction is with
   |nil=>intro A' B' _ _;rfl
   |cons i is ih=>
    intro A' B' his hs;rw[List.flatMap_cons]at hs⊢;by_cases hc:par i=p
    ·rw[if_pos hc]at hs⊢;have hi:=his i (by simp);have hfi:=hF i hi;generalize hR:(is.flatMap fun i=>if par i=p then i::pre par n f i else [])=R at hs ih⊢;have hs2:o=A'++i::(pre par n f i++R++B'):=by rw[hs];simp
     have hiA:i∉A':=fun h=>by
      rw[hs2]at hnd;exact(List.nodup_append.1 hnd).2.2 i h i (by simp) rfl
     have hpi:pos o i=(A'.length:Int):=by
      unfold pos;rw[if_neg (by omega),Int.toNat_natCast,hs2,zgO hiA]
     have h1:=zml hF ho hp' f i (A'++ [i]) (R++B') (by omega) (fun _=>by rw[Int.toNat_natCast];exact(hmem i).2 hi) (by omega) (by rw[hs];simp);rw[hpi]at h1;have h2:=ih (A'++i::pre par n f i) B' (fun j hj=>his j (by simp[hj])) (by rw[hs];simp);rw[List.cons_append,List.zipIdx_cons,List.flatMap_cons,if_pos hc,List.zipIdx_append,List.flatMap_append];dsimp only
     rw[zfy (l:=(pre par n f i).zipIdx (A'.length+1)) (fun x hx=>by
      rw[if_neg];have:=(zmp hF f i x.1 (zt8 hx)).2.1;omega),List.nil_append,h1]
     rw[List.length_append,List.length_cons]at h2
     rw[show A'.length+1+(pre par n f i).length=A'.length+((pre par n f i).length+1)by omega,h2,List.length_append,List.length_singleton,List.length_cons,List.length_append,
      show(pre par n f i).length+R.length+1=((pre par n f i).length+1)+R.length by omega,←List.range'_append_1,List.range'_succ]
    ·rw[if_neg hc,List.nil_append]at hs⊢;exact ih A' B' (fun j hj=>his j (by simp[hj])) hs
  have hout:∀x,x∈A∨x∈B→par x≠p:=by
   intro x hx hp;have hxo:x<n:=(hmem x).1 (by rw[hsp];rcases hx with h|h<;>simp[h]);have hb:=hin x hxo hp;rw[hsp]at hnd;rcases hx with h|h
   ·exact(List.nodup_append.1 (List.nodup_append.1 hnd).1).2.2 x h x hb rfl
   ·exact(List.nodup_append.1 hnd).2.2 x (by simp[hb]) x h rfl
  have h3:=e3 (List.range n) A B (fun i hi=>List.mem_range.1 hi) hsp;rw[←zmv]at h3
  rw[e2,hsp,List.zipIdx_append,List.zipIdx_append,List.flatMap_append,List.flatMap_append,zfy (l:=A.zipIdx 0) (fun x hx=>by rw[if_neg (hout _ (.inl (zt8 hx)))]),
   zfy (l:=B.zipIdx _) (fun x hx=>by rw[if_neg (hout _ (.inr (zt8 hx)))]),List.nil_append,List.append_nil,Nat.zero_add,h3]
theorem zmi (hF:Fst par n) {par':Nat→Int} (hp':∀j (h:j<(pre par n (n+1) (-1)).length),par' j=pos (pre par n (n+1) (-1)) (par (pre par n (n+1) (-1))[j])):
 pre par' n (n+1) (-1)=List.range n:=by
 have:=zml hF rfl hp' (n+1) (-1) [] [] (by omega) (fun h=>by omega) (by omega) (by simp);rw[zmo hF]at this;rw[List.range_eq_range'];exact this
end
abbrev Sc:=Bs×Int×Int
structure Vr where
 nm:Bs
 ty:Int
 sc:Int
 sg:Int
 rg:Bool
 mb:Int
 lb:Int
deriving DecidableEq
def zjh (s:Bs):Bool:=decide (s≠ [])&&decide (s.length≤32)&&s.all prn&&(match s with
 | []=>false
 |c::_=>if c=92 then decide (2≤s.length)else decide (c≠36)&&!s.any fun d=>d==92||d==46||d==91||d==93)
def zbj (n:Int):Bool:=decide (-32768≤n)&&decide (n≤32768)
def ztw (m l:Int):Int:=if(zbj m&&zbj l)=true then max m l-min m l+1 else 0
def zdX (S:List Sc) (V:List Vr):Bool:=S.zipIdx.all (fun x=>decide (-1≤x.1.2.2)&&decide (x.1.2.2<(x.2:Int)))&&V.all fun v=>decide (-1≤v.sc)&&decide (v.sc<(S.length:Int))&&decide (0≤v.sg)
def upL (S:List Sc):Nat→Int→List Nat
 |0,_=> []
 |f+1,i=>if i<0 then []else match S[i.toNat]? with
  |none=> []
  |some s=>i.toNat::upL S f s.2.2
def zmS (v:Vr):Bool:=if v.rg=true then decide (ztw v.mb v.lb=0)else decide (v.mb≠0)||decide (v.lb≠0)
abbrev ScK:=Int×Bs
abbrev VrK:=Int×Bs×Bool×Int×Int
def znK (s:Sc):ScK:=(s.2.2,s.1)
def zs1 (v:Vr):VrK:=(v.sc,v.nm,v.rg,v.mb,v.lb)
def uniq {α K:Type} [DecidableEq K] (key:α→K):List α→Bool
 | []=>true
 |x::l=>uniq key l&&!(l.map key).contains (key x)
def zb6 (S:List Sc) (V:List Vr):Int:=
 if 32<S.length∨128<V.length then 9
 else if zdX S V=false then 1
 else if(List.range S.length).any (fun i=>decide (8<(upL S (i+1) i).length))=true then 9
 else if(S.any (fun s=>!zjh s.1)||V.any fun v=>!zjh v.nm)=true then 4
 else if(S.any (fun s=>decide (s.2.1<0)||decide (4<s.2.1))||V.any fun v=>decide (v.ty<0)||decide (18<v.ty))=true then 7
 else if V.any zmS=true then 2
 else if(!uniq znK S||!uniq zs1 V)=true then 5
 else 0
def parS (S:List Sc) (i:Nat):Int:=(S.getD i ([],0,0)).2.2
def preS (S:List Sc):List Nat:=pre (parS S) S.length (S.length+1) (-1)
def scF (S:List Sc):List Sc:=
 (preS S).map fun i=>((S.getD i ([],0,0)).1,(S.getD i ([],0,0)).2.1,pos (preS S) (parS S i))
def numF:List Int→List Vr→List Vr×List Int
 |fm,[]=>([],fm)
 |fm,v::l=>
  if fm.contains v.sg=true then({v with sg:=(fm.idxOf v.sg:Int)}::(numF fm l).1,(numF fm l).2)
  else({v with sg:=(fm.length:Int)}::(numF (fm++ [v.sg]) l).1,(numF (fm++ [v.sg]) l).2)
def vr1 (S:List Sc) (V:List Vr):List Vr:=V.map fun v=>{v with sc:=pos (preS S) v.sc}
def vr2 (S:List Sc) (V:List Vr):List Vr:=zhk (fun v:Vr=>v.sc) (vr1 S V)
def vrF (S:List Sc) (V:List Vr):List Vr×List Int:=numF [] (vr2 S V)
def zll (S:List Sc) (V:List Vr):List Sc×List Vr×List Int×Int:=
 if zb6 S V≠0 then([],[],[],zb6 S V)else(scF S,(vrF S V).1,(vrF S V).2,0)
theorem zd0 {S:List Sc} {V:List Vr} (h:zdX S V=true):Fst (parS S) S.length:=by
 unfold zdX at h;rw[Bool.and_eq_true,List.all_eq_true]at h;intro i hi;have:=h.1 (S[i],i) (by rw[List.mem_zipIdx_iff_getElem?];simp[hi]);rw[Bool.and_eq_true,decide_eq_true_iff,decide_eq_true_iff]at this;unfold parS;rw[List.getD,List.getElem?_eq_getElem hi];exact this
theorem zd2 {S:List Sc} {V:List Vr} (h:zdX S V=true):∀v∈V,-1≤v.sc∧v.sc<(S.length:Int)∧0≤v.sg:=by
 unfold zdX at h;rw[Bool.and_eq_true,List.all_eq_true,List.all_eq_true]at h;intro v hv;have:=h.2 v hv;rw[Bool.and_eq_true,Bool.and_eq_true,decide_eq_true_iff,decide_eq_true_iff,decide_eq_true_iff]at this;exact⟨this.1.1,this.1.2,this.2⟩
theorem zd1 {S:List Sc} {V:List Vr} (h:Fst (parS S) S.length) (hv:∀v∈V,-1≤v.sc∧v.sc<(S.length:Int)∧0≤v.sg):zdX S V=true:=by
 unfold zdX;rw[Bool.and_eq_true,List.all_eq_true,List.all_eq_true];refine⟨fun x hx=>?_,fun v hv'=>?_⟩
 ·obtain⟨s,i⟩:=x;have hx':=List.mem_zipIdx_iff_getElem?.1 hx;dsimp only at hx'⊢;obtain⟨hi,rfl⟩:=List.getElem?_eq_some_iff.1 hx';have:=h i hi;unfold parS at this;rw[List.getD,List.getElem?_eq_getElem hi]at this;rw[Bool.and_eq_true,decide_eq_true_iff,decide_eq_true_iff];exact this
 ·rw[Bool.and_eq_true,Bool.and_eq_true,decide_eq_true_iff,decide_eq_true_iff,decide_eq_true_iff];have:=hv v hv';exact⟨⟨this.1,this.2.1⟩,this.2.2⟩
theorem zrs {α K:Type} [DecidableEq K] {key:α→K}:∀{l:List α},uniq key l=true↔(l.map key).Nodup
 | []=>by simp[uniq]
 |x::l=>by
  unfold uniq;rw[Bool.and_eq_true,zrs,List.map_cons,List.nodup_cons,Bool.not_eq_true',and_comm];refine and_congr ?_ Iff.rfl;rw[←Bool.not_eq_true,List.contains_iff_mem]
theorem zl3 {n:Nat} {i:Int} (h1:i<(n:Int)):pos (List.range n) i=i:=by
 unfold pos;split
 ·rfl
 ·rename_i h0
  obtain⟨m,rfl⟩:∃m:Nat,i=(m:Int):=⟨i.toNat,by omega⟩;have hm:m<n:=by omega
  rw[Int.toNat_natCast,show List.range n=List.range m++m::(List.range' (m+1) (n-m-1))by
   rw[List.range_eq_range',List.range_eq_range',←List.range'_succ,show n-m-1+1=n-m by omega];have:=List.range'_append_1 (s:=0) (m:=m) (n:=n-m);rw[Nat.zero_add,show m+(n-m)=n by omega]at this;exact this.symm]
  rw[zgO (fun h=>by rw[List.mem_range]at h;omega),List.length_range]
def rgI (k:Nat):List Int:=(List.range k).map fun i:Nat=>(i:Int)
theorem znp (k:Nat):rgI (k+1)=rgI k++ [(k:Int)]:=by simp[rgI,List.range_succ]
theorem znm (k:Nat):(rgI k).length=k:=by simp[rgI]
theorem znn {k:Nat} {x:Int}:x∈rgI k↔0≤x∧x<(k:Int):=by
 unfold rgI;rw[List.mem_map];constructor
 ·rintro⟨i,hi,rfl⟩;have:=List.mem_range.1 hi;omega
 ·rintro⟨h1,h2⟩;exact⟨x.toNat,List.mem_range.2 (by omega),by omega⟩
theorem znl:∀{k i:Nat},i<k→(rgI k).idxOf (i:Int)=i
 |k+1,i,h=>by
  rw[znp,List.idxOf_append];by_cases hi:i<k
  ·rw[if_pos (znn.2 (by omega)),znl hi]
  ·obtain rfl:i=k:=by omega
   rw[if_neg (fun hm=>by have:=znn.1 hm;omega),znm];simp
theorem zjW {fm:List Int} {v:Vr} {l:List Vr} (h:fm.contains v.sg=true):numF fm (v::l)=({v with sg:=(fm.idxOf v.sg:Int)}::(numF fm l).1,(numF fm l).2):=by rw[numF,if_pos h]
theorem zjX {fm:List Int} {v:Vr} {l:List Vr} (h:¬fm.contains v.sg=true):numF fm (v::l)=({v with sg:=(fm.length:Int)}::(numF (fm++ [v.sg]) l).1,(numF (fm++ [v.sg]) l).2):=by rw[numF,if_neg h]
theorem zj6:∀(l:List Vr) (fm:List Int),∃m,fm.length≤m∧(numF fm l).2.length=m∧numF (rgI fm.length) (numF fm l).1=((numF fm l).1,rgI m)
 | [],fm=>⟨fm.length,Nat.le_refl _,rfl,rfl⟩
 |v::l,fm=>by
  by_cases hc:fm.contains v.sg=true
  ·obtain⟨m,h1,h2,h3⟩:=zj6 l fm;have hi:=List.idxOf_lt_length_of_mem (List.contains_iff_mem.1 hc);refine⟨m,h1,?_,?_⟩
   ·rw[zjW hc];exact h2
   ·rw[zjW hc,zjW (by rw[List.contains_iff_mem];exact znn.2 (by dsimp only;omega))];dsimp only;rw[znl hi,h3]
  ·obtain⟨m,h1,h2,h3⟩:=zj6 l (fm++ [v.sg]);rw[List.length_append,List.length_singleton]at h1 h3;refine⟨m,by omega,?_,?_⟩
   ·rw[zjX hc];exact h2
   ·rw[zjX hc,zjX (by rw[List.contains_iff_mem];intro hm;have:=(znn.1 hm).2;dsimp only at this;omega)];dsimp only;rw[znm,←znp,h3]
theorem zka {β:Type} (g:Vr→β) (hg:∀v x,g {v with sg:=x}=g v):∀(l:List Vr) (fm:List Int),(numF fm l).1.map g=l.map g
 | [],_=>rfl
 |v::l,fm=>by
  unfold numF;split
  ·dsimp only;rw[List.map_cons,List.map_cons,hg,zka g hg]
  ·dsimp only;rw[List.map_cons,List.map_cons,hg,zka g hg]
theorem zke:∀(l:List Vr) (fm:List Int),∀v∈(numF fm l).1,0≤v.sg
 | [],_=>by intro v hv;cases hv
 |v::l,fm=>by
  intro x hx;unfold numF at hx;split at hx
  ·rcases List.mem_cons.1 hx with rfl|hx
   ·dsimp only;omega
   ·exact zke l _ x hx
  ·rcases List.mem_cons.1 hx with rfl|hx
   ·dsimp only;omega
   ·exact zke l _ x hx
theorem zaS {α:Type} {p:α→Bool} {l:List α}:l.any p=false↔ ∀x∈l,p x=false:=by
 rw[←Bool.not_eq_true,List.any_eq_true]
 exact⟨fun h x hx=>by cases hp:p x with
  |true=>exact absurd ⟨x,hx,hp⟩ h
  |false=>rfl,fun h ⟨x,hx,hp⟩=>by rw[h x hx]at hp;cases hp⟩
structure ChkOk (S:List Sc) (V:List Vr):Prop where
 n:S.length≤32
 m:V.length≤128
 d:zdX S V=true
 u:∀i,i<S.length→(upL S (i+1) (i:Int)).length≤8
 ns:∀s∈S,zjh s.1=true
 nv:∀v∈V,zjh v.nm=true
 ts:∀s∈S,0≤s.2.1∧s.2.1≤4
 tv:∀v∈V,0≤v.ty∧v.ty≤18
 r:∀v∈V,zmS v=false
 ks:(S.map znK).Nodup
 kv:(V.map zs1).Nodup
theorem zce {S:List Sc} {V:List Vr}:zb6 S V=0↔ChkOk S V:=by
 unfold zb6;constructor
 ·intro h;split at h
  ·cases h
  rename_i h1
  split at h
  ·cases h
  rename_i h2
  split at h
  ·cases h
  rename_i h3
  split at h
  ·cases h
  rename_i h4
  split at h
  ·cases h
  rename_i h5
  split at h
  ·cases h
  rename_i h6
  split at h
  ·cases h
  rename_i h7
  rw[Bool.not_eq_true,zaS]at h3;rw[Bool.not_eq_true,Bool.or_eq_false_iff,zaS,zaS]at h4 h5;rw[Bool.not_eq_true,zaS]at h6;rw[Bool.not_eq_true,Bool.or_eq_false_iff,Bool.not_eq_false',Bool.not_eq_false',zrs,zrs]at h7;rw[Bool.not_eq_false]at h2;refine⟨by omega,by omega,h2,fun i hi=>?_,fun s hs=>?_,fun v hv=>?_,fun s hs=>?_,fun v hv=>?_,h6,h7.1,h7.2⟩
  ·have:=of_decide_eq_false (h3 i (List.mem_range.2 hi));omega
  ·have:=h4.1 s hs;rwa [Bool.not_eq_false']at this
  ·have:=h4.2 v hv;rwa [Bool.not_eq_false']at this
  ·have:=h5.1 s hs;rw[Bool.or_eq_false_iff,decide_eq_false_iff_not,decide_eq_false_iff_not]at this;omega
  ·have:=h5.2 v hv;rw[Bool.or_eq_false_iff,decide_eq_false_iff_not,decide_eq_false_iff_not]at this;omega
 ·rintro⟨a,b,c,d,e,f,g,h,i,j,k⟩;rw[if_neg (by omega),if_neg (by rw[c];simp),if_neg,if_neg,if_neg,if_neg,if_neg]
  ·rw[Bool.not_eq_true,Bool.or_eq_false_iff,Bool.not_eq_false',Bool.not_eq_false',zrs,zrs];exact⟨j,k⟩
  ·rw[Bool.not_eq_true,zaS];exact i
  ·rw[Bool.not_eq_true,Bool.or_eq_false_iff,zaS,zaS];refine⟨fun s hs=>?_,fun v hv=>?_⟩
   ·rw[Bool.or_eq_false_iff,decide_eq_false_iff_not,decide_eq_false_iff_not];have:=g s hs;omega
   ·rw[Bool.or_eq_false_iff,decide_eq_false_iff_not,decide_eq_false_iff_not];have:=h v hv;omega
  ·rw[Bool.not_eq_true,Bool.or_eq_false_iff,zaS,zaS];exact⟨fun s hs=>by rw[e s hs];rfl,fun v hv=>by rw[f v hv];rfl⟩
  ·rw[Bool.not_eq_true,zaS];intro x hx;rw[decide_eq_false_iff_not];have:=d x (List.mem_range.1 hx);omega
theorem zme {S:List Sc} (hF:Fst (parS S) S.length):(preS S).length=S.length:=zmo hF
theorem zmf {S:List Sc} (hF:Fst (parS S) S.length) {x:Nat}:x∈preS S↔x<S.length:=⟨fun h=>(zmp hF _ _ x h).1,fun h=>zmj hF x h⟩
theorem zmg {S:List Sc} (hF:Fst (parS S) S.length):(preS S).Nodup:=zmr hF _ _
theorem znI {S:List Sc} (hF:Fst (parS S) S.length):(scF S).length=S.length:=by unfold scF;rw[List.length_map,zme hF]
theorem znG {S:List Sc} {j:Nat} (h:j<(scF S).length) (h':j<(preS S).length):(scF S)[j]=((S.getD (preS S)[j] ([],0,0)).1,(S.getD (preS S)[j] ([],0,0)).2.1,pos (preS S) (parS S (preS S)[j])):=by
 simp only[scF,List.getElem_map]
theorem zlX {S:List Sc} (hF:Fst (parS S) S.length) (j:Nat) (h:j<(preS S).length):parS (scF S) j=pos (preS S) (parS S (preS S)[j]):=by
 have h2:j<(scF S).length:=by rw[znI hF,←zme hF];exact h
 unfold parS;rw[List.getD,List.getElem?_eq_getElem h2,Option.getD_some,znG h2 h];rfl
theorem zl2 {S:List Sc} (hF:Fst (parS S) S.length) {q:Int} (h:q<(S.length:Int)):pos (preS S) q<(S.length:Int):=by
 unfold pos;split
 ·exact h
 ·have:=List.idxOf_lt_length_of_mem ((zmf hF (x:=q.toNat)).2 (by omega));rw[zme hF]at this;omega
theorem zmd {S:List Sc} (hF:Fst (parS S) S.length):preS (scF S)=List.range S.length:=by
 unfold preS;rw[znI hF];exact zmi hF (zlX hF)
theorem zlW {S:List Sc} (hF:Fst (parS S) S.length) {j:Nat} (h:j<S.length):parS (scF S) j<(S.length:Int):=by
 have h':j<(preS S).length:=by rw[zme hF];exact h
 rw[zlX hF j h'];have h2:=(zmf hF).1 (List.getElem_mem h');have:=hF _ h2;exact zl2 hF (by omega)
theorem znF {S:List Sc} (hF:Fst (parS S) S.length):scF (scF S)=scF S:=by
 have hl:=znI hF;apply List.ext_getElem
 ·unfold scF;rw[List.length_map,List.length_map,show preS (List.map _ (preS S))=List.range S.length from zmd hF,List.length_range,zme hF]
 ·intro i h1 h2;have h3:i<S.length:=by rw[←hl];exact h2
  rw[show(scF (scF S))[i]=(((scF S).getD (preS (scF S))[i]! ([],0,0)).1,((scF S).getD (preS (scF S))[i]! ([],0,0)).2.1,pos (preS (scF S)) (parS (scF S) (preS (scF S))[i]!))by
   have h4:i<(preS (scF S)).length:=by rw[zmd hF,List.length_range];exact h3
   simp only[scF,List.getElem_map];rw[getElem!_pos _ i h4];rfl]
  rw[zmd hF];have e:(List.range S.length)[i]! =i:=by rw[getElem!_pos _ i (by rw[List.length_range];exact h3),List.getElem_range]
  rw[e,zl3 (zlW hF h3)];unfold parS;rw[List.getD,List.getElem?_eq_getElem h2,Option.getD_some]
theorem zrL {S:List Sc} (hF:Fst (parS S) S.length):∀(f g:Nat) (q:Int),q<(g:Int)→(upL S f q).length≤(upL S g q).length
 |0,_,_,_=>Nat.zero_le _
 |f+1,0,q,h=>by
  unfold upL;rw[if_pos (by omega)];exact Nat.zero_le _
 |f+1,g+1,q,h=>by
  unfold upL;split
  ·exact Nat.zero_le _
  ·rename_i h0
   split
   ·exact Nat.zero_le _
   ·rename_i s hs
    obtain⟨hi,he⟩:=List.getElem?_eq_some_iff.1 hs;have:=hF q.toNat hi;unfold parS at this;rw[List.getD,List.getElem?_eq_getElem hi,Option.getD_some,he]at this;have:=zrL hF f g s.2.2 (by omega);rw[List.length_cons,List.length_cons];omega
theorem zrN {S:List Sc} (hF:Fst (parS S) S.length):∀(f:Nat) (q:Int),q<(S.length:Int)→(upL (scF S) f (pos (preS S) q)).length=(upL S f q).length
 |0,_,_=>rfl
 |f+1,q,h=>by
  by_cases h0:q<0
  ·unfold upL;rw[if_pos h0,if_pos (by unfold pos;rw[if_pos h0];exact h0)]
  ·obtain⟨x,rfl⟩:∃x:Nat,q=(x:Int):=⟨q.toNat,by omega⟩;have hx:x<S.length:=by omega
   have hm:=(zmf hF).2 hx;have hi:=List.idxOf_lt_length_of_mem hm;have hi2:(preS S).idxOf x<(scF S).length:=by rw[znI hF,←zme hF];exact hi
   have e0:pos (preS S) (x:Int)=((preS S).idxOf x:Int):=by unfold pos;rw[if_neg h0,Int.toNat_natCast]
   rw[e0];unfold upL;rw[if_neg (by omega),if_neg h0,Int.toNat_natCast,Int.toNat_natCast,List.getElem?_eq_getElem hi2,List.getElem?_eq_getElem hx];dsimp only;rw[List.length_cons,List.length_cons,znG hi2 hi,List.getElem_idxOf];dsimp only;have hp:parS S x=S[x].2.2:=by unfold parS;rw[List.getD,List.getElem?_eq_getElem hx,Option.getD_some]
   rw[hp,zrN hF f _ (by have:=hF x hx;rw[hp]at this;omega)]
theorem ziM {α β:Type} {f:α→β} {p:β→Prop} {l m:List α} (h:(l.map f).Perm (m.map f)) (hm:∀x∈m,p (f x)):∀x∈l,p (f x):=by
 intro x hx;obtain⟨y,hy,e⟩:=List.mem_map.1 (h.subset (List.mem_map_of_mem hx));rw[←e];exact hm y hy
theorem getD_map {β:Type} (S:List Sc) (g:Sc→β):(List.range S.length).map (fun i=>g (S.getD i ([],0,0)))=S.map g:=by
 apply List.ext_getElem
 ·rw[List.length_map,List.length_range,List.length_map]
 ·intro i h1 h2;rw[List.length_map]at h2;rw[List.getElem_map,List.getElem_map,List.getElem_range,List.getD,List.getElem?_eq_getElem h2,Option.getD_some]
theorem zmh {S:List Sc} (hF:Fst (parS S) S.length):(preS S).Perm (List.range S.length):=
 (List.perm_ext_iff_of_nodup (zmg hF) List.nodup_range).2 fun x=>by rw[List.mem_range];exact zmf hF
theorem znJ {β:Type} {S:List Sc} (hF:Fst (parS S) S.length) (g:Bs×Int→β):((scF S).map fun s=>g (s.1,s.2.1)).Perm (S.map fun s=>g (s.1,s.2.1)):=by
 rw[←getD_map S fun s=>g (s.1,s.2.1)];unfold scF;rw[List.map_map];exact(zmh hF).map _
theorem zjH {α β γ:Type} {f:α→β} {g:α→γ}:∀{l:List α},(∀x∈l,∀y∈l,g x=g y→f x=f y)→(l.map f).Nodup→(l.map g).Nodup
 | [],_,_=>List.nodup_nil
 |a::l,h,hn=>by
  rw[List.map_cons,List.nodup_cons]at hn⊢;refine⟨fun hm=>hn.1 ?_,zjH (fun x hx y hy=>h x (by simp[hx]) y (by simp[hy])) hn.2⟩;obtain⟨y,hy,e⟩:=List.mem_map.1 hm;rw[h a (by simp) y (by simp[hy]) e.symm];exact List.mem_map_of_mem hy
theorem zs3 {β:Type} {S:List Sc} {V:List Vr} (g:Vr→β) (hg:∀v x,g {v with sg:=x}=g v):(((vrF S V).1).map g).Perm ((vr1 S V).map g):=by
 unfold vrF;rw[zka g hg];exact(zhq _).map g
theorem zs4 {β:Type} {S:List Sc} {V:List Vr} (g:Vr→β) (hg:∀v x,g {v with sg:=x}=g v) (hg2:∀v x,g {v with sc:=x}=g v):(((vrF S V).1).map g).Perm (V.map g):=by
 have h:=zs3 (S:=S) (V:=V) g hg;unfold vr1 at h;rw[List.map_map,show(g∘fun v:Vr=>{v with sc:=pos (preS S) v.sc})=g from funext fun v=>hg2 v _]at h;exact h
theorem zs5 {S:List Sc} {V:List Vr} (hF:Fst (parS S) S.length) (hv:∀v∈V,-1≤v.sc∧v.sc<(S.length:Int)):∀v∈(vrF S V).1,-1≤v.sc∧v.sc<(S.length:Int):=
 ziM (f:=fun v:Vr=>v.sc) (p:=fun x=> -1≤x∧x<(S.length:Int)) (zs3 (S:=S) (V:=V) (fun v=>v.sc) (fun _ _=>rfl)) (by
  intro v hm;unfold vr1 at hm;obtain⟨u,hu,rfl⟩:=List.mem_map.1 hm;have:=hv u hu;refine⟨?_,zl2 hF this.2⟩;dsimp only;unfold pos;split<;>omega)
theorem zs6 {S:List Sc} {V:List Vr}:Srt (fun v:Vr=>v.sc) (vrF S V).1:=by
 have h:Srt (fun v:Vr=>v.sc) (vr2 S V):=zhs _;unfold Srt at*;have e:(vrF S V).1.map (fun v=>v.sc)=(vr2 S V).map fun v=>v.sc:=zka (fun v:Vr=>v.sc) (fun _ _=>rfl) _ _;have h1:((vr2 S V).map fun v=>v.sc).Pairwise (· ≤ ·):=List.pairwise_map.2 h;rw[←e]at h1;exact List.pairwise_map.1 h1
theorem zlm {S:List Sc} {V:List Vr} (h:zb6 S V=0):zb6 (scF S) (vrF S V).1=0∧scF (scF S)=scF S∧vrF (scF S) (vrF S V).1=((vrF S V).1,rgI (vrF S V).2.length):=by
 obtain⟨hn,hm,hd,hu,hns,hnv,hts,htv,hr,hks,hkv⟩:=zce.1 h;have hF:=zd0 hd;have hV:=zd2 hd;have hl:=znI hF
 have hF2:Fst (parS (scF S)) (scF S).length:=by
  intro j hj;rw[hl]at hj;have hj':j<(preS S).length:=by rw[zme hF];exact hj
  rw[zlX hF j hj'];have hx:=(zmf hF).1 (List.getElem_mem hj');have hsp:preS S=(preS S).take j++(preS S)[j]::(preS S).drop (j+1):=by rw[←List.drop_eq_getElem_cons hj',List.take_append_drop]
  have hfx:=hF _ hx;rcases zmk _ _ _ _ _ hsp with h1|⟨y,hy,h1⟩
  ·rw[h1];exact⟨by show(-1:Int)≤ -1;omega,by show(-1:Int)<(j:Int);omega⟩
  ·rw[h1];obtain⟨i,hi,he⟩:=List.mem_iff_getElem.1 hy;rw[List.length_take]at hi;rw[List.getElem_take]at he;have e:(preS S).idxOf y=i:=by rw[←he,(zmg hF).idxOf_getElem]
   unfold pos;rw[if_neg (by omega),Int.toNat_natCast,e];omega
 have hsc:=zs5 hF (fun v hv=>⟨(hV v hv).1,(hV v hv).2.1⟩);refine⟨zce.2 ⟨by rw[hl];exact hn,?_,zd1 hF2 (fun v hv=>⟨(hsc v hv).1,by rw[hl];exact(hsc v hv).2,zke _ _ v hv⟩),fun i hi=>?_,?_,?_,?_,?_,?_,?_,?_⟩,znF hF,?_⟩
 ·have:=(zs4 (S:=S) (V:=V) (fun v=>v.nm) (fun _ _=>rfl) (fun _ _=>rfl)).length_eq;rw[List.length_map,List.length_map]at this;omega
 ·rw[hl]at hi;have hi':i<(preS S).length:=by rw[zme hF];exact hi
  have hx:=(zmf hF).1 (List.getElem_mem hi')
  have e:pos (preS S) ((preS S)[i]:Int)=(i:Int):=by
   unfold pos;rw[if_neg (by omega),Int.toNat_natCast,(zmg hF).idxOf_getElem]
  have h1:=zrN hF (i+1) ((preS S)[i]:Int) (by omega);rw[e]at h1;rw[h1];exact Nat.le_trans (zrL hF _ _ _ (by omega)) (hu _ hx)
 ·exact ziM (f:=fun s:Sc=>s.1) (p:=fun x=>zjh x=true) (znJ hF fun x=>x.1) hns
 ·exact ziM (f:=fun v:Vr=>v.nm) (p:=fun x=>zjh x=true) (zs4 (fun v=>v.nm) (fun _ _=>rfl) fun _ _=>rfl) hnv
 ·exact ziM (f:=fun s:Sc=>s.2.1) (p:=fun x=>0≤x∧x≤4) (znJ hF fun x=>x.2) hts
 ·exact ziM (f:=fun v:Vr=>v.ty) (p:=fun x=>0≤x∧x≤18) (zs4 (fun v=>v.ty) (fun _ _=>rfl) fun _ _=>rfl) htv
 ·exact ziM (f:=fun v:Vr=>zmS v) (p:=fun x=>x=false) (zs4 (fun v=>zmS v) (fun _ _=>rfl) fun _ _=>rfl) hr
 ·unfold scF;rw[List.map_map];have h1:((List.range S.length).map fun i=>znK (S.getD i ([],0,0))).Nodup:=by rw[getD_map S znK];exact hks
  have h2:((preS S).map fun i=>znK (S.getD i ([],0,0))).Nodup:=((zmh hF).map _).nodup_iff.2 h1;refine zjH (fun x hx y hy e=>?_) h2;have hx':=(zmf hF).1 hx;have hy':=(zmf hF).1 hy;injection e with e1 e2;have h3:=zl1 (hF x hx').1 (hF y hy').1 (fun _=>(zmf hF).2 (by have:=hF x hx';omega)) (fun _=>(zmf hF).2 (by have:=hF y hy';omega)) e1;exact Prod.ext h3 e2
 ·have h1:=zs3 (S:=S) (V:=V) zs1 (fun _ _=>rfl);refine h1.nodup_iff.2 ?_;unfold vr1;rw[List.map_map];refine zjH (fun x hx y hy e=>?_) hkv;have hx':=hV x hx;have hy':=hV y hy;injection e with e1 e2;have h3:=zl1 hx'.1 hy'.1 (fun _=>(zmf hF).2 (by omega)) (fun _=>(zmf hF).2 (by omega)) e1;exact Prod.ext h3 e2
 ·have h1:vr1 (scF S) (vrF S V).1=(vrF S V).1:=by
   unfold vr1;rw[zmd hF];conv=>rhs;rw[←List.map_id (vrF S V).1]
   exact List.map_congr_left fun v hv=>by rw[zl3 (hsc v hv).2];rfl
  show numF [] (zhk _ (vr1 (scF S) (vrF S V).1))=_;rw[h1,zhm zs6];obtain⟨m,-,h2,h3⟩:=zj6 (vr2 S V) [];rw[show(vrF S V).2.length=m from h2];exact h3
open Go.RowKit
set_option linter.unusedSimpArgs false
def vrC (v:Vr):List Value:=[.string (bsB v.nm),.int .i64 v.ty,.int .i64 v.sc,.int .i64 v.sg,.bool v.rg,.int .i64 v.mb,.int .i64 v.lb]
def scC (s:Sc):List Value:=[.string (bsB s.1),.int .i64 s.2.1,.int .i64 s.2.2]
def gpC (g:Int×Int):List Value:=[.int .i64 g.1,.int .i64 g.2]
def vrs (l:List Vr):List Value:=l.flatMap vrC
def scs (l:List Sc):List Value:=l.flatMap scC
def gps (l:List (Int×Int)):List Value:=l.flatMap gpC
abbrev vrV (v:Vr):Value:=.agg #[.string (bsB v.nm),.int .i64 v.ty,.int .i64 v.sc,.int .i64 v.sg,.bool v.rg,.int .i64 v.mb,.int .i64 v.lb]
abbrev scV (s:Sc):Value:=.agg #[.string (bsB s.1),.int .i64 s.2.1,.int .i64 s.2.2]
abbrev gpV (g:Int×Int):Value:=.agg #[.int .i64 g.1,.int .i64 g.2]
theorem zs7 (l m:List Vr):vrs (l++m)=vrs l++vrs m:=by simp[vrs]
theorem zs9 (x:Vr) (l:List Vr):vrs (x::l)=vrC x++vrs l:=rfl
theorem zta:∀l:List Vr,(vrs l).length=7*l.length
 | []=>rfl
 |x::l=>by rw[zs9,List.length_append,zta l,List.length_cons];show 7+_=_;omega
theorem ztg (l:List Vr) (x:Vr):vrs (l++ [x])=vrs l++vrC x:=by rw[zs7];simp[vrs]
theorem ztc:∀(l:List Vr),∀u∈vrs l,u.oneCell'=true
 | [],u,hu=>by simp[vrs]at hu
 |x::l,u,hu=>by
  rw[zs9]at hu;rcases List.mem_append.1 hu with hu|hu
  ·simp only[vrC,List.mem_cons,List.mem_nil_iff,or_false]at hu;rcases hu with rfl|rfl|rfl|rfl|rfl|rfl|rfl<;>rfl
  ·exact ztc l u hu
theorem zs8:∀(l:List Vr) (k:Nat) (h:k<l.length) (j:Nat),j<7→(vrs l)[7*k+j]? =(vrC l[k])[j]?
 |x::l,0,_,j,hj=>by
  rw[zs9,List.getElem?_append_left (by simp[vrC];omega)];simp
 |x::l,k+1,h,j,hj=>by
  have:=zs8 l k (by simpa using h) j hj;rw[zs9,List.getElem?_append_right (by simp[vrC];omega)];rw[show 7*(k+1)+j-(vrC x).length=7*k+j by simp[vrC];omega];simpa using this
theorem SlR.vrs {w:World} {a:Option Addr} {cap:Nat} {l:List Vr} (h:SlR w (.slice a l.length cap) l.length (vrs l)) {k:Nat} (hk:k<l.length):
 ∃b o,a=some ⟨b,o,none⟩∧∀(j:Nat) (u:Value),(vrC l[k])[j]? =some u→w.cell? ⟨b,o+k*7+j,none⟩=some u:=by
 obtain⟨b,o,cap',hv,-,-,hcell⟩:=h.at (by omega);injection hv with e1 _ _;refine⟨b,o,e1,fun j u hj=>?_⟩;have hjk:j<7:=by have:=(List.getElem?_eq_some_iff.1 hj).1;simpa[vrC] using this
 have:=hcell _ _ ((zs8 l k hk j hjk).trans hj);rwa [Nat.mul_comm 7 k,←Nat.add_assoc]at this
theorem zoa (l m:List Sc):scs (l++m)=scs l++scs m:=by simp[scs]
theorem zoc (x:Sc) (l:List Sc):scs (x::l)=scC x++scs l:=rfl
theorem zod:∀l:List Sc,(scs l).length=3*l.length
 | []=>rfl
 |x::l=>by rw[zoc,List.length_append,zod l,List.length_cons];show 3+_=_;omega
theorem zof:∀(l:List Sc),∀u∈scs l,u.oneCell'=true
 | [],u,hu=>by simp[scs]at hu
 |x::l,u,hu=>by
  rw[zoc]at hu;rcases List.mem_append.1 hu with hu|hu
  ·simp only[scC,List.mem_cons,List.mem_nil_iff,or_false]at hu;rcases hu with rfl|rfl|rfl<;>rfl
  ·exact zof l u hu
theorem zob:∀(l:List Sc) (k:Nat) (h:k<l.length) (j:Nat),j<3→(scs l)[3*k+j]? =(scC l[k])[j]?
 |x::l,0,_,j,hj=>by
  rw[zoc,List.getElem?_append_left (by simp[scC];omega)];simp
 |x::l,k+1,h,j,hj=>by
  have:=zob l k (by simpa using h) j hj;rw[zoc,List.getElem?_append_right (by simp[scC];omega)];rw[show 3*(k+1)+j-(scC x).length=3*k+j by simp[scC];omega];simpa using this
theorem SlR.scs {w:World} {a:Option Addr} {cap:Nat} {l:List Sc} (h:SlR w (.slice a l.length cap) l.length (scs l)) {k:Nat} (hk:k<l.length):
 ∃b o,a=some ⟨b,o,none⟩∧∀(j:Nat) (u:Value),(scC l[k])[j]? =some u→w.cell? ⟨b,o+k*3+j,none⟩=some u:=by
 obtain⟨b,o,cap',hv,-,-,hcell⟩:=h.at (by omega);injection hv with e1 _ _;refine⟨b,o,e1,fun j u hj=>?_⟩;have hjk:j<3:=by have:=(List.getElem?_eq_some_iff.1 hj).1;simpa[scC] using this
 have:=hcell _ _ ((zob l k hk j hjk).trans hj);rwa [Nat.mul_comm 3 k,←Nat.add_assoc]at this
theorem zgb (l m:List (Int×Int)):gps (l++m)=gps l++gps m:=by simp[gps]
theorem zgd (x:(Int×Int)) (l:List (Int×Int)):gps (x::l)=gpC x++gps l:=rfl
theorem zge:∀l:List (Int×Int),(gps l).length=2*l.length
 | []=>rfl
 |x::l=>by rw[zgd,List.length_append,zge l,List.length_cons];show 2+_=_;omega
theorem zgc:∀(l:List (Int×Int)) (k:Nat) (h:k<l.length) (j:Nat),j<2→(gps l)[2*k+j]? =(gpC l[k])[j]?
 |x::l,0,_,j,hj=>by
  rw[zgd,List.getElem?_append_left (by simp[gpC];omega)];simp
 |x::l,k+1,h,j,hj=>by
  have:=zgc l k (by simpa using h) j hj;rw[zgd,List.getElem?_append_right (by simp[gpC];omega)];rw[show 2*(k+1)+j-(gpC x).length=2*k+j by simp[gpC];omega];simpa using this
theorem SlR.gps {w:World} {a:Option Addr} {cap:Nat} {l:List (Int×Int)} (h:SlR w (.slice a l.length cap) l.length (gps l)) {k:Nat} (hk:k<l.length):
 ∃b o,a=some ⟨b,o,none⟩∧∀(j:Nat) (u:Value),(gpC l[k])[j]? =some u→w.cell? ⟨b,o+k*2+j,none⟩=some u:=by
 obtain⟨b,o,cap',hv,-,-,hcell⟩:=h.at (by omega);injection hv with e1 _ _;refine⟨b,o,e1,fun j u hj=>?_⟩;have hjk:j<2:=by have:=(List.getElem?_eq_some_iff.1 hj).1;simpa[gpC] using this
 have:=hcell _ _ ((zgc l k hk j hjk).trans hj);rwa [Nat.mul_comm 2 k,←Nat.add_assoc]at this
theorem zs2:(Tryz.prog.info? 55).map (fun i=>(i.zero,i.size,i.bytes))=some (some (.agg #[.string ⟨#[]⟩,.int .i64 0,.int .i64 0,.int .i64 0,.bool false,.int .i64 0,.int .i64 0]),7,64):=by kernel_rfl
theorem znM:(Tryz.prog.info? 66).map (fun i=>(i.zero,i.size,i.bytes))=some (some (.agg #[.string ⟨#[]⟩,.int .i64 0,.int .i64 0]),3,32):=by kernel_rfl
theorem zga:(Tryz.prog.info? 94).map (fun i=>(i.zero,i.size,i.bytes))=some (some (.agg #[.int .i64 0,.int .i64 0]),2,16):=by kernel_rfl
theorem zlC {w:World} {B e size n:Nat} {g c:Nat} {xs:List Value} (h:w.ownsRow B e size (.slice (some ⟨g,0,none⟩) n c) n xs):zan w g xs:=by
 rcases h.2 with⟨h0,-⟩|⟨g',cap',cur,h0,hbase,hb,hn,hm,hsz,htk⟩
 ·cases h0
 injection h0 with e1 _ e3;injection e1 with e1;injection e1 with e1 _ _;subst e1 e3;intro j u hj
 have hj':cur.toList[j]? =some u:=by
  rw[←htk,List.getElem?_take]at hj;split at hj
  ·exact hj
  ·cases hj
 rw[Array.getElem?_toList]at hj';exact⟨by simp[World.cell?,hb,hj'],by simp[World.frozen?,hb]⟩
theorem zlE {w:World} {B e size n g c:Nat} {xs:List Value} (h:w.ownsRow B e size (.slice (some ⟨g,0,none⟩) n c) n xs) (j:Nat) (u:Value):
 (w.setCell ⟨g,j,none⟩ u).ownsRow B e size (.slice (some ⟨g,0,none⟩) n c) n (xs.set j u):=(h.stored j u).1
section
variable {α : Type}
def swpd (X A Y B Z:List α) (i:Nat):List α:=X++(B.take i++(A.drop i++(Y++(A.take i++(B.drop i++Z)))))
theorem zqd (X A Y B Z:List α):swpd X A Y B Z 0=X++(A++(Y++(B++Z))):=by simp[swpd]
theorem zqb {X A Y B Z:List α} (h:A.length=B.length):swpd X A Y B Z A.length=X++(B++(Y++(A++Z))):=by
 simp[swpd,h,List.take_of_length_le,List.drop_of_length_le]
theorem zqc {X A Y B Z:List α} {i:Nat} (h:A.length=B.length) (hi:i<A.length):
 ∃X1 Y1 Z1,X1.length=X.length+i∧X1.length+1+Y1.length=X.length+A.length+Y.length+i∧
  swpd X A Y B Z i=X1++A[i]::(Y1++B[i]::Z1)∧swpd X A Y B Z (i+1)=X1++B[i]::(Y1++A[i]::Z1):=by
 have hi2:i<B.length:=by omega
 refine⟨X++B.take i,A.drop (i+1)++(Y++A.take i),B.drop (i+1)++Z,?_,?_,?_,?_⟩
 ·rw[List.length_append,List.length_take];omega
 ·simp only[List.length_append,List.length_take,List.length_drop];omega
 ·unfold swpd;rw[List.drop_eq_getElem_cons hi,List.drop_eq_getElem_cons hi2];simp only[List.append_assoc,List.cons_append]
 ·unfold swpd;rw[List.take_succ_eq_append_getElem hi,List.take_succ_eq_append_getElem hi2];simp only[List.append_assoc,List.cons_append,List.nil_append]
structure Rot (m i j:Nat) (l t:List α):Prop where
 ex:∃P A B S,l=P++(A++(B++S))∧t=P++(B++(A++S))∧P.length+i=m∧A.length=i∧B.length=j
theorem Rot.more {m i j:Nat} {l t:List α} (h:Rot m i j l t) (hij:j<i):
 ∃X A Y B Z,l=X++(A++(Y++(B++Z)))∧X.length+i=m∧A.length=j∧B.length=j∧X.length+A.length+Y.length=m∧Rot m (i-j) j (X++(B++(Y++(A++Z)))) t:=by
 obtain⟨P,A,B,S,h1,h2,h3,h4,h5⟩:=h.ex;refine⟨P,A.take j,A.drop j,B,S,?_,h3,by rw[List.length_take];omega,h5,by rw[List.length_take,List.length_drop];omega,⟨P++B,A.drop j,A.take j,S,?_,?_,?_,?_,?_⟩⟩
 ·rw[h1,←List.append_assoc (A.take j),List.take_append_drop]
 ·simp
 ·rw[h2,←List.append_assoc (A.take j),List.take_append_drop];simp
 ·rw[List.length_append];omega
 ·rw[List.length_drop];omega
 ·rw[List.length_take];omega
theorem Rot.less {m i j:Nat} {l t:List α} (h:Rot m i j l t) (hij:i<j):
 ∃X A Y B Z,l=X++(A++(Y++(B++Z)))∧X.length+i=m∧A.length=i∧B.length=i∧X.length+A.length+Y.length=m+j-i∧Rot m i (j-i) (X++(B++(Y++(A++Z)))) t:=by
 obtain⟨P,A,B,S,h1,h2,h3,h4,h5⟩:=h.ex;refine⟨P,A,B.take (j-i),B.drop (j-i),S,?_,h3,h4,by rw[List.length_drop];omega,by rw[List.length_take];omega,⟨P,B.drop (j-i),B.take (j-i),A++S,?_,?_,?_,?_,?_⟩⟩
 ·rw[h1,←List.append_assoc (B.take (j-i)),List.take_append_drop]
 ·simp
 ·rw[h2,←List.append_assoc (B.take (j-i)),List.take_append_drop]
 ·omega
 ·rw[List.length_drop];omega
 ·rw[List.length_take];omega
theorem Rot.last {m i:Nat} {l t:List α} (h:Rot m i i l t):
 ∃X A B Z,l=X++(A++([]++(B++Z)))∧X.length+i=m∧A.length=i∧B.length=i∧t=X++(B++([]++(A++Z))):=by
 obtain⟨P,A,B,S,h1,h2,h3,h4,h5⟩:=h.ex;exact⟨P,A,B,S,h1,h3,h4,h5,h2⟩
theorem zpq {k:α→Int} {l:List α} (h:Srt k l) {i j:Nat} (hij:i≤j) (hj:j<l.length):k (l[i]'(by omega))≤k l[j]:=by
 rcases Nat.lt_or_ge i j with h1|h1
 ·exact List.pairwise_iff_getElem.1 h i j (by omega) hj h1
 ·obtain rfl:i=j:=by omega
  exact Int.le_refl _
theorem zqf {k:α→Int} {A B:List α} (hA:Srt k A) (hB:Srt k B) {s e:Nat} (hs:s≤A.length) (he:e≤B.length) (c1:∀(h1:0<s) (h2:e<B.length),k (A[s-1]'(by omega))≤k B[e])
 (c2:∀(h1:s<A.length) (h2:0<e),k (B[e-1]'(by omega))<k A[s]):mrg k A B=mrg k (A.take s) (B.take e)++mrg k (A.drop s) (B.drop e):=by
 have h:=zjc (k:=k) (A1:=A.take s) (A2:=A.drop s) (B1:=B.take e) (B2:=B.drop e) (by rw[List.take_append_drop];exact hA) (fun x hx y hy=>?_) (fun y hy x hx=>?_)
 ·rwa [List.take_append_drop,List.take_append_drop]at h
 ·obtain⟨i,hi,rfl⟩:=List.mem_iff_getElem.1 hx;obtain⟨j,hj,rfl⟩:=List.mem_iff_getElem.1 hy;rw[List.length_take]at hi;rw[List.length_drop]at hj;rw[List.getElem_take,List.getElem_drop];have h1:=zpq hA (show i≤s-1 by omega) (by omega);have h2:=zpq hB (show e≤e+j by omega) (by omega);have h3:=c1 (by omega) (by omega);omega
 ·obtain⟨i,hi,rfl⟩:=List.mem_iff_getElem.1 hx;obtain⟨j,hj,rfl⟩:=List.mem_iff_getElem.1 hy;rw[List.length_take]at hj;rw[List.length_drop]at hi;rw[List.getElem_take,List.getElem_drop];have h1:=zpq hA (show s≤s+i by omega) (by omega);have h2:=zpq hB (show j≤e-1 by omega) (by omega);have h3:=c2 (by omega) (by omega);omega
end
open Go.RowKit
set_option linter.unusedSimpArgs false
abbrev SO (base g n c:Nat) (w:World) (l:List Vr):Prop:=w.ownsRow base 55 7 (.slice (some ⟨g,0,none⟩) n c) n (vrs l)
theorem zte {X Z:List Vr} (y x:Vr):((((((((vrs (X++y::Z)).set (X.length*7) (.string (bsB x.nm))).set (X.length*7+1) (.int .i64 x.ty)).set (X.length*7+2) (.int .i64 x.sc)).set (X.length*7+3) (.int .i64 x.sg)).set (X.length*7+4) (.bool x.rg)).set (X.length*7+5) (.int .i64 x.mb)).set (X.length*7+6) (.int .i64 x.lb))=vrs (X++x::Z):=by
 have hl:(vrs X).length=X.length*7:=by rw[zta,Nat.mul_comm]
 rw[zs7,zs7,zs9,zs9,←hl];simp only[vrC,List.cons_append,List.nil_append];rw[List.set_append_right _ _ (Nat.le_refl _),Nat.sub_self,List.set_cons_zero];repeat (rw[List.set_append_right _ _ (by omega),Nat.add_sub_cancel_left])
 simp only[List.set_cons_succ,List.set_cons_zero]
theorem SO.put {base g n c:Nat} {w:World} {X Z:List Vr} {y:Vr} (h:SO base g n c w (X++y::Z)) (x:Vr):
 SO base g n c (((((((w.setCell ⟨g,X.length*7,none⟩ (.string (bsB x.nm))).setCell ⟨g,X.length*7+1,none⟩ (.int .i64 x.ty)).setCell ⟨g,X.length*7+2,none⟩ (.int .i64 x.sc)).setCell ⟨g,X.length*7+3,none⟩ (.int .i64 x.sg)).setCell ⟨g,X.length*7+4,none⟩ (.bool x.rg)).setCell ⟨g,X.length*7+5,none⟩ (.int .i64 x.mb)).setCell ⟨g,X.length*7+6,none⟩ (.int .i64 x.lb)) (X++x::Z):=by
 have:=zlE (zlE (zlE (zlE (zlE (zlE (zlE h (X.length*7) (.string (bsB x.nm))) (X.length*7+1) (.int .i64 x.ty)) (X.length*7+2) (.int .i64 x.sc)) (X.length*7+3) (.int .i64 x.sg)) (X.length*7+4) (.bool x.rg)) (X.length*7+5) (.int .i64 x.mb)) (X.length*7+6) (.int .i64 x.lb);rw[zte]at this;exact this
theorem SO.lo {base g n c:Nat} {w:World} {l:List Vr} (h:SO base g n c w l):base≤g∧g<w.heap.size:=h.lt _ rfl
theorem SO.len {base g n c:Nat} {w:World} {l:List Vr} (h:SO base g n c w l):l.length=n:=by
 have:=h.1;rw[zta]at this;omega
theorem SO.cap {base g n c:Nat} {w:World} {l:List Vr} (h:SO base g n c w l):n≤c∧c≤maxLen:=by
 obtain⟨a,cap,hv,h1,h2⟩:=(SlR.of_own h).shape;injection hv with _ _ e;subst e;exact⟨h1,h2⟩
theorem SO.at {base g n c:Nat} {w:World} {X Z:List Vr} {x:Vr} (h:SO base g n c w (X++x::Z)):
 w.cell? ⟨g,X.length*7,none⟩=some (.string (bsB x.nm))∧w.cell? ⟨g,X.length*7+1,none⟩=some (.int .i64 x.ty)∧w.cell? ⟨g,X.length*7+2,none⟩=some (.int .i64 x.sc)∧w.cell? ⟨g,X.length*7+3,none⟩=some (.int .i64 x.sg)∧
  w.cell? ⟨g,X.length*7+4,none⟩=some (.bool x.rg)∧w.cell? ⟨g,X.length*7+5,none⟩=some (.int .i64 x.mb)∧w.cell? ⟨g,X.length*7+6,none⟩=some (.int .i64 x.lb):=by
 have hr:=zlC h;have hl:(vrs X).length=X.length*7:=by rw[zta,Nat.mul_comm]
 have aux:∀(j:Nat) (u:Value),(vrC x)[j]? =some u→w.cell? ⟨g,X.length*7+j,none⟩=some u:=fun j u hu=>hr.cell (j:=X.length*7+j) (by
  rw[zs7,zs9,←hl,List.getElem?_append_right (Nat.le_add_right _ _),Nat.add_sub_cancel_left,List.getElem?_append_left (List.getElem?_eq_some_iff.1 hu).1];exact hu)
 exact⟨aux 0 _ rfl,aux 1 _ rfl,aux 2 _ rfl,aux 3 _ rfl,aux 4 _ rfl,aux 5 _ rfl,aux 6 _ rfl⟩
theorem zlw {w:World} {B e size n:Nat} {g c:Nat} {xs:List Value} (h:w.ownsRow B e size (.slice (some ⟨g,0,none⟩) n c) n xs) (o:Nat):w.frozen? ⟨g,o,none⟩=false:=by
 rcases h.2 with⟨h0,-⟩|⟨g',cap',cur,h0,hbase,hb,hn,hm,hsz,htk⟩
 ·cases h0
 injection h0 with e1 _ e3;injection e1 with e1;injection e1 with e1 _ _;subst e1 e3;simp[World.frozen?,hb]
theorem SO.after {base g n c:Nat} {w w':World} {l:List Vr} (h:SO base g n c w l) (hb:RowKit.Below w.heap.size w w'):SO base g n c w' l:=
 h.kept (row:=none) ⟨hb.os,hb.tape,hb.output,hb.size,fun i hi _=>hb.block i hi⟩ (by simp[Value.ownBlock])
abbrev put7 (w:World) (g o:Nat) (x:Vr):World:=((((((w.setCell ⟨g,o,none⟩ (.string (bsB x.nm))).setCell ⟨g,o+1,none⟩ (.int .i64 x.ty)).setCell ⟨g,o+2,none⟩ (.int .i64 x.sc)).setCell ⟨g,o+3,none⟩ (.int .i64 x.sg)).setCell ⟨g,o+4,none⟩ (.bool x.rg)).setCell ⟨g,o+5,none⟩ (.int .i64 x.mb)).setCell ⟨g,o+6,none⟩ (.int .i64 x.lb)
theorem za9 {base g:Nat} {w v:World} (h:RowKit.Below base w v) (hg:base≤g) (o:Nat) (x:Vr):RowKit.Below base w (put7 v g o x):=
 ((((((h.setCell hg _).setCell hg _).setCell hg _).setCell hg _).setCell hg _).setCell hg _).setCell hg _
theorem SO.swap {base g n c:Nat} {w:World} {X Y Z:List Vr} {x y:Vr} (h:SO base g n c w (X++x::(Y++y::Z))) {p q:Nat} (hp:X.length=p) (hq:X.length+1+Y.length=q):
 SO base g n c (put7 (put7 w g (p*7) y) g (q*7) x) (X++y::(Y++x::Z))∧RowKit.Below base w (put7 (put7 w g (p*7) y) g (q*7) x):=by
 have h1:=h.put y;rw[show X++y::(Y++y::Z)=(X++y::Y)++y::Z by simp]at h1;have h2:=SO.put h1 x;rw[show(X++y::Y)++x::Z=X++y::(Y++x::Z)by simp,List.length_append,List.length_cons,show X.length+(Y.length+1)=q by omega,hp]at h2;exact⟨h2,za9 (za9 (Below.refl _ _) h.lo.1 _ _) h.lo.1 _ _⟩
theorem SO.swap2 {base g n c:Nat} {w:World} {X Y Z:List Vr} {x y:Vr} (h:SO base g n c w (X++x::(Y++y::Z))) {p q:Nat} (hp:X.length=p) (hq:X.length+1+Y.length=q):
 SO base g n c (put7 (put7 w g (q*7) x) g (p*7) y) (X++y::(Y++x::Z))∧RowKit.Below base w (put7 (put7 w g (q*7) x) g (p*7) y):=by
 rw[show X++x::(Y++y::Z)=(X++x::Y)++y::Z by simp]at h;have h1:=SO.put h x;rw[show(X++x::Y)++x::Z=X++x::(Y++x::Z)by simp,List.length_append,List.length_cons,show X.length+(Y.length+1)=q by omega]at h1;have h2:=SO.put h1 y;rw[hp]at h2;exact⟨h2,za9 (za9 (Below.refl _ _) h.lo.1 _ _) h.lo.1 _ _⟩
open Go.RowKit Go.WideMaps
structure KeyEnc (P:Program) (K:TypeId) (κ:Type) where
 vK:κ→Value
 lK:κ→Lit
 dom:κ→Prop
 key:∀x,dom x→WideAt.IsKeyLit (lK x)
 of:∀x,dom x→keyOf P K (vK x)=some (lK x)
 inj:∀x y,dom x→dom y→lK x=lK y→x=y
 law:Maps.Keyed P K
def KMap {P:Program} {K:TypeId} {κ:Type} (E:KeyEnc P K κ) (w:World) (b n:Nat) (f:κ→Option Value):Prop:=
 ∃D:DataW Value,w.ownsMap P K vR b n D∧∀x,E.dom x→Maps.has D (E.lK x)=(f x).isSome∧∀v,f x=some v→∀z,D.atKey (E.lK x) z=.held v
section
variable {P : Program} {K t e : TypeId} {κ : Type} {E : KeyEnc P K κ} {w : World} {b n : Nat} {f : κ → Option Value}
theorem KMap.at (h:KMap E w b n f) (x:κ) (hx:E.dom x):∃D:DataW Value,w.ownsMap P K vR b n D∧Maps.has D (E.lK x)=(f x).isSome∧∀z,D.atKey (E.lK x) (.held z)=.held ((f x).getD z):=by
 obtain⟨D,ho,hf⟩:=h;obtain⟨h1,h2⟩:=hf x hx;refine⟨D,ho,h1,fun z=>?_⟩;cases hs:f x with
 |none=>
  rw[hs]at h1;exact Maps.atKey_of_not_has h1 _
 |some v=>exact h2 v hs _
theorem KMap.look (h:KMap E w b n f) (ht:P.underlying t=some (.map K e)) {z:Value} (hz:(zeroValue e).run P w=.ok z w) (x:κ) (hx:E.dom x):
 (Instr.lookup t (.map (some b)) (E.vK x) true).run P w=.ok (.tuple #[(f x).getD z,.bool (f x).isSome]) w:=by
 obtain⟨D,ho,h1,h2⟩:=h.at x hx;obtain⟨v,ps,hr,hv⟩:=ho.look_ok E.law ht hz (zd:=.held z) (zp:=[]) rfl (E.of x hx);rw[hr,h1];rw[h2 z]at hv;unfold vR at hv;injection hv with hv;injection hv with hv _;injection hv with hv;rw[hv]
theorem KMap.look1 (h:KMap E w b n f) (ht:P.underlying t=some (.map K e)) {z:Value} (hz:(zeroValue e).run P w=.ok z w) (x:κ) (hx:E.dom x):
 (Instr.lookup t (.map (some b)) (E.vK x) false).run P w=.ok ((f x).getD z) w:=by
 obtain⟨D,ho,h1,h2⟩:=h.at x hx;obtain⟨v,ps,hr,hv⟩:=ho.lookup E.law ht hz (zd:=.held z) (zp:=[]) rfl (E.of x hx);rw[hr];rw[h2 z]at hv;unfold vR at hv;injection hv with hv;injection hv with hv _;injection hv with hv;rw[hv]
theorem KMap.put [DecidableEq κ] (h:KMap E w b n f) (ht:P.underlying t=some (.map K e)) (hn:n<maxLen) (x:κ) (hx:E.dom x) (v:Value):
 ∃w',(Instr.mapUpdate t (.map (some b)) (E.vK x) v).run P w=.ok () w'∧KMap E w' b (n+1) (fun y=>if y=x then some v else f y)∧w.grownBy w' (some b):=by
 obtain⟨D,ho,hf⟩:=h;obtain⟨w',hr,ho',hg⟩:=ho.update E.law ht hn (E.of x hx) (val:=v) (d:=.held v) (ps:=[]) rfl;refine⟨w',hr,⟨_,ho',fun y hy=>?_⟩,hg⟩;by_cases hxy:y=x
 ·subst hxy;simp only[if_true];refine⟨Maps.has_put_same ho.isMap (E.key _ hx) _,fun u hu z=>?_⟩;injection hu with hu;subst hu;exact Maps.atKey_put_same ho.isMap (E.key _ hx) _ _
 ·have hne:E.lK y≠E.lK x:=fun h=>hxy (E.inj _ _ hy hx h);simp only[if_neg hxy];exact⟨(Maps.has_put_other hne _).trans (hf y hy).1,fun u hu z=>(Maps.atKey_put_other hne _ _).trans ((hf y hy).2 u hu z)⟩
theorem KMap.made (E:KeyEnc P K κ) (w:World):KMap E (w.alloc (.map #[] 0)) w.heap.size 0 (fun _=>none):=
 ⟨_,World.ownsMap_made w P K vR,fun _ _=>⟨rfl,fun _ h=>by cases h⟩⟩
theorem KMap.ext (h:KMap E w b n f) {g:κ→Option Value} (he:∀s,f s=g s):KMap E w b n g:=by
 rw[show g=f from funext fun s=>(he s).symm];exact h
theorem KMap.lt (h:KMap E w b n f):b<w.heap.size:=by
 obtain⟨D,ho,-⟩:=h;exact ho.lt
theorem KMap.kept {w':World} {row:Option Nat} (h:KMap E w b n f) (hg:w.grownBy w' row) (hne:some b≠row):KMap E w' b n f:=by
 obtain⟨D,ho,hf⟩:=h;exact⟨D,ho.kept hg hne,hf⟩
theorem KMap.same {w':World} (h:KMap E w b n f) (hb:w'.heap[b]? =w.heap[b]?):KMap E w' b n f:=by
 obtain⟨D,⟨es,clock,h1,h2⟩,hf⟩:=h;exact⟨D,⟨es,clock,hb.trans h1,h2⟩,hf⟩
theorem KMap.below {w':World} {B:Nat} (h:KMap E w b n f) (hb:RowKit.Below B w w') (hB:b<B):KMap E w' b n f:=h.same (hb.block b hB)
theorem KMap.setCell {a:Addr} (h:KMap E w b n f) (ha:b≠a.block) (u:Value):KMap E (w.setCell a u) b n f:=by
 obtain⟨D,ho,hf⟩:=h;exact⟨D,ho.setCell ha u,hf⟩
theorem KMap.more {n':Nat} (h:KMap E w b n f) (hn:n≤n'):KMap E w b n' f:=by
 obtain⟨D,ho,hf⟩:=h;exact⟨D,ho.mono hn,hf⟩
theorem KMap.no_cells (h:KMap E w b n f) {C:Array Value} {T:TypeId} {fr:Nat×Nat}:w.heap[b]? ≠some (.cells C T fr):=by
 obtain⟨D,⟨es,clock,h1,-⟩,-⟩:=h;rw[h1];intro h;cases h
theorem KMap.ne_row (h:KMap E w b n f) {B T size m:Nat} {v:Value} {xs:List Value} (ho:w.ownsRow B T size v m xs):some b≠v.ownBlock:=by
 rcases ho with⟨-,⟨rfl,-⟩|⟨g,cap,cur,rfl,-,hg,-⟩⟩
 ·intro h;cases h
 ·intro e;injection e with e;subst e;exact h.no_cells hg
end
theorem ztQ {P:Program} {K:TypeId} {κ:Type} [DecidableEq κ] {E:KeyEnc P K κ} (w:World) {ops:Array Oper} {rest:List Oper} {o:Oper} {a:Act} {Q:Exit→Act→World→Prop}
 (hg:o.guard=none) (m x v:Operand) (t:TypeId) (hop:o.op=Op.mapUpdate t m x v) (e:TypeId) (ht:P.underlying t=some (.map K e)) (b n:Nat) (f:κ→Option Value)
 (hm:a.eval m=.map (some b)) (hown:KMap E w b n f) (hn:n<maxLen) (k:κ) (val:Value) (hx:a.eval x=E.vK k) (hv:a.eval v=val) (hk:E.dom k)
 (hC:∀w',KMap E w' b (n+1) (fun y=>if y=k then some val else f y)→w.grownBy w' (some b)→wpList P ops Q rest (a.put o.dst undef) w'):
 wpList P ops Q (o::rest) a w:=by
 refine wpList_plain hg fun K' hK'=>?_;obtain⟨w',hrun,r1,r2⟩:=hown.put ht hn k hk val;unfold Oper.wp;simp[execOp,hop,hm,hx,hv,hrun,Result.andThen];exact hK' _ _ (hC w' r1 r2)
def zhd {P:Program} {K:TypeId} (hK:P.underlying K=some (.int .i64)):KeyEnc P K Int where
 vK x:=.int .i64 x
 lK x:=.int .i64 x
 dom x:=(Lit.int .i64 x).wf=true
 key _ _:=trivial
 of x hx:=Maps.keyOf_int_mk hK hx
 inj x y _ _ h:=by injection h
 law:=Maps.int_keyed hK
open Go.RowKit Go.Shelf
attribute [local go_sem] Oper.semAt_some
set_option linter.unusedSimpArgs false
def upI (S:List Sc) (i:Int):Nat→Int
 |0=>i
 |k+1=>parS S (upI S i k).toNat
theorem zrF (S:List Sc) (i:Int):∀k,upI S i (k+1)=upI S (parS S i.toNat) k
 |0=>rfl
 |k+1=>by rw[upI,zrF S i k];rfl
theorem zrP {S:List Sc} (hF:Fst (parS S) S.length):∀(f:Nat) (i:Int),i<(f:Int)→ -1≤i→i<(S.length:Int)→
 (∀k,k<(upL S f i).length→0≤upI S i k∧upI S i k<(S.length:Int)∧(upL S f i)[k]? =some (upI S i k).toNat)∧upI S i (upL S f i).length= -1
 |0,i,h1,h2,h3=>⟨fun k hk=>by simp[upL]at hk,by show i= -1;omega⟩
 |f+1,i,h1,h2,h3=>by
  by_cases h0:i<0
  ·have e:upL S (f+1) i=[]:=by rw[upL,if_pos h0]
   rw[e];exact⟨fun k hk=>by simp at hk,by show i= -1;omega⟩
  ·have hn:i.toNat<S.length:=by omega
   have hp:parS S i.toNat=S[i.toNat].2.2:=by simp[parS,List.getD,hn]
   have e:upL S (f+1) i=i.toNat::upL S f (parS S i.toNat):=by
    rw[upL,if_neg h0,List.getElem?_eq_getElem hn,hp]
   have hq:=hF i.toNat hn;obtain⟨h4,h5⟩:=zrP hF f (parS S i.toNat) (by omega) hq.1 (by omega);rw[e];refine⟨fun k hk=>?_,by rw[List.length_cons,zrF];exact h5⟩;cases k with
   |zero=>exact⟨by show 0≤i;omega,h3,rfl⟩
   |succ k=>
    rw[zrF,List.getElem?_cons_succ];exact h4 k (by simpa using hk)
theorem zbV {w:World} {b o:Nat} {u:Value} (h:w.cell? ⟨b,o,none⟩=some u):∃C T fr,w.heap[b]? =some (.cells C T fr)∧C[o]? =some u:=by
 unfold World.cell? at h;cases hb:w.heap[b]? with
 |none=>simp[hb]at h
 |some x=>
  simp only[hb]at h;cases x with
  |cells C T fr=>exact⟨C,T,fr,rfl,by simpa using h⟩
  |_=>simp at h
theorem cell_of {w:World} {b o:Nat} {u:Value} {C:Array Value} {T:TypeId} {fr:Nat×Nat} (h:w.heap[b]? =some (.cells C T fr)) (hu:C[o]? =some u):w.cell? ⟨b,o,none⟩=some u:=by simp[World.cell?,h,hu]
theorem Same0.cell {w W:World} (h:Same0 w W) {b o:Nat} {u:Value} (hc:w.cell? ⟨b,o,none⟩=some u):W.cell? ⟨b,o,none⟩=some u:=by
 obtain⟨C,T,fr,h1,h2⟩:=zbV hc;exact cell_of (h.cells _ _ _ _ h1) h2
theorem SlR.same0 {w W:World} {v:Value} {n:Nat} {xs:List Value} (h:SlR w v n xs) (hs:Same0 w W):SlR W v n xs:=by
 obtain⟨a,cap,hv,h1,h2,h3,h4⟩:=h;refine⟨a,cap,hv,h1,h2,h3,fun hn=>?_⟩;obtain⟨b,o,ha,hc⟩:=h4 hn;exact⟨b,o,ha,fun j u hj=>hs.cell (hc j u hj)⟩
theorem Same0.refl (w:World):Same0 w w:=⟨Nat.le_refl _,fun _ _ _ _ h=>h⟩
theorem Same0.trans {a b c:World} (h:Same0 a b) (k:Same0 b c):Same0 a c:=⟨Nat.le_trans h.size k.size,fun _ _ _ _ hi=>k.cells _ _ _ _ (h.cells _ _ _ _ hi)⟩
theorem Same0.of_below {a b:World} (h:Below a.heap.size a b):Same0 a b:=⟨h.size,fun i _ _ _ hi=>by rw[h.block i (Array.getElem?_eq_some_iff.1 hi).1];exact hi⟩
theorem Same0.turn {w0 W V:World} {B:Nat} {T:TypeId} (h:Same0 w0 W) (hB:w0.heap.size≤B) (ht:TurnI B T W V):Same0 w0 V:=
 ⟨Nat.le_trans h.size ht.size,fun b C T' fr hb=>by rw[ht.low b (by have:=(Array.getElem?_eq_some_iff.1 hb).1;omega)];exact h.cells _ _ _ _ hb⟩
def KpU (N:Nat) (T1 T2:TypeId) (W V:World):Prop:=∀(b:Nat) (C:Array Value) (T:TypeId) (fr:Nat×Nat),(b<N∨(T≠T1∧T≠T2))→W.heap[b]? =some (.cells C T fr)→V.heap[b]? =some (.cells C T fr)
theorem KpU.trans {N:Nat} {T1 T2:TypeId} {A B C:World} (h:KpU N T1 T2 A B) (k:KpU N T1 T2 B C):KpU N T1 T2 A C:=fun b D T fr hT hb=>k b D T fr hT (h b D T fr hT hb)
theorem KpU.same0 {N:Nat} {T1 T2:TypeId} {W V:World} (h:Same0 W V):KpU N T1 T2 W V:=fun b C T fr _ hb=>h.cells b C T fr hb
theorem KpU.below {N:Nat} {T1 T2:TypeId} {W V:World} (h:Below W.heap.size W V):KpU N T1 T2 W V:=KpU.same0 (Same0.of_below h)
theorem KpU.old {w0 W V:World} {T1 T2:TypeId} (h:Same0 w0 W) (k:KpU w0.heap.size T1 T2 W V) (hz:W.heap.size≤V.heap.size):Same0 w0 V:=
 ⟨Nat.le_trans h.size hz,fun b C T fr hb=>k b C T fr (.inl (Array.getElem?_eq_some_iff.1 hb).1) (h.cells _ _ _ _ hb)⟩
attribute [local go_sem] Oper.semAt_some
theorem zgm {W:World} {b:Nat} {x x':Value} {T:TypeId} (h:W.heap[b]? =some (.cells #[x] T (0,0))):(W.setCell ⟨b,0,none⟩ x').heap[b]? =some (.cells #[x'] T (0,0)):=by
 simp[World.setCell,Array.getElem?_modify,h]
theorem zgl {W:World} {b b':Nat} {x':Value} {o:Obj} (hne:b≠b') (h:W.heap[b]? =some o):(W.setCell ⟨b',0,none⟩ x').heap[b]? =some o:=by
 rw[Below.heap_setCell _ _ _ _ hne];exact h
theorem zkV {W:World} {b:Nat} {x:Value} {T:TypeId} (h:W.heap[b]? =some (.cells #[x] T (0,0))):W.cell? ⟨b,0,none⟩=some x∧W.frozen? ⟨b,0,none⟩=false:=⟨by simp[World.cell?,h],by simp[World.frozen?,h]⟩
def upE (L:List Nat) (k:Nat):Array Value:=#[.int .i64 ((L.getD k 0:Nat):Int)]
def ziQ (bi:Nat) (w:World):Nat:=match w.cell? ⟨bi,0,none⟩with
 |some v=>(intOf v+1).toNat
 |none=>0
theorem zrC (n:Nat) (hn:2≤n) (lp bi bs B N:Nat) (T1 T2:TypeId) (hT1:T1≠3∧T1≠27) (hT2:T2≠3∧T2≠27) (S:List Sc) (i0:Int) (v:Value) (w0 W:World) (J:Nat→World→Prop)
 (hF:Fst (parS S) S.length) (hi0: -1≤i0) (hi1:i0<(S.length:Int)) (hNw:N=w0.heap.size) (hB:N≤B) (hBi:B≤bi) (hbs:bs≠bi) (hs:SlR w0 v S.length (scs S)) (h0w:Same0 w0 W)
 (hJ:∀k X Y,J k X→TurnJ B 3 X Y→J k Y)
 (hY:∀k W1,J k W1→k<(upL S (i0.toNat+1) i0).length→YieldAt Fence.wide (n-1) Tryz.prog lp (upE (upL S (i0.toNat+1) i0) k) W1 fun e W'=>e=.returned (.bool true)∧J (k+1) W'∧(KpU N T1 T2 W1 W'∧W1.heap.size≤W'.heap.size))
 (hci:W.heap[bi]? =some (.cells #[.int .i64 i0] 3 (0,0))) (hcs:W.heap[bs]? =some (.cells #[v] 27 (0,0))) (h0:J 0 W):
 CallsIn Fence.wide n Tryz.prog 332 #[.func (.yield lp) #[] #[],.pointer (some ⟨bi,0,none⟩),.pointer (some ⟨bs,0,none⟩)] W fun e W'=>(∃v,e=.returned v)∧J (upL S (i0.toNat+1) i0).length W':=by
 have hro:Fence.wide.round=none:=rfl;obtain⟨hsp,hend⟩:=zrP hF (i0.toNat+1) i0 (by omega) hi0 hi1;have HSP:=lhd hsp;have HEND:=lhd hend;clear hsp hend;generalize upL S (i0.toNat+1) i0=L at*;obtain⟨a,cap,rfl,hcp,hm⟩:=hs.shape;unfold maxLen at hm;have HS:=lhd hs;have HJ:=lhd hJ;have HY:=lhd hY;have HF:=lhd hF;have HCI:=lhd hci;have HCS:=lhd hcs;have H0W:=lhd h0w;have HT:=lhd (And.intro hT1 hT2);have HN:=lhd hNw;have HI:=lhd (And.intro hi0 hi1);clear hs hJ hY hF hci hcs h0w hT1 hT2 hNw hi0 hi1;refine callsIn_of_wp Tryz.func332 rfl trivial ?_ hro;simp only[Tryz.ntmps332,List.size_toArray,List.length_cons,List.length_nil,Nat.reduceAdd,Nat.reduceSub,Array.replicate_succ,Array.replicate_zero,List.push_toArray,List.append_toArray,List.nil_append,List.cons_append];gi_wp2
 gi_loopw [4] (fun _ wr=>∃k:Nat,k≤L.length∧J k wr∧Same0 w0 wr∧wr.heap[bi]? =some (.cells #[.int .i64 (upI S i0 k)] 3 (0,0))∧wr.heap[bs]? =some (.cells #[.slice a S.length cap] 27 (0,0)))
  (fun _ wr=>ziQ bi wr)
 case atStart=>exact⟨0,Nat.zero_le _,h0,H0W.out,HCI.out,HCS.out⟩
 case round=>
  obtain⟨k,hk,hjk,hsa,hbi,hbs2⟩:=hrel;obtain⟨ci,fi⟩:=zkV hbi;obtain⟨cs,fs⟩:=zkV hbs2;have HBI:=lhd hbi;have HBS:=lhd hbs2;have HSA:=lhd hsa;have HJK:=lhd hjk;have hme:ziQ bi wr=(upI S i0 k+1).toNat:=by unfold ziQ;rw[ci];rfl
  have HME:=lhd hme;clear hbi hbs2 hsa hme;by_cases hlt:k<L.length
  ·obtain⟨q0,q1,q2⟩:=HSP.out k hlt;obtain⟨fn,tmps,assign,body,hy,hR⟩:=HY.out k wr hjk hlt;have HR:=lhd hR;have HLD:=lhd (show(L.getD k 0:Nat)=(upI S i0 k).toNat by rw[List.getD,q2];rfl);have HNX:=lhd (show upI S i0 (k+1)=parS S (upI S i0 k).toNat from rfl);obtain⟨m,hm2⟩:=Int.eq_ofNat_of_zero_le q0;rw[hm2]at q1 HNX ci HBI HME HLD;rw[Int.toNat_natCast]at HNX HLD;have hmS:m<S.length:=by omega
   unfold upE at hy;rw[HLD.out]at hy;clear q0 q2 hR hjk hm2 q1;have h1n:1≤n:=by omega
   gi_wp2
   refine HR.out.mono ?_;rintro e W3 ⟨rfl,hj3,hk3,hz3⟩;have HJ3:=lhd hj3;have HSA3:=lhd (show Same0 w0 W3 from KpU.old HSA.out (HN.out▸hk3) hz3);have HBI3:=lhd (hk3 bi _ 3 _ (.inr ⟨fun e=>HT.out.1.1 e.symm,fun e=>HT.out.2.1 e.symm⟩) HBI.out);have HBS3:=lhd (hk3 bs _ 27 _ (.inr ⟨fun e=>HT.out.1.2 e.symm,fun e=>HT.out.2.2 e.symm⟩) HBS.out);clear hj3 hk3 hz3 ci fi cs fs hy;obtain⟨ci,fi⟩:=zkV HBI3.out;obtain⟨cs,fs⟩:=zkV HBS3.out;obtain⟨b,o,rfl,hcell⟩:=(HS.out.same0 HSA3.out).scs hmS;have hps:parS S m=S[m].2.2:=by simp[parS,List.getD,hmS]
   have HQ:=lhd (HF.out m hmS);rw[hps]at HNX HQ;generalize S[m]=x at hcell HNX HQ;obtain⟨nm,ty,pa⟩:=x;dsimp only at HNX HQ;have d2:W3.cell? ⟨b,o+m*3+2,none⟩=some (.int .i64 pa):=hcell 2 _ rfl;clear hcell hps;gi_wp2
   go_roundw;case rel=>exact⟨k+1,hlt,HJ.out _ _ _ HJ3.out (TurnJ.setCell HBI3.out hBi 0 _),HSA3.out.turn (HN.out▸hB) (TurnJ.setCell (T:=3) HBI3.out hBi 0 _).i,by rw[HNX.out];exact zgm HBI3.out,zgl hbs HBS3.out⟩
   case measure=>
    rw[HME.out];have e:((W3.setCell ⟨bi,0,none⟩ (.int .i64 pa)).cell? ⟨bi,0,none⟩)=some (.int .i64 pa):=(zkV (zgm (x':=.int .i64 pa) HBI3.out)).1;unfold ziQ;rw[e];have:=HQ.out;simp[intOf];omega
  ·obtain rfl:k=L.length:=by omega
   have hend:=HEND.out;rw[hend]at ci;clear hend;gi_wp2
   go_end0
   exact⟨⟨_,rfl⟩,HJK.out⟩
attribute [local go_sem] Oper.semAt_some
def strV (s:Bs):Value:=.string (bsB s)
def strs (l:List Bs):List Value:=l.map strV
theorem zpS:(Tryz.prog.info? 9).map (fun i=>(i.zero,i.size,i.bytes))=some (some (.string ⟨#[]⟩),1,16):=by kernel_rfl
theorem zlH {W V:World} {B B' e size n:Nat} {v:Value} {xs:List Value} {T:TypeId} (h:W.ownsRow B e size v n xs) (ht:TurnI B' T W V) (hne:e≠T):V.ownsRow B e size v n xs:=by
 obtain⟨h1,h2⟩:=h;refine⟨h1,?_⟩;rcases h2 with h2|⟨g,cap,cur,e0,hb,hg,hr⟩
 ·exact .inl h2
 ·exact .inr ⟨g,cap,cur,e0,hb,ht.cells _ _ _ _ hne hg,hr⟩
theorem zlD {W V:World} {B e size n:Nat} {v:Value} {xs:List Value} (h:W.ownsRow B e size v n xs) (ht:Same0 W V):V.ownsRow B e size v n xs:=by
 obtain⟨h1,h2⟩:=h;refine⟨h1,?_⟩;rcases h2 with h2|⟨g,cap,cur,e0,hb,hg,hr⟩
 ·exact .inl h2
 ·exact .inr ⟨g,cap,cur,e0,hb,ht.cells _ _ _ _ hg,hr⟩
theorem zbb {B:Nat} {w W V:World} {T:TypeId} (h:Below B w W) (ht:TurnI B T W V):Below B w V:=
 ⟨ht.os.trans h.os,ht.tape.trans h.tape,ht.output.trans h.output,Nat.le_trans h.size ht.size,fun b hb=>(ht.low b hb).trans (h.block b hb)⟩
structure PtI (w:World) (v:Value) (nms:List Bs) (vo:Value) (W:World):Prop where
 bs:W.heap[w.heap.size]? =some (.cells #[v] 27 (0,0))
 bo:W.heap[w.heap.size+1]? =some (.cells #[vo] 107 (0,0))
 o:W.ownsRow w.heap.size 9 1 vo nms.length (strs nms)
 b:Below w.heap.size w W
theorem PtI.turn {w W V:World} {v vo:Value} {nms:List Bs} (h:PtI w v nms vo W) (ht:TurnI w.heap.size 3 W V):PtI w v nms vo V:=
 ⟨ht.cells _ _ _ _ (by decide) h.bs,ht.cells _ _ _ _ (by decide) h.bo,zlH h.o ht (by decide),zbb h.b ht⟩
theorem PtI.same {w W V:World} {v vo:Value} {nms:List Bs} (h:PtI w v nms vo W) (hb:Below W.heap.size W V):PtI w v nms vo V:=
 ⟨(Same0.of_below hb).cells _ _ _ _ h.bs,(Same0.of_below hb).cells _ _ _ _ h.bo,zlD h.o (Same0.of_below hb),h.b.trans (hb.mono h.b.size)⟩
def nmS (S:List Sc) (j:Nat):Bs:=(S.getD j ([],0,0)).1
theorem PtI.add {w W W':World} {v vo v':Value} {nms:List Bs} {nm:Bs} (h:PtI w v nms vo W) (ho:W'.ownsRow w.heap.size 9 1 v' (nms.length+1) (strs nms++ [strV nm])) (hg:W.grownBy W' vo.ownBlock):
 PtI w v (nms++ [nm]) v' (W'.setCell ⟨w.heap.size+1,0,none⟩ v')∧W'.cell? ⟨w.heap.size,0,none⟩=some v∧W'.frozen? ⟨w.heap.size+1,0,none⟩=false∧W'.cell? ⟨w.heap.size+1,0,none⟩=some vo∧
  KpU w.heap.size 9 107 W (W'.setCell ⟨w.heap.size+1,0,none⟩ v')∧W.heap.size≤(W'.setCell ⟨w.heap.size+1,0,none⟩ v').heap.size∧KeepsOthers W (W'.setCell ⟨w.heap.size+1,0,none⟩ v'):=by
 have hne:∀(i:Nat) (D:Array Value) (T:TypeId) (fr:Nat×Nat),W.heap[i]? =some (.cells D T fr)→T≠9→W'.heap[i]? =some (.cells D T fr):=by
  intro i D T fr hi hT
  rw[hg.block i (Array.getElem?_eq_some_iff.1 hi).1 (fun q=>by
   rcases h.o.2 with⟨rfl,-⟩|⟨g',cap',cur,rfl,-,hgb,-⟩
   ·cases q
   ·injection q with q;subst q;rw[hgb]at hi;injection hi with hi;injection hi with _ h5 _;exact hT h5.symm)]
  exact hi
 have h1:=hne _ _ _ _ h.bs (by decide);have h2:=hne _ _ _ _ h.bo (by decide);obtain⟨c1,f1⟩:=zkV h1;obtain⟨c2,f2⟩:=zkV h2;have hb:Below w.heap.size w W':=h.b.grown hg (h.b.size) (fun k hk=>(h.o.lt _ hk).1);refine⟨⟨zgl (by omega) h1,zgm h2,?_,hb.setCell (p:=⟨w.heap.size+1,0,none⟩) (by show w.heap.size≤w.heap.size+1;omega) _⟩,c1,f2,c2,?_,?_,?_⟩
 ·rw[List.length_append,List.length_singleton];have e:strs (nms++ [nm])=strs nms++ [strV nm]:=by simp[strs]
  rw[e];refine ownsRow_setCell_other (a:=⟨w.heap.size+1,0,none⟩) ho (fun q=>?_) _;rcases ho.2 with⟨rfl,-⟩|⟨g',cap',cur,rfl,-,hgb,-⟩
  ·cases q
  ·injection q with q;subst q;rw[hgb]at h2;injection h2 with h2;injection h2 with _ h5 _;exact absurd h5 (by decide)
 ·intro b C T fr hT hb';rcases hT with hT|⟨hT1,hT2⟩
  ·have e1:W'.heap[b]? =W.heap[b]? :=hg.block b (Array.getElem?_eq_some_iff.1 hb').1 (fun q=>by have:=(h.o.lt _ q.symm).1;omega);exact zgl (by omega) (e1.trans hb')
  ·have h3:=hne _ _ _ _ hb' hT1;refine zgl ?_ h3;rintro rfl;rw[h2]at h3;injection h3 with h3;injection h3 with _ h5 _;exact hT2 h5.symm
 ·have:=hg.size;simpa using this
 ·refine(KeepsOthers.of_grownBy hg fun j o ej hj=>?_).trans (KeepsOthers.setCell _ _ _);rcases h.o.2 with⟨rfl,_⟩|⟨g,cap,cur,rfl,_,hgb,_⟩
  ·simp[Value.ownBlock]at ej
  ·obtain rfl:g=j:=by simpa[Value.ownBlock] using ej
   rw[hgb]at hj;cases hj;rfl
def zao (w:World) (v:Value) (S:List Sc) (L:List Nat) (k:Nat) (W:World):Prop:=∃vo,PtI w v ((L.take k).map (nmS S)) vo W
open Go.RowKit
section
variable {P : Program} {ops : Array Oper} {Q : Exit → Act → World → Prop} {md : Region.Mode} {S : World → Prop} {X : Nat → Bool}
def ztG (P:Program) (md:Region.Mode) (ops:Array Oper) (Q:Exit→Act→World→Prop) (S:World→Prop) (X:Nat→Bool):Nat→Array Bool→Act→World→Prop
 |0,listed,a,w=>Region.ready md ops listed=[]∧Q .normal a w
 |fuel+1,listed,a,w=>(Region.ready md ops listed=[]→Q .normal a w)∧
  ∀i∈Region.ready md ops listed,wpOp P ops Q i (fun a' w'=>(X i=false→S w')∧ztG P md ops Q S X fuel (listed.setIfInBounds i true) a' w') a w
theorem ztN:∀(fuel:Nat) (listed:Array Bool) (a:Act) (w:World),ztG P md ops Q S X fuel listed a w→wpAny P md ops Q fuel listed a w
 |0,_,_,_,h=>h
 |fuel+1,_,_,_,h=>⟨h.1,fun i hi=>wpOp_mono (fun a' w' h'=>ztN fuel _ a' w' h'.2) (h.2 i hi)⟩
def zik (md:Region.Mode) (ops:Array Oper) (X:Nat→Bool) (i:Nat):Bool:=(List.range ops.size).all fun j=>!X j||match ops[j]? with
 |some oj=>oj.after.any (fun e=>Region.binds md e&&e.on==i)
 |none=>true
theorem zil {i j:Nat} {oj:Oper} (h:zik md ops X i=true) (hj:ops[j]? =some oj) (hX:X j=true):∃e∈oj.after,Region.binds md e=true∧e.on=i:=by
 unfold zik at h;rw[List.all_eq_true]at h;have h1:=h j (List.mem_range.2 (Array.getElem?_eq_some_iff.1 hj).1);rw[hX,hj]at h1;simp only[Bool.not_true,Bool.false_or]at h1;obtain⟨e,he,hb⟩:=Array.any_eq_true'.1 h1;simp only[Bool.and_eq_true,beq_iff_eq]at hb;exact⟨e,he,hb.1,hb.2⟩
theorem ztI {i:Nat} {oi:Oper} {v:Value} (hi:ops[i]? =some oi) (hsel:∀(j:Nat) (o:Oper) cs b,ops[j]? =some o→o.op≠ .select cs b)
 (hQ:∀c a w,Q (.panic c) (a.put oi.dst v) w→Q (.panic c) a w) (hX:zik md ops X i=true):
 ∀(fuel:Nat) (listed:Array Bool) (a:Act) (w:World),
  (∀j oj,ops[j]? =some oj→j≠i→listed.getD j true=false→(∀e∈oj.after,Region.binds md e=true→e.on≠i)→oi.apart ops oj=true)→
  i∈Region.ready md ops listed→YieldsIf P ops S oi v a→S w→
  ztG P md ops Q S X fuel (listed.setIfInBounds i true) (a.put oi.dst v) w→ztG P md ops Q S X (fuel+1) listed a w:=by
 intro fuel;induction fuel with
 |zero=>
  intro listed a w _ hr hy hS H;refine⟨fun h=>(by rw[h]at hr;cases hr),fun j hj=>?_⟩;by_cases hji:j=i
  ·subst hji;exact hy.wpOp hi hS ⟨fun _=>hS,H⟩
  ·have:=ready_mono hj hji;rw[H.1]at this;cases this
 |succ fuel ih=>
  intro listed a w hfree hr hy hS H;refine⟨fun h=>(by rw[h]at hr;cases hr),fun j hj=>?_⟩;by_cases hji:j=i
  ·subst hji;exact hy.wpOp hi hS ⟨fun _=>hS,H⟩
  ·have h1:=H.2 j (ready_mono hj hji);obtain⟨hjun,oj,hoj,hall⟩:=mem_ready.1 hj
   have hnot:∀e∈oj.after,Region.binds md e=true→e.on≠i:=fun e he hb heq=>by
    have h1:=hall e he hb;have h0:=(mem_ready.1 hr).1;rw[heq]at h1;rcases Nat.lt_or_ge i listed.size with h'|h'
    ·simp[h']at h0 h1;rw[h0]at h1;cases h1
    ·simp[Array.getElem?_eq_none h']at h1
   have hXj:X j=false:=by
    cases hx:X j with
    |false=>rfl
    |true=>
     obtain⟨e,he,hb,heq⟩:=zil hX hoj hx;exact absurd heq (hnot e he hb)
   have h2:=wpOp_putIf hoj (hfree j oj hoj hji hjun hnot) (fun cs b=>hsel i oi cs b hi) (fun cs b=>hsel j oj cs b hoj) hQ hy h1
   have hfree':∀k ok,ops[k]? =some ok→k≠i→(listed.setIfInBounds j true).getD k true=false→
    (∀e∈ok.after,Region.binds md e=true→e.on≠i)→oi.apart ops ok=true:=fun k ok hk hki hun hno=>by
    refine hfree k ok hk hki ?_ hno;by_cases hjk:j=k
    ·subst hjk;exact hjun
    ·rw[getD_set_ne true hjk]at hun;exact hun
   refine wpOp_mono (fun a' w' h3=>⟨fun _=>h3.2.1 hXj,ih (listed.setIfInBounds j true) a' w' hfree' (ready_mono hr (Ne.symm hji)) h3.1 (h3.2.1 hXj) ?_⟩) h2;rw[Array.setIfInBounds_comm _ _ hji];exact h3.2.2
theorem ztM {i:Nat} {oi:Oper} {v:Value} {fuel:Nat} {listed:Array Bool} {a:Act} {w:World} (hi:ops[i]? =some oi)
 (hs:Region.noSelect ops=true) (hf:Region.free md ops listed i=true) (hr:(Region.ready md ops listed).contains i=true) (hX:zik md ops X i=true)
 (hQ:∀c a w,Q (.panic c) (a.put oi.dst v) w→Q (.panic c) a w) (hy:YieldsIf P ops S oi v a) (hS:S w)
 (h:ztG P md ops Q S X fuel (listed.setIfInBounds i true) (a.put oi.dst v) w):ztG P md ops Q S X (fuel+1) listed a w:=
 ztI hi (Region.noSelect_spec hs) hQ hX fuel listed a w (Region.free_spec hi hf) (by simpa using hr) hy hS h
theorem tkX (i:Nat) {oi:Oper} {v:Value} {fuel:Nat} {listed:Array Bool} {a:Act} {w:World} (hS:S w)
 (h:ztG P md ops Q S X fuel (listed.setIfInBounds i true) (a.put oi.dst v) w)
 (hi:ops[i]? =some oi:=by rfl) (hs:Region.noSelect ops=true:=by kernel_rfl) (hf:Region.free md ops listed i=true:=by kernel_rfl) (hr:(Region.ready md ops listed).contains i=true:=by kernel_rfl) (hX:zik md ops X i=true:=by kernel_rfl)
 (hQ:∀c a w,Q (.panic c) (a.put oi.dst v) w→Q (.panic c) a w:=by exact fun _ _ _ h=>h) (hw:Region.wanted oi (yielded ops a.tmps)=true:=by rfl)
 (hy:∀w,S w→(execOp a.eval oi).run P w=.ok (.value v) w:=by intro w h;(try dsimp only at h);go_simp;all_goals with_reducible rfl):
 ztG P md ops Q S X (fuel+1) listed a w:=ztM hi hs hf hr hX hQ (Or.inl ⟨hw,hy⟩) hS h
theorem ztL {i:Nat} {o:Oper} {fuel:Nat} {listed:Array Bool} {a:Act} {w:World} (hr:Region.ready md ops listed=[i]) (ho:ops[i]? =some o)
 (h:∀K':Act→World→Prop,Shut (∀a w,(X i=false→S w)→ztG P md ops Q S X fuel (listed.setIfInBounds i true) a w→K' a w)→if Region.wanted o (yielded ops a.tmps)=true then Oper.wp P o a w K' Q else K' (a.put o.dst undef) w):
 ztG P md ops Q S X (fuel+1) listed a w:=by
 refine⟨fun h0=>(by rw[hr]at h0;cases h0),fun j hj=>?_⟩;rw[hr,List.mem_singleton]at hj;subst hj;exact wpOp_step ho (fun K' hK=>h K' (fun a w hS hW=>hK a w ⟨hS,hW⟩))
theorem ztH {listed:Array Bool} {a:Act} {w:World} (hr:Region.ready md ops listed=[]) (h:Q .normal a w):∀fuel,ztG P md ops Q S X fuel listed a w
 |0=>⟨hr,h⟩
 |fuel+1=>⟨fun _=>h,fun i hi=>by rw[hr]at hi;cases hi⟩
theorem ztT {id:Nat} {a:Act} {w:World} (hm:P.follows .mixedOrders=true)
 (h:ztG P .any ops Q S X ops.size (Array.replicate ops.size false) a w.drew):(Code.region id ops true).wp P Q a w:=
 wp_region_any hm (ztN _ _ _ _ h)
end
end Go.Proofs.YtfppgpamkdkckaaGreatDoor
