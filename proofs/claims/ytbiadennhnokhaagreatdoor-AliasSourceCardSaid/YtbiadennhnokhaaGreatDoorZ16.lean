import Derived.Test.YtbiadennhnokhaaGreatDoorZ13
set_option maxRecDepth 100000
set_option maxHeartbeats 16000000
namespace Go.Proofs.YtbiadennhnokhaaGreatDoor
open Go.RowKit
def zav (s:ByteArray) (w:World) (e:Ending) (w':World):Prop:=
 ∃(neg:Bool) (ds:ByteArray) (ex:Int) (ok:Bool),e=.returned (.tuple #[.agg #[.bool neg,.string ds,.int .i64 ex],.bool ok])∧zlo s=(if ok=true then some (neg,ds.data.toList,ex)else none)∧
  (ok=true→ds.size≤1000∧ -1000000≤ex∧ex≤1000000)∧Below w.heap.size w w'
theorem zav.no {s:ByteArray} {w w':World} (h:zlo s=none) (hb:Below w.heap.size w w'):zav s w (.returned (.tuple #[.agg #[.bool false,.string ⟨#[]⟩,.int .i64 0],.bool false])) w':=
 ⟨_,_,_,_,rfl,by simp[h],(fun h=>(by cases h)),hb⟩
theorem zbA {B:Nat} {a w:World} (h:Below B a w) (n:Nat):Below B a (w.drewN n):=⟨h.os,h.tape,h.output,h.size,h.block⟩
structure RdSt (w wr:World) (neg:Bool) (s:ByteArray) (ex:Int):Prop where
 p:zas wr (w.heap.size+1) [.bool neg,.string s,.int .i64 ex]
 r:zas wr w.heap.size [.bool false,.string ⟨#[]⟩,.int .i64 0]
 b:Below w.heap.size w wr
theorem RdSt.drew {w wr:World} {neg:Bool} {s:ByteArray} {ex:Int} (h:RdSt w wr neg s ex):RdSt w wr.drew neg s ex:=⟨h.p,h.r,h.b.drew⟩
theorem RdSt.drewN {w wr:World} {neg:Bool} {s:ByteArray} {ex:Int} (h:RdSt w wr neg s ex) (n:Nat):RdSt w (wr.drewN n) neg s ex:=⟨h.p,h.r,zbA h.b n⟩
theorem RdSt.res {w wr:World} {neg:Bool} {s:ByteArray} {ex:Int} (h:RdSt w wr neg s ex) (a b c:Value):
 ((((wr.setCell ⟨w.heap.size,0,none⟩ a).setCell ⟨w.heap.size,1,none⟩ b).setCell ⟨w.heap.size,2,none⟩ c).cell? ⟨w.heap.size,0,none⟩=some a∧(((wr.setCell ⟨w.heap.size,0,none⟩ a).setCell ⟨w.heap.size,1,none⟩ b).setCell ⟨w.heap.size,2,none⟩ c).cell? ⟨w.heap.size,1,none⟩=some b∧(((wr.setCell ⟨w.heap.size,0,none⟩ a).setCell ⟨w.heap.size,1,none⟩ b).setCell ⟨w.heap.size,2,none⟩ c).cell? ⟨w.heap.size,2,none⟩=some c)∧
  Below w.heap.size w (((wr.setCell ⟨w.heap.size,0,none⟩ a).setCell ⟨w.heap.size,1,none⟩ b).setCell ⟨w.heap.size,2,none⟩ c):=
 ⟨set3 (h.r.cell (j:=0) rfl) (h.r.cell (j:=1) rfl) (h.r.cell (j:=2) rfl) a b c,zbx h.b a b c⟩
theorem RdSt.facts {w wr:World} {neg:Bool} {s:ByteArray} {ex:Int} (h:RdSt w wr neg s ex):
 (wr.cell? ⟨w.heap.size+1,0,none⟩=some (.bool neg)∧wr.cell? ⟨w.heap.size+1,1,none⟩=some (.string s)∧wr.cell? ⟨w.heap.size+1,2,none⟩=some (.int .i64 ex))∧
 (wr.frozen? ⟨w.heap.size+1,0,none⟩=false∧wr.frozen? ⟨w.heap.size+1,1,none⟩=false∧wr.frozen? ⟨w.heap.size+1,2,none⟩=false)∧
 (wr.cell? ⟨w.heap.size,0,none⟩=some (.bool false)∧wr.cell? ⟨w.heap.size,1,none⟩=some (.string ⟨#[]⟩)∧wr.cell? ⟨w.heap.size,2,none⟩=some (.int .i64 0))∧
 (wr.frozen? ⟨w.heap.size,0,none⟩=false∧wr.frozen? ⟨w.heap.size,1,none⟩=false∧wr.frozen? ⟨w.heap.size,2,none⟩=false):=
 ⟨⟨h.p.cell (j:=0) rfl,h.p.cell (j:=1) rfl,h.p.cell (j:=2) rfl⟩,⟨h.p.free (j:=0) (by simp),h.p.free (j:=1) (by simp),h.p.free (j:=2) (by simp)⟩,
  ⟨h.r.cell (j:=0) rfl,h.r.cell (j:=1) rfl,h.r.cell (j:=2) rfl⟩,⟨h.r.free (j:=0) (by simp),h.r.free (j:=1) (by simp),h.r.free (j:=2) (by simp)⟩⟩
theorem zav.mk {s:ByteArray} {w w':World} {neg:Bool} {ds:ByteArray} {ex:Int} {k:Nat} (h:zlo s=if k=s.size then some (neg,ds.data.toList,ex)else none) (h1:ds.size≤1000) (h2: -1000000≤ex) (h3:ex≤1000000)
 (hb:Below w.heap.size w w'):zav s w (.returned (.tuple #[.agg #[.bool neg,.string ds,.int .i64 ex],.bool ((k:Int)==(s.size:Int))])) w':=by
 refine⟨_,_,_,_,rfl,?_,fun _=>⟨h1,h2,h3⟩,hb⟩;rw[h];by_cases hk:k=s.size
 ·rw[if_pos hk,if_pos (by simp[hk])]
 ·rw[if_neg hk,if_neg (by simp;omega)]
end Go.Proofs.YtbiadennhnokhaaGreatDoor
