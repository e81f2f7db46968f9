import Derived.Test.YtbiadennhnokhaaGreatDoorZ13
set_option maxRecDepth 100000
set_option maxHeartbeats 16000000
namespace Go.Proofs.YtbiadennhnokhaaGreatDoor
open Go.RowKit
theorem all_takeWhile {α:Type} (p:α→Bool):∀(l:List α) (x:α),x∈l.take (l.takeWhile p).length→p x=true
 | [],x,h=>by simp at h
 |a::l,x,h=>by
  by_cases ha:p a=true
  ·rw[List.takeWhile_cons_of_pos ha,List.length_cons,List.take_succ_cons]at h;rcases List.mem_cons.1 h with h|h
   ·rw[h];exact ha
   ·exact all_takeWhile p l x h
  ·rw[List.takeWhile_cons_of_neg ha]at h;simp at h
end Go.Proofs.YtbiadennhnokhaaGreatDoor
