import Derived.Test.YtlbcfmhpkcpmaaaGreatDoorRefF
namespace Go.Proofs.YtlbcfmhpkcpmaaaGreatDoor
open Go.RowKit

def refExp (l : List UInt8) : Int := l.foldl (fun e c => min (10 * e + ((c.toNat : Int) - 48)) 100000) 0
theorem refExp_snoc (l : List UInt8) (c : UInt8) : refExp (l ++ [c]) = min (10 * refExp l + ((c.toNat : Int) - 48)) 100000 := by simp [refExp, List.foldl_append]
def expS' (s : ByteArray) (k : Nat) : Option (Int × Nat) :=
  if oneHit [101, 69] s k = true then
    (let p := expAt s (k + 1)
     if digRun s p.2 = 0 then none else some ((if p.1 = true then -(refExp (subL s p.2 (digRun s p.2))) else refExp (subL s p.2 (digRun s p.2))), p.2 + digRun s p.2))
  else some (0, k)
/-- wavestoreref03.Read -/
def readS (s : ByteArray) : Option (Bool × List UInt8 × Int) :=
  if 64 < s.size then none else
  let p := signS s
  let n := digRun s p.2
  if n = 0 then none else
  match fracS s (p.2 + n) (subL s p.2 n) with
  | none => none
  | some (ds, _, k) =>
    match expS' s k with
    | none => none
    | some (e, k') => if k' = s.size then some (p.1, ds, (n : Int) - 1 + e) else none
end Go.Proofs.YtlbcfmhpkcpmaaaGreatDoor
