import Derived.Test.YtcdekelomkcahaaGreatDoorZ09
set_option maxRecDepth 100000
set_option maxHeartbeats 16000000
namespace Go.Proofs.YtcdekelomkcahaaGreatDoor
open Go.RowKit
def subL (s:ByteArray) (k n:Nat):List UInt8:=(s.data.toList.drop k).take n
def zmJ (s:ByteArray):Bool×Nat:=if ziC [45] s 0=true then(true,1)else(false,if ziC [43] s 0=true then 1 else 0)
def zem (s:ByteArray) (k:Nat) (ds:List UInt8):Option (List UInt8×Int×Nat):=
 if ziC [46] s k=true then(if zdc s (k+1)=0 then none else some (ds++subL s (k+1) (zdc s (k+1)),-(zdc s (k+1):Int),k+1+zdc s (k+1)))else some (ds,0,k)
def zd2 (l:List UInt8):Int:=l.foldl (fun e c=>min 1048576 (10*e+((c.toNat:Int)-48))) 0
def zd1 (s:ByteArray) (k:Nat):Bool×Nat:=if ziC [45] s k=true then(true,k+1)else(false,if ziC [43] s k=true then k+1 else k)
def expS (s:ByteArray) (k:Nat):Option (Int×Nat):=
 if ziC [101,69] s k=true then
  (let p:=zd1 s (k+1)
   if zdc s p.2=0 then none else some ((if p.1=true then-(zd2 (subL s p.2 (zdc s p.2)))else zd2 (subL s p.2 (zdc s p.2))),p.2+zdc s p.2))
 else some (0,k)
def zl0 (s:ByteArray):Option Num:=
 if 64<s.size then none else
 let p:=zmJ s
 let n:=zdc s p.2
 if n=0 then none else
 match zem s (p.2+n) (subL s p.2 n)with
 |none=>none
 |some (ds,ex,k)=>
  match expS s k with
  |none=>none
  |some (e,k')=>if k'=s.size then some (zik (p.1,ds,ex+e))else none
end Go.Proofs.YtcdekelomkcahaaGreatDoor
