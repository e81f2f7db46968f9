import Derived.Test.YtcdekelomkcahaaGreatDoorZ00
import Derived.Test.YtcdekelomkcahaaGreatDoorZ01
set_option maxRecDepth 100000
set_option maxHeartbeats 16000000
namespace Go.Proofs.YtcdekelomkcahaaGreatDoor
open Go.RowKit
def subL (s:ByteArray) (k n:Nat):List UInt8:=(s.data.toList.drop k).take n
def zmJ (s:ByteArray):Bool×Nat:=if ziC [45] s 0=true then(true,1)else(false,if ziC [43] s 0=true then 1 else 0)
def zem (s:ByteArray) (k:Nat) (ds:List UInt8):Option (List UInt8×Int×Nat):=
 if ziC [46] s k=true then(if zdc s (k+1)=0 then none else some (ds++subL s (k+1) (zdc s (k+1)),-(zdc s (k+1):Int),k+1+zdc s (k+1)))else some (ds,0,k)
def zd2 (l:List UInt8):Int:=l.foldl (fun e c=>min 1048576 (10*e+((c.toNat:Int)-48))) 0
def zd1 (s:ByteArray) (k:Nat):Bool×Nat:=if ziC [45] s k=true then(true,k+1)else(false,if ziC [43] s k=true then k+1 else k)
def expS (s:ByteArray) (k:Nat):Option (Int×Nat):=
 if ziC [101,69] s k=true then
  (let p:=zd1 s (k+1)
   if zdc s p.2=0 then none else some ((if p.1=true then-(zd2 (subL s p.2 (zdc s p.2)))else zd2 (subL s p.2 (zdc s p.2))),p.2+zdc s p.2))
 else some (0,k)
def zl0 (s:ByteArray):Option Num:=
 if 64<s.size then none else
 let p:=zmJ s
 let n:=zdc s p.2
 if n=0 then none else
 match zem s (p.2+n) (subL s p.2 n)with
 |none=>none
 |some (ds,ex,k)=>
  match expS s k with
  |none=>none
  |some (e,k')=>if k'=s.size then some (zik (p.1,ds,ex+e))else none
theorem zoz (n:Int) (w:World) (h1:n<1):
 Calls Tryz.prog 119 #[.int .i64 0,.int .i64 n] w (zao kd0 false w):=by
 have hd:decide (1≤n)=false:=by simp;omega
 go_enter Tryz.func119,Tryz.ntmps119;go_wp2_with fail;refine(zov _).mono ?_;rintro e w1 ⟨B,rfl,hB,hK,hc,hb⟩;have f:=fun i=>(boxN hb i).2;have f0:=f 0;have f1:=f 1;have f2:=f 2;have f3:=f 3;have f4:=f 4;have f5:=f 5;have f6:=f 6;have g0:w1.cell? ⟨w.heap.size,0,none⟩=some (.int .i64 0):=(boxN hb 0).1;have g1:w1.cell? ⟨w.heap.size,1,none⟩=some (.int .i64 0):=(boxN hb 1).1;have g2:w1.cell? ⟨w.heap.size,2,none⟩=some (.nilFunc):=(boxN hb 2).1;have g3:w1.cell? ⟨w.heap.size,3,none⟩=some (.nilFunc):=(boxN hb 3).1;have g4:w1.cell? ⟨w.heap.size,4,none⟩=some (.nilFunc):=(boxN hb 4).1;have g5:w1.cell? ⟨w.heap.size,5,none⟩=some (.nilFunc):=(boxN hb 5).1;have g6:w1.cell? ⟨w.heap.size,6,none⟩=some (.string ⟨#[]⟩):=(boxN hb 6).1;have c0:w1.cell? ⟨B+1+1+1,0,none⟩=some (.int .i64 1):=hc 0;have c1:w1.cell? ⟨B+1+1+1,1,none⟩=some (.int .i64 128):=hc 1;have c2:w1.cell? ⟨B+1+1+1,2,none⟩=some (.func (.func 181) #[] #[]):=hc 2;have c3:w1.cell? ⟨B+1+1+1,3,none⟩=some (.func (.func 182) #[] #[]):=hc 3;have c4:w1.cell? ⟨B+1+1+1,4,none⟩=some (.func (.func 184) #[] #[]):=hc 4;have c5:w1.cell? ⟨B+1+1+1,5,none⟩=some (.func (.func 185) #[] #[]):=hc 5;have c6:w1.cell? ⟨B+1+1+1,6,none⟩=some (.string ⟨#[98]⟩):=hc 6;have HB:=lhd (zd3 hb);have HK:=lhd hK;have hBl:w.heap.size<B:=by simp at hB;omega
 have hBn:B+1+1+1≠w.heap.size:=by simp at hB;omega
 have hBn':w.heap.size≠B+1+1+1:=by simp at hB;omega
 clear hc f hb hK;go_wp2_with fail;go_region
 go_wp2_with fail;refine bodyPost_ret (v:=.tuple #[.agg (kd0 B),.bool false]) (by simp[results,Tryz.results119,go_sem,g0,g1,g2,g3,g4,g5,g6,kd0]) rfl (zao.mk (ziw (zix hBl (zix hBl (zix hBl (zix hBl (zix hBl (zix hBl (zix hBl ⟨HK.out,HB.out⟩ _ _) _ _) _ _) _ _) _ _) _ _) _ _)))
theorem zoC (n:Int) (w:World) (h1:n<0):
 Calls Tryz.prog 119 #[.int .i64 1,.int .i64 n] w (zao kd1 false w):=by
 have hd:decide (0≤n)=false:=by simp;omega
 go_enter Tryz.func119,Tryz.ntmps119;go_wp2_with fail;refine(zov _).mono ?_;rintro e w1 ⟨B,rfl,hB,hK,hc,hb⟩;have f:=fun i=>(boxN hb i).2;have f0:=f 0;have f1:=f 1;have f2:=f 2;have f3:=f 3;have f4:=f 4;have f5:=f 5;have f6:=f 6;have g0:w1.cell? ⟨w.heap.size,0,none⟩=some (.int .i64 0):=(boxN hb 0).1;have g1:w1.cell? ⟨w.heap.size,1,none⟩=some (.int .i64 0):=(boxN hb 1).1;have g2:w1.cell? ⟨w.heap.size,2,none⟩=some (.nilFunc):=(boxN hb 2).1;have g3:w1.cell? ⟨w.heap.size,3,none⟩=some (.nilFunc):=(boxN hb 3).1;have g4:w1.cell? ⟨w.heap.size,4,none⟩=some (.nilFunc):=(boxN hb 4).1;have g5:w1.cell? ⟨w.heap.size,5,none⟩=some (.nilFunc):=(boxN hb 5).1;have g6:w1.cell? ⟨w.heap.size,6,none⟩=some (.string ⟨#[]⟩):=(boxN hb 6).1;have c0:w1.cell? ⟨B+1+1+1,7,none⟩=some (.int .i64 0):=hc 7;have c1:w1.cell? ⟨B+1+1+1,8,none⟩=some (.int .i64 0):=hc 8;have c2:w1.cell? ⟨B+1+1+1,9,none⟩=some (.func (.func 186) #[] #[]):=hc 9;have c3:w1.cell? ⟨B+1+1+1,10,none⟩=some (.func (.func 224) #[] #[.pointer (some ⟨B,0,none⟩)]):=hc 10;have c4:w1.cell? ⟨B+1+1+1,11,none⟩=some (.func (.func 189) #[] #[]):=hc 11;have c5:w1.cell? ⟨B+1+1+1,12,none⟩=some (.func (.func 191) #[] #[]):=hc 12;have c6:w1.cell? ⟨B+1+1+1,13,none⟩=some (.string ⟨#[114]⟩):=hc 13;have HB:=lhd (zd3 hb);have HK:=lhd hK;have hBl:w.heap.size<B:=by simp at hB;omega
 have hBn:B+1+1+1≠w.heap.size:=by simp at hB;omega
 have hBn':w.heap.size≠B+1+1+1:=by simp at hB;omega
 clear hc f hb hK;go_wp2_with fail;go_region
 go_wp2_with fail;refine bodyPost_ret (v:=.tuple #[.agg (kd1 B),.bool false]) (by simp[results,Tryz.results119,go_sem,g0,g1,g2,g3,g4,g5,g6,kd1]) rfl (zao.mk (ziw (zix hBl (zix hBl (zix hBl (zix hBl (zix hBl (zix hBl (zix hBl ⟨HK.out,HB.out⟩ _ _) _ _) _ _) _ _) _ _) _ _) _ _)))
theorem zoF (n:Int) (w:World) (h1:n<0):
 Calls Tryz.prog 119 #[.int .i64 2,.int .i64 n] w (zao kd2 false w):=by
 have hd:decide (0≤n)=false:=by simp;omega
 go_enter Tryz.func119,Tryz.ntmps119;go_wp2_with fail;refine(zov _).mono ?_;rintro e w1 ⟨B,rfl,hB,hK,hc,hb⟩;have f:=fun i=>(boxN hb i).2;have f0:=f 0;have f1:=f 1;have f2:=f 2;have f3:=f 3;have f4:=f 4;have f5:=f 5;have f6:=f 6;have g0:w1.cell? ⟨w.heap.size,0,none⟩=some (.int .i64 0):=(boxN hb 0).1;have g1:w1.cell? ⟨w.heap.size,1,none⟩=some (.int .i64 0):=(boxN hb 1).1;have g2:w1.cell? ⟨w.heap.size,2,none⟩=some (.nilFunc):=(boxN hb 2).1;have g3:w1.cell? ⟨w.heap.size,3,none⟩=some (.nilFunc):=(boxN hb 3).1;have g4:w1.cell? ⟨w.heap.size,4,none⟩=some (.nilFunc):=(boxN hb 4).1;have g5:w1.cell? ⟨w.heap.size,5,none⟩=some (.nilFunc):=(boxN hb 5).1;have g6:w1.cell? ⟨w.heap.size,6,none⟩=some (.string ⟨#[]⟩):=(boxN hb 6).1;have c0:w1.cell? ⟨B+1+1+1,14,none⟩=some (.int .i64 0):=hc 14;have c1:w1.cell? ⟨B+1+1+1,15,none⟩=some (.int .i64 0):=hc 15;have c2:w1.cell? ⟨B+1+1+1,16,none⟩=some (.func (.func 192) #[] #[]):=hc 16;have c3:w1.cell? ⟨B+1+1+1,17,none⟩=some (.func (.func 224) #[] #[.pointer (some ⟨B+1,0,none⟩)]):=hc 17;have c4:w1.cell? ⟨B+1+1+1,18,none⟩=some (.func (.func 193) #[] #[]):=hc 18;have c5:w1.cell? ⟨B+1+1+1,19,none⟩=some (.func (.func 195) #[] #[]):=hc 19;have c6:w1.cell? ⟨B+1+1+1,20,none⟩=some (.string ⟨#[115]⟩):=hc 20;have HB:=lhd (zd3 hb);have HK:=lhd hK;have hBl:w.heap.size<B:=by simp at hB;omega
 have hBn:B+1+1+1≠w.heap.size:=by simp at hB;omega
 have hBn':w.heap.size≠B+1+1+1:=by simp at hB;omega
 clear hc f hb hK;go_wp2_with fail;go_region
 go_wp2_with fail;refine bodyPost_ret (v:=.tuple #[.agg (kd2 B),.bool false]) (by simp[results,Tryz.results119,go_sem,g0,g1,g2,g3,g4,g5,g6,kd2]) rfl (zao.mk (ziw (zix hBl (zix hBl (zix hBl (zix hBl (zix hBl (zix hBl (zix hBl ⟨HK.out,HB.out⟩ _ _) _ _) _ _) _ _) _ _) _ _) _ _)))
theorem zoI (n:Int) (w:World) (h1:n<0):
 Calls Tryz.prog 119 #[.int .i64 3,.int .i64 n] w (zao kd3 false w):=by
 have hd:decide (0≤n)=false:=by simp;omega
 go_enter Tryz.func119,Tryz.ntmps119;go_wp2_with fail;refine(zov _).mono ?_;rintro e w1 ⟨B,rfl,hB,hK,hc,hb⟩;have f:=fun i=>(boxN hb i).2;have f0:=f 0;have f1:=f 1;have f2:=f 2;have f3:=f 3;have f4:=f 4;have f5:=f 5;have f6:=f 6;have g0:w1.cell? ⟨w.heap.size,0,none⟩=some (.int .i64 0):=(boxN hb 0).1;have g1:w1.cell? ⟨w.heap.size,1,none⟩=some (.int .i64 0):=(boxN hb 1).1;have g2:w1.cell? ⟨w.heap.size,2,none⟩=some (.nilFunc):=(boxN hb 2).1;have g3:w1.cell? ⟨w.heap.size,3,none⟩=some (.nilFunc):=(boxN hb 3).1;have g4:w1.cell? ⟨w.heap.size,4,none⟩=some (.nilFunc):=(boxN hb 4).1;have g5:w1.cell? ⟨w.heap.size,5,none⟩=some (.nilFunc):=(boxN hb 5).1;have g6:w1.cell? ⟨w.heap.size,6,none⟩=some (.string ⟨#[]⟩):=(boxN hb 6).1;have c0:w1.cell? ⟨B+1+1+1,21,none⟩=some (.int .i64 0):=hc 21;have c1:w1.cell? ⟨B+1+1+1,22,none⟩=some (.int .i64 0):=hc 22;have c2:w1.cell? ⟨B+1+1+1,23,none⟩=some (.func (.func 196) #[] #[]):=hc 23;have c3:w1.cell? ⟨B+1+1+1,24,none⟩=some (.func (.func 224) #[] #[.pointer (some ⟨B+1+1,0,none⟩)]):=hc 24;have c4:w1.cell? ⟨B+1+1+1,25,none⟩=some (.func (.func 197) #[] #[]):=hc 25;have c5:w1.cell? ⟨B+1+1+1,26,none⟩=some (.func (.func 198) #[] #[]):=hc 26;have c6:w1.cell? ⟨B+1+1+1,27,none⟩=some (.string ⟨#[]⟩):=hc 27;have HB:=lhd (zd3 hb);have HK:=lhd hK;have hBl:w.heap.size<B:=by simp at hB;omega
 have hBn:B+1+1+1≠w.heap.size:=by simp at hB;omega
 have hBn':w.heap.size≠B+1+1+1:=by simp at hB;omega
 clear hc f hb hK;go_wp2_with fail;go_region
 go_wp2_with fail;refine bodyPost_ret (v:=.tuple #[.agg (kd3 B),.bool false]) (by simp[results,Tryz.results119,go_sem,g0,g1,g2,g3,g4,g5,g6,kd3]) rfl (zao.mk (ziw (zix hBl (zix hBl (zix hBl (zix hBl (zix hBl (zix hBl (zix hBl ⟨HK.out,HB.out⟩ _ _) _ _) _ _) _ _) _ _) _ _) _ _)))
end Go.Proofs.YtcdekelomkcahaaGreatDoor
