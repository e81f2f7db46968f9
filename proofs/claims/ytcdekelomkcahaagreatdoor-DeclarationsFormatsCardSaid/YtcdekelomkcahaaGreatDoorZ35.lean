import Derived.Test.YtcdekelomkcahaaGreatDoorZ00
import Derived.Test.YtcdekelomkcahaaGreatDoorZ31
import Derived.Test.YtcdekelomkcahaaGreatDoorZ32
set_option maxRecDepth 100000
set_option maxHeartbeats 16000000
namespace Go.Proofs.YtcdekelomkcahaaGreatDoor
open Go.RowKit
set_option linter.unusedSimpArgs false
theorem zso (d:Nat) (w:World) (hd:d≤17):Calls Tryz.prog 134 #[.int .i64 d] w fun e w'=>e=.returned (.int .i64 (10^d:Nat))∧w=w':=by
 go_enter Tryz.func134,Tryz.ntmps134;go_wp2_with fail;go_loopw [3,4] (fun p u wr=>∃k:Nat,k≤d∧p=.int .i64 (10^k:Nat)∧u=.int .i64 k∧w=wr) (fun _ u _=>d-(intOf u).toNat)
 case atStart=>exact⟨0,Nat.zero_le _,rfl,rfl,rfl⟩
 case round=>
  obtain⟨k,hk,rfl,rfl,rfl⟩:=hrel;by_cases hlt:k<d
  ·have h1:=zjY (k:=k) (by omega);have h2:((10^(k+1):Nat):Int)=((10^k:Nat):Int)*10:=by rw[Nat.pow_succ];omega
   have H2:=lhd h2;clear h2;generalize hy:((10^(k+1):Nat):Int)=y at H2;have HY:=lhd hy;clear hy;generalize ((10^k:Nat):Int)=p at h1 H2;have hw1:IntKind.i64.wrap (p*10)=p*10:=IntWalk.i64_in _ (by omega);have hw2:IntKind.i64.wrap ((k:Int)+1)=(k:Int)+1:=IntWalk.i64_in _ (by omega);clear h1;go_wp2_with fail;go_roundw;case rel=>exact⟨k+1,by omega,by rw[←H2.out,←HY.out],by go_num,by first|trivial|rfl⟩
   case measure=>simp[intOf];omega
  ·obtain rfl:k=d:=by omega
   go_wp2_with fail;go_ret;exact⟨rfl,rfl⟩
theorem zss (n:Int) (w:World) (hn: -15≤n∧n≤2) (d:Nat) (hd:n+3*((unI n:Nat):Int)=(d:Int)):
 Calls Tryz.prog 84 #[.int .i64 n] w fun e w'=>e=.returned (.tuple #[.int .i64 (unI n:Nat),.int .i64 (10^d:Nat)])∧w=w':=by
 have hd2:d≤2:=by unfold unI at hd;omega
 have HP:=lhd (zso d w (by omega));generalize ((10^d:Nat):Int)=y at*;have HN:=lhd hn;have HD:=lhd hd;have hu5:=zoa n;clear hn hd;go_enter Tryz.func84,Tryz.ntmps84;go_wp2_with fail;go_loopw [4] (fun u wr=>∃k:Nat,k≤unI n∧u=.int .i64 k∧w=wr) (fun u _=>unI n-(intOf u).toNat)
 case atStart=>exact⟨0,Nat.zero_le _,rfl,rfl⟩
 case round=>
  obtain⟨k,hk,rfl,rfl⟩:=hrel;have hw3:IntKind.i64.wrap (-3*(k:Int))= -3*(k:Int):=IntWalk.i64_in _ (by omega);by_cases hlt:k<unI n
  ·have hp:n< -3*(k:Int):=by have:=HN.out;unfold unI at hlt;omega
   have hw2:IntKind.i64.wrap ((k:Int)+1)=(k:Int)+1:=IntWalk.i64_in _ (by omega);go_wp2_with fail;go_roundw;case rel=>exact⟨k+1,by omega,by go_num,by first|trivial|rfl⟩
   case measure=>simp[intOf];omega
  ·obtain rfl:k=unI n:=by omega
   have hp:¬n< -3*((unI n:Nat):Int):=by have:=HN.out;unfold unI;omega
   have hw4:IntKind.i64.wrap (3*((unI n:Nat):Int))=3*((unI n:Nat):Int):=IntWalk.i64_in _ (by omega);have hw5:IntKind.i64.wrap (n+3*((unI n:Nat):Int))=(d:Int):=by rw[HD.out];exact IntWalk.i64_in _ (by omega)
   go_wp2_with fail;refine HP.out.mono ?_;rintro e w1 ⟨rfl,rfl⟩;go_wp2_with fail;exact bodyPost_ret (v:=.tuple #[.int .i64 (unI n:Nat),.int .i64 y]) (by simp[results,Tryz.results84,go_sem]) rfl ⟨rfl,rfl⟩
theorem zst (w:World):Calls Tryz.prog 86 #[] w fun e w'=>e=.returned (.slice (some ⟨w.heap.size,0,none⟩) 6 6)∧w'=w.alloc (.cells ((zoe.map fun u=>Value.string (bsB u.1)).toArray) 9):=by
 go_enter Tryz.func86,Tryz.ntmps86;go_wp2_with fail;go_ret;exact⟨rfl,rfl⟩
theorem zsN {j:Nat} (hj:j≤5):(zoe.map fun u=>Value.string (bsB u.1))[j]? =some (.string (bsB (zoe.getD j ([],0)).1)):=by
 rcases(by omega:j=0∨j=1∨j=2∨j=3∨j=4∨j=5)with rfl|rfl|rfl|rfl|rfl|rfl<;>rfl
theorem zrW (n:Int) (w:World) (hn: -15≤n∧n≤2):Calls Tryz.prog 44 #[.int .i64 n] w fun e w'=>e=.returned (.string (bsB (zlU n)))∧Below w.heap.size w w':=by
 obtain⟨d,hd⟩:∃d:Nat,n+3*((unI n:Nat):Int)=(d:Int):=⟨(n+3*((unI n:Nat):Int)).toNat,by unfold unI;omega⟩;have hd2:d≤2:=by unfold unI at hd;omega
 have HT:=lhd (zmI hn hd);have HV:=lhd (zr4 n w);rw[decide_eq_true hn.1,decide_eq_true hn.2,Bool.and_self]at HV;have HS:=lhd (zss n w hn d hd);obtain⟨y,hy⟩:∃y:Int,y=((10^d:Nat):Int):=⟨_,rfl⟩;rw[←hy]at HT HS
 have hy2:0≤y∧y≤1000:=by
  rcases(by omega:d=0∨d=1∨d=2)with rfl|rfl|rfl<;>(rw[hy];decide)
 have HI:=lhd (zrU y hy2.1 (by omega) w);have z1:=zfY y (by omega);have hu5:=zoa n
 have hnl:(bsB (zoe.getD (unI n) ([],0)).1).size≤10:=by
  rw[zbk];obtain⟨u,hu,-⟩:=zod (zoa n);rw[List.getD_eq_getElem?_getD,hu];have:=List.mem_of_getElem? hu;simp[zoe]at this;rcases this with rfl|rfl|rfl|rfl|rfl|rfl<;>decide
 have hrow:=zsN hu5;generalize bsB (Lib.itoa y)=z at*;generalize bsB (zoe.getD (unI n) ([],0)).1=nm at*;generalize bsB (zlU n)=R at*;generalize unI n=u at*;have HRW:=lhd hrow;clear hy hd hn hrow hd2;go_enter Tryz.func44,Tryz.ntmps44;go_wp2_with fail;refine HV.out.mono ?_;rintro e w1 ⟨rfl,rfl⟩;go_wp2_with fail;refine HS.out.mono ?_;rintro e w1 ⟨rfl,rfl⟩;go_wp2_with fail;refine HI.out.mono ?_;rintro e w1 ⟨rfl,hb1⟩;go_wp2_with fail;refine(zst _).mono ?_;rintro e w2 ⟨rfl,rfl⟩;have hal:Below w1.heap.size w1 (w1.alloc (.cells ((zoe.map fun u=>Value.string (bsB u.1)).toArray) 9)):=(Below.refl _ _).alloc (Nat.le_refl _) _;have c0:=(zaq.fresh w1 ((zoe.map fun u=>Value.string (bsB u.1)).toArray) 9).cell HRW.out;have HB2:=lhd (zd5 hb1 hal);clear hal hb1;generalize w1.alloc (.cells ((zoe.map fun u=>Value.string (bsB u.1)).toArray) 9)=w3 at*;go_wp2_with fail;go_ret;exact⟨by rw[←HT.out];rfl,HB2.out⟩
end Go.Proofs.YtcdekelomkcahaaGreatDoor
