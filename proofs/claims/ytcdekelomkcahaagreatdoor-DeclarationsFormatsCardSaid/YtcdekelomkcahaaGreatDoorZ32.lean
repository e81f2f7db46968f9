import Derived.Test.YtcdekelomkcahaaGreatDoorZ00
import Derived.Test.YtcdekelomkcahaaGreatDoorZ27
import Derived.Test.YtcdekelomkcahaaGreatDoorZ28
set_option maxRecDepth 100000
set_option maxHeartbeats 16000000
namespace Go.Proofs.YtcdekelomkcahaaGreatDoor
open Go.RowKit
set_option linter.unusedSimpArgs false
abbrev ddV (d:DD) (vS vD:Value):Value:=.agg #[.int .i64 d.sc,.string (bsB d.dt),.string (bsB d.vn),.string (bsB d.cm),vS,vD]
theorem zrD (P:Program) (w:World) (src dst e:TypeId) (c:UInt8) (x:Int) (hx:x=(c.toNat:Int)) (hs:P.underlying src=some (.slice e)) (he:P.underlying e=some (.int .u8)) (hd:P.underlying dst=some .string):
 (convert src dst (.slice (some ⟨w.heap.size,0,none⟩) 1 1)).run P (w.alloc (.cells #[.int .u8 x] e))=.ok (.string ⟨#[c]⟩) (w.alloc (.cells #[.int .u8 x] e)):=by
 subst hx;exact zrC P w src dst e c hs he hd
def digZ (n:Nat):UInt8:=UInt8.ofNat (48+n % 10)
theorem zrh (n:Nat):(48:Int)+(n:Int) % 10=((digZ n).toNat:Int):=by
 unfold digZ;have:(UInt8.ofNat (48+n % 10)).toNat=48+n % 10:=by rw[UInt8.toNat_ofNat'];omega
 rw[this];omega
theorem zre (n:Nat) (h:n≤999999999):(Lib.decDigits n).length≤20:=by rw[Lib.decDigits_length];exact Lib.nDigits_le20 n (by omega)
theorem zrT (n:Nat) (hn:n≤999999999) (w:World):Calls Tryz.prog 85 #[.int .i64 n] w fun e w'=>e=.returned (.string (bsB (Lib.decDigits n)))∧Below w.heap.size w w':=by
 induction n using Nat.strongRecOn generalizing w with
 |_ n ih=>
  have IH:=lhd ih;clear ih;have g0:(0:Int)≤(n:Int):=by omega
  have hcb:=zrD Tryz.prog w 70 9 5 (digZ n) _ (zrh n) Tryz.underlying70 Tryz.underlying5 Tryz.underlying9;by_cases h:n<10
  ·have HR:=lhd (show(⟨#[digZ n]⟩:ByteArray)=bsB (Lib.decDigits n)by rw[Lib.decDigits,dif_pos h];unfold digZ;rw[Nat.mod_eq_of_lt h];rfl);have g1:(n:Int)<10:=by omega
   clear h;go_enter Tryz.func85,Tryz.ntmps85;go_wp2_with fail;go_ret;exact⟨by rw[←HR.out];rfl,(Below.refl _ _).alloc (Nat.le_refl _) _⟩
  ·have HR:Hid (bsB (Lib.decDigits (n/10))++⟨#[digZ n]⟩=bsB (Lib.decDigits n)):=lhd (by
    rw[zqQ];congr 1
    conv=>rhs;rw[Lib.decDigits,dif_neg h]
    rfl)
   have g1:(10:Int)≤(n:Int):=by omega
   have hl:=zre (n/10) (by omega);have hz:=zbk (Lib.decDigits (n/10));have HI:=lhd (IH.out (n/10) (by omega) (by omega) (w.alloc (.cells #[.int .u8 (48+(n:Int) % 10)] 5)));clear h IH;go_enter Tryz.func85,Tryz.ntmps85;go_wp2_with fail;rw[show((n:Int)/10)=((n/10:Nat):Int)by omega];refine HI.out.mono ?_;rintro e w1 ⟨rfl,hb⟩;have hol:(bsB (Lib.decDigits (n/10))).size+1≤9223372036854775807:=by omega
   have HB:=lhd (zd3 hb);clear hb hcb hl hz;go_wp2_with fail;go_ret;exact⟨by rw[←HR.out];rfl,HB.out⟩
theorem zrU (n:Int) (h0:0≤n) (hn:n≤999999999) (w:World):Calls Tryz.prog 85 #[.int .i64 n] w fun e w'=>e=.returned (.string (bsB (Lib.itoa n)))∧Below w.heap.size w w':=by
 obtain⟨k,rfl⟩:=Int.eq_ofNat_of_zero_le h0;have h:=zrT k (by omega) w;rwa [show Lib.decDigits k=Lib.itoa (k:Int)by unfold Lib.itoa;rw[if_neg (by omega)];simp]at h
theorem zr5 (x:Int) (h0: -999999999≤x) (h1:x≤999999999) (w:World):Calls Tryz.prog 168 #[.int .i64 x] w fun e w'=>e=.returned (.string (bsB (Lib.itoa x)))∧Below w.heap.size w w':=by
 by_cases h:x<0
 ·obtain⟨n,hn⟩:=Int.eq_ofNat_of_zero_le (show 0≤ -x by omega)
  have HR:=lhd (show(⟨#[45]⟩:ByteArray)++bsB (Lib.decDigits n)=bsB (Lib.itoa x)by
   rw[show(⟨#[45]⟩:ByteArray)=bsB [45]from rfl,zqR,Lib.itoa,if_pos h,show x.natAbs=n by omega];rfl)
  have hl:=zre n (by omega);have hz:=zbk (Lib.decDigits n);have HI:=lhd (zrT n (by omega) w);have hol:1+(bsB (Lib.decDigits n)).size≤9223372036854775807:=by omega
  have hw:IntKind.i64.wrap (-x)=(n:Int):=by rw[hn];exact IntWalk.i64_in _ (by omega)
  clear hn hl hz;go_enter Tryz.func168,Tryz.ntmps168;go_wp2_with fail;refine HI.out.mono ?_;rintro e w1 ⟨rfl,hb⟩;have HB:=lhd hb;clear hb;go_wp2_with fail;go_ret;exact⟨by rw[←HR.out];rfl,HB.out⟩
 ·have HI:=lhd (zrU x (by omega) (by omega) w);go_enter Tryz.func168,Tryz.ntmps168;go_wp2_with fail;refine HI.out.mono ?_;rintro e w1 ⟨rfl,hb⟩;have HB:=lhd hb;clear hb;go_wp2_with fail;go_ret;exact⟨rfl,HB.out⟩
theorem zrY (m l:Int) (w:World) (h1:zba m=true) (h2:zba l=true):
 Calls Tryz.prog 136 #[.int .i64 m,.int .i64 l] w fun e w'=>e=.returned (.string (bsB (rngT m l)))∧Below w.heap.size w w':=by
 have r1:=zbc h1;have r2:=zbc h2;have t1:=zfW m (by omega);have t2:=zfW l (by omega);have z1:(bsB (Lib.itoa m)).size≤100:=by rw[zbk];exact t1
 have z2:(bsB (Lib.itoa l)).size≤100:=by rw[zbk];exact t2
 have HM:=lhd (zsc m w);have HL:=lhd (zsc l w);rw[h1]at HM;rw[h2]at HL;have HS1:=lhd (fun W:World=>zr5 m (by omega) (by omega) W);have HS2:=lhd (fun W:World=>zr5 l (by omega) (by omega) W);by_cases he:m=l
 ·subst he
  have HR:=lhd (show(⟨#[91]⟩:ByteArray)++bsB (Lib.itoa m)++⟨#[93]⟩=bsB (rngT m m)by
   rw[show(⟨#[91]⟩:ByteArray)=bsB [91]from rfl,zqR,zqQ];unfold rngT;rw[if_pos rfl];rfl)
  generalize bsB (Lib.itoa m)=y at*;clear h1 h2 r1 r2 t1 t2 z2 HL HS2;go_enter Tryz.func136,Tryz.ntmps136;go_wp2_with fail;refine HM.out.mono ?_;rintro e w' ⟨rfl,rfl⟩;go_wp2_with fail;refine HM.out.mono ?_;rintro e w' ⟨rfl,rfl⟩;go_wp2_with fail;refine(HS1.out _).mono ?_;rintro e w1 ⟨rfl,hb1⟩;have HB1:=lhd hb1;clear hb1;go_wp2_with fail;go_ret;exact⟨by rw[←HR.out];rfl,HB1.out⟩
 ·have hq:(m==l)=false:=by rw[beq_eq_false_iff_ne];exact he
  have HR:=lhd (show(⟨#[91]⟩:ByteArray)++bsB (Lib.itoa m)++⟨#[58]⟩++bsB (Lib.itoa l)++⟨#[93]⟩=bsB (rngT m l)by
   rw[show(⟨#[91]⟩:ByteArray)=bsB [91]from rfl,zqR,zqQ,zqR,zqQ];unfold rngT;rw[if_neg he];simp)
  generalize bsB (Lib.itoa m)=y at*;generalize bsB (Lib.itoa l)=z at*;clear h1 h2 r1 r2 t1 t2 he;go_enter Tryz.func136,Tryz.ntmps136;go_wp2_with fail;refine HM.out.mono ?_;rintro e w' ⟨rfl,rfl⟩;go_wp2_with fail;refine HL.out.mono ?_;rintro e w' ⟨rfl,rfl⟩;go_wp2_with fail;refine(HS1.out _).mono ?_;rintro e w1 ⟨rfl,hb1⟩;have HB1:=lhd hb1;clear hb1;go_wp2_with fail;refine(HS2.out _).mono ?_;rintro e w2 ⟨rfl,hb2⟩;have HB2:=lhd (zd5 HB1.out hb2);clear hb2;go_wp2_with fail;go_ret;exact⟨by rw[←HR.out];rfl,HB2.out⟩
end Go.Proofs.YtcdekelomkcahaaGreatDoor
