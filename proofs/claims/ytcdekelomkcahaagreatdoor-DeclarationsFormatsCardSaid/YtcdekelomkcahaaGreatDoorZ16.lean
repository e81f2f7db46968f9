import Derived.Test.YtcdekelomkcahaaGreatDoorZ00
import Derived.Deep.LoopGhost
import Derived.Lib.LazyBuf
import Derived.Test.YtcdekelomkcahaaGreatDoorZ14
set_option maxRecDepth 100000
set_option maxHeartbeats 16000000
namespace Go.Proofs.YtcdekelomkcahaaGreatDoor
open Go.RowKit
set_option linter.unusedSimpArgs false
theorem zm5 (base g c n a b:Nat) (P M S:List Vr) (w:World) (hg:SO base g n c w (P++(M++S))) (hp:P.length=a) (hM:a+M.length=b) (hn:n≤1000):
 Calls Tryz.prog 150 #[.slice (some ⟨g,0,none⟩) n c,.int .i64 a,.int .i64 b,(.func (.func 57) #[] #[])] w fun e w'=>
  e=.returned (.tuple #[])∧SO base g n c w' (P++(zfL vk M++S))∧Below base w w':=by
 have h6:=hg.len;have h5:=zm4 base g c a b (P++(M++S)) P M S w (by rw[h6];exact hg) rfl hp hM (by rw[h6];exact hn);rw[h6]at h5;exact h5
theorem zm8 (base g c n:Nat) (l:List Vr) (w:World) (hg:SO base g n c w l) (hn:n≤1000):
 Calls Tryz.prog 113 #[.slice (some ⟨g,0,none⟩) n c,.int .i64 n,(.func (.func 57) #[] #[])] w fun e w'=>
  e=.returned (.tuple #[])∧SO base g n c w' (zfL vk l)∧Below base w w':=by
 have H0:=lhd hg;have HN:=lhd (And.intro hg.len hn);clear hg hn;go_enter Tryz.func113,Tryz.ntmps113;go_wp2_with fail;go_loopw [7,8] (fun va vb wr=>∃(a b:Nat) (D R:List Vr),va=.int .i64 a∧vb=.int .i64 b∧b=a+20∧D.length=a∧a+R.length=n∧D++cs vk 20 R=cs vk 20 l∧SO base g n c wr (D++R)∧Below base w wr) (fun va _ _=>n-(intOf va).toNat)
 case atStart=>
  have h9:=HN.out;exact⟨0,20,[],l,rfl,rfl,rfl,rfl,by omega,rfl,H0.out,Below.refl _ _⟩
 case round=>
  obtain⟨a,b,D,R,rfl,rfl,hab,hD,hR,hc,hs,hbw⟩:=hrel;have h9:=HN.out;have HB:=lhd hbw;have HS:=lhd hs;have HC:=lhd hc;by_cases hle:b≤n
  ·have hw:IntKind.i64.wrap ((b:Int)+20)=((b+20:Nat):Int):=by rw[IntWalk.i64_in _ (by omega)];omega
   obtain⟨b2,hb2⟩:∃b2,b+20=b2:=⟨_,rfl⟩;rw[hb2]at hw;have HI:=lhd (zm5 base g c n a b D (R.take 20) (R.drop 20) wr (by rw[List.take_append_drop];exact hs) hD (by rw[List.length_take];omega) h9.2);have HST:=lhd (zcu (k:=vk) (n:=20) (l:=R) (by omega) (by omega));have HX:=lhd (show b=a+20∧D.length=a∧a+R.length=n∧b+20=b2∧n≤1000 from⟨hab,hD,hR,hb2,h9.2⟩);clear hc hs hbw hab hD hR hb2 h9;go_wp2_with fail;refine HI.out.mono ?_;rintro e w1 ⟨rfl,hs1,hb1⟩;have HS1:=lhd hs1;have HB1:=lhd (HB.out.trans hb1);clear hs1 hb1;go_wp2_with fail;clear hw;go_roundw
   case rel=>
    have h9:=HX.out;exact⟨b,b2,D++zfL vk (R.take 20),R.drop 20,rfl,rfl,by omega,by rw[List.length_append,zfO,List.length_take];omega,by rw[List.length_drop];omega,by rw[List.append_assoc,←HST.out];exact HC.out,by rw[List.append_assoc];exact HS1.out,HB1.out⟩
   case measure=>
    have h9:=HX.out;simp[intOf];omega
  ·have hle2:R.length≤20:=by omega
   have HI:=lhd (zm5 base g c n a n D R [] wr (by rw[List.append_nil];exact hs) hD hR h9.2);have HX:=lhd (show D++(zfL vk R++ [])=cs vk 20 l by rw[List.append_nil,←zcs hle2];exact hc);clear hc hs hbw hab hD hR h9 hle2 HS HC;go_wp2_with fail;refine HI.out.mono ?_;rintro e w1 ⟨rfl,hs1,hb1⟩;rw[HX.out]at hs1;have HS1:=lhd hs1;have HB1:=lhd (HB.out.trans hb1);clear hs1 hb1 HI HX HB;go_wp2_with fail;go_loopw [6,7,8,9] (fun vz _ _ _ wr=>∃z:Nat,vz=.int .i64 z∧0<z∧z≤2000∧SO base g n c wr (cs vk z l)∧Below base w wr) (fun vz _ _ _ _=>2000-(intOf vz).toNat)
   case atStart=>exact⟨20,rfl,by omega,by omega,HS1.out,HB1.out⟩
   case round=>
    obtain⟨z,rfl,hz0,hz1,hs2,hb2⟩:=hrel;have h9:=HN.out;have HB2:=lhd hb2;have HS2:=lhd hs2;by_cases hzn:z<n
    ·have HZ:=lhd (show 0<z∧z<n∧n≤1000∧l.length=n from⟨hz0,hzn,h9.2,h9.1⟩);have hzb:z≤1000:=by omega
     have hlz:(z:Int)<(n:Int):=by omega
     clear hz0 hz1 hs2 hb2 h9;go_wp2_with fail;clear hlz;go_loopw [7,8] (fun va vb wi=>∃(a b:Nat) (D R:List Vr),va=.int .i64 a∧vb=.int .i64 b∧b=a+2*z∧D.length=a∧a+R.length=n∧D++cs vk (2*z) R=cs vk (2*z) l∧SO base g n c wi (D++cs vk z R)∧Below base w wi) (fun va _ _=>n-(intOf va).toNat)
     case atStart=>
      have h9:=HZ.out;exact⟨0,2*z,[],l,rfl,by go_num,by omega,rfl,by omega,rfl,HS2.out,HB2.out⟩
     case round=>
      obtain⟨a,b,D,R,rfl,rfl,hab,hD,hR,hc,hs,hbw⟩:=hrel;have h9:=HZ.out;have HB:=lhd hbw;have HS:=lhd hs;have HC:=lhd hc;have hA1:a≤1000:=by omega
      have hA2:b≤4000:=by omega
      have hcm:((a+z:Nat):Int)=(a:Int)+(z:Int):=by omega
      by_cases hle:b≤n
      ·have hsR:2*z≤R.length:=by omega
       obtain⟨k1,k2,k3⟩:=zcw (k:=vk) (n:=z) (l:=R) h9.1 hsR;have hlen1:(zfL vk (R.take z)).length=z:=by rw[zfO,List.length_take];omega
       have hlen2:(zfL vk ((R.drop z).take z)).length=z:=by rw[zfO,List.length_take,List.length_drop];omega
       have HI:=lhd (znb base g c _ n a (a+z) b D (zfL vk (R.take z)) (zfL vk ((R.drop z).take z)) (cs vk z (R.drop (2*z))) wr (Nat.le_refl _) (by rw[←k1];exact hs) hD (by omega) (by omega) (by omega) (by omega) (zfT _) (zfT _) (by omega));rw[k2,hcm]at HI;have HK:=lhd k3;have HX:=lhd (show b=a+2*z∧D.length=a∧a+R.length=n∧2*z≤R.length from⟨hab,hD,hR,hsR⟩);clear hc hs hbw hab hD hR h9 hsR k1 k2 k3 hlen1 hlen2 hcm;go_wp2_with fail;refine HI.out.mono ?_;rintro e w1 ⟨rfl,hs1,hb1⟩;have HS1:=lhd hs1;have HB1:=lhd (HB.out.trans hb1);clear hs1 hb1;go_wp2_with fail;go_roundw
       case rel=>
        have h9:=HX.out;have h8:=HZ.out;refine⟨b,b+2*z,D++zfL vk (R.take (2*z)),R.drop (2*z),rfl,by go_num,by omega,by rw[List.length_append,zfO,List.length_take];omega,by rw[List.length_drop];omega,?_,by rw[List.append_assoc];exact HS1.out,HB1.out⟩;have h7:=HK.out;rw[List.append_assoc,←h7];exact HC.out
       case measure=>
        have h9:=HX.out;have h8:=HZ.out;simp[intOf];omega
      ·by_cases hmn:a+z<n
       ·obtain⟨k1,k2⟩:=zcv (k:=vk) (n:=z) (l:=R) h9.1 (by omega) (by omega);have hlen1:(zfL vk (R.take z)).length=z:=by rw[zfO,List.length_take];omega
        have hlen2:(zfL vk (R.drop z)).length=R.length-z:=by rw[zfO,List.length_drop]
        have HI:=lhd (znb base g c _ n a (a+z) n D (zfL vk (R.take z)) (zfL vk (R.drop z)) [] wr (Nat.le_refl _) (by rw[List.append_nil,←k1];exact hs) hD (by omega) (by omega) (by omega) (by omega) (zfT _) (zfT _) (by omega));rw[k2,List.append_nil,hc,hcm]at HI;have hlm:(a:Int)+(z:Int)<(n:Int):=by omega
        clear hc hs hbw hab hD hR h9 k1 k2 hlen1 hlen2 hmn hcm;go_wp2_with fail;refine HI.out.mono ?_;rintro e w1 ⟨rfl,hs1,hb1⟩;have HS1:=lhd hs1;have HB1:=lhd (HB.out.trans hb1);clear hs1 hb1;go_wp2_with fail;go_roundw
        case rel=>
         have h8:=HZ.out;exact⟨2*z,by go_num,by omega,by omega,HS1.out,HB1.out⟩
        case measure=>
         have h8:=HZ.out;simp[intOf];omega
       ·have HE:=lhd (show SO base g n c wr (cs vk (2*z) l)by
         rw[←hc,zcs (n:=2*z) (l:=R) (by omega),←zcs (k:=vk) (n:=z) (l:=R) (by omega)];exact hs)
        have hlm:¬(a:Int)+(z:Int)<(n:Int):=by omega
        clear hc hs hbw hab hD hR h9 hmn hcm;go_wp2_with fail;go_roundw
        case rel=>
         have h8:=HZ.out;exact⟨2*z,by go_num,by omega,by omega,HE.out,HB.out⟩
        case measure=>
         have h8:=HZ.out;simp[intOf];omega
    ·have HE:=lhd (show SO base g n c wr (zfL vk l)by rw[←zcs (k:=vk) (n:=z) (l:=l) (by omega)];exact hs2);clear hs2 hb2 h9;go_wp2_with fail;go_end0
     exact⟨rfl,HE.out,HB2.out⟩
theorem zm3 (w:World):Calls Tryz.prog 150 #[.slice none 0 0,.int .i64 0,.int .i64 0,(.func (.func 57) #[] #[])] w fun e w'=>e=.returned (.tuple #[])∧w=w':=by
 go_enter Tryz.func150,Tryz.ntmps150;go_wp2_with fail;refine wp_loop_rounds 1 ?_;rw[rounds_succ];go_wp2_with fail;go_end0
 exact⟨rfl,rfl⟩
theorem zm9 (w:World):Calls Tryz.prog 113 #[.slice none 0 0,.int .i64 0,(.func (.func 57) #[] #[])] w fun e w'=>e=.returned (.tuple #[])∧w=w':=by
 go_enter Tryz.func113,Tryz.ntmps113;go_wp2_with fail;refine wp_loop_rounds 1 ?_;rw[rounds_succ];go_wp2_with fail;refine(zm3 w).mono ?_;rintro e w1 ⟨rfl,rfl⟩;go_wp2_with fail;refine wp_loop_rounds 1 ?_;rw[rounds_succ];go_wp2_with fail;go_end0
 exact⟨rfl,rfl⟩
theorem ze0 (base:Nat) (v:Value) (l:List Vr) (w:World) (ho:w.ownsRow base 48 7 v l.length (vrs l)) (hn:l.length≤1000):
 Calls Tryz.prog 56 #[v,(.func (.func 57) #[] #[])] w fun e w'=>e=.returned (.tuple #[])∧w'.ownsRow base 48 7 v l.length (vrs (zfL vk l))∧Below base w w':=by
 rcases ho.2 with⟨rfl,h0⟩|⟨g,cap,cur,rfl,-⟩
 ·have h1:l=[]:=List.length_eq_zero_iff.1 h0;subst h1;have HO:=lhd ho;clear ho h0;go_enter Tryz.func56,Tryz.ntmps56;go_wp2_with fail;refine(zm9 w).mono ?_;rintro e w1 ⟨rfl,rfl⟩;go_wp2_with fail;go_end0
  exact⟨rfl,HO.out,Below.refl _ _⟩
 ·have HS:=lhd (zm8 base g cap l.length l w ho hn);clear ho;go_enter Tryz.func56,Tryz.ntmps56;go_wp2_with fail;refine HS.out.mono ?_;rintro e w1 ⟨rfl,ho1,hb1⟩;have HO:=lhd ho1;clear ho1 HS;go_wp2_with fail;go_end0
  exact⟨rfl,HO.out,hb1⟩
end Go.Proofs.YtcdekelomkcahaaGreatDoor
