import Derived.Test.YtfppgpamkdkckaaGreatDoorZ00
import Derived.Test.YtfppgpamkdkckaaGreatDoorZ45
import Derived.Test.YtfppgpamkdkckaaGreatDoorZ46
set_option maxRecDepth 100000
set_option maxHeartbeats 16000000
namespace Go.Proofs.YtfppgpamkdkckaaGreatDoor
open Go.RowKit
set_option linter.unusedSimpArgs false
theorem law_ExporterCodes (n:Int) (s:ByteArray) (w:World) (hg:Glob w) (hm:Glm w) (hn:n≤9223372036854775807):
 Calls Tryz.prog 3 #[.int .i64 n,.string s] w fun e w'=>e=.returned (.bool true)∧Below w.heap.size w w':=by
 have HA:=lhd (law_awake28 w hg hm);have HC:=lhd (fun(W:World)=>zeY n W hn);have HR:=lhd (fun(W:World)=>znh 2 n W (Nat.le_refl _) (.inr (.inr rfl)) hn);rw[zcX]at HR;clear hg hm;go_enter Tryz.func3,Tryz.ntmps3;go_wp2_with fail;refine HA.out.mono ?_;rintro e w1 ⟨rfl,hb1⟩;have HB1:=lhd hb1;clear HA hb1;by_cases hs:60<s.size
 ·have hd:decide ((60:Int)<(s.size:Int))=true:=by rw[decide_eq_true_iff];omega
  clear hs;go_wp2_with fail;go_ret;exact⟨rfl,HB1.out⟩
 have hd:decide ((60:Int)<(s.size:Int))=false:=by rw[decide_eq_false_iff_not];omega
 have HNU:=lhd (fun W=>ze1 s W (by omega));have HNR:=lhd (fun W=>znk s W (by omega));rw[zkn]at HNR;clear hs;generalize zkg s.data.toList=Z at*;obtain⟨z,b⟩:=Z;dsimp only at HNU HNR;generalize bsB (zcG n)=X at*;go_wp2_with fail;refine(HNU.out w1).mono ?_;rintro e w2 ⟨rfl,rfl⟩;go_wp2_with fail;refine(HNR.out w1).mono ?_;rintro e w3 ⟨rfl,rfl⟩;clear hd HNU HNR;go_wp2_with fail;refine(HC.out w1).mono ?_;rintro e w2 ⟨rfl,hb2⟩;have HB2:=lhd (zfj HB1.out hb2);clear hb2 HC;go_wp2_with fail;refine(HR.out w2).mono ?_;rintro e w3 ⟨rfl,hb3⟩;have HB3:=lhd (zfj HB2.out hb3);clear hb3 HR;go_wp2_with fail;go_ret;exact⟨rfl,HB3.out⟩
end Go.Proofs.YtfppgpamkdkckaaGreatDoor
