import Derived.Test.YtfppgpamkdkckaaGreatDoorZ00
import Derived.Test.YtfppgpamkdkckaaGreatDoorZ45
set_option maxRecDepth 100000
set_option maxHeartbeats 16000000
namespace Go.Proofs.YtfppgpamkdkckaaGreatDoor
open Go.RowKit
set_option linter.unusedSimpArgs false
theorem zeC {x y:Bs}:((bsB x).toList==(bsB y).toList)=decide (x=y):=by
 by_cases h:x=y
 ·subst h;simp
 ·rw[zbr h];simp[h]
theorem law_ExporterShorter (a b:Int) (w:World) (hg:Glob w) (hm:Glm w) (ha:a≤9223372036854775807) (hb:b≤9223372036854775807):
 Calls Tryz.prog 6 #[.int .i64 a,.int .i64 b] w fun e w'=>e=.returned (.bool true)∧Below w.heap.size w w':=by
 have HA:=lhd (law_awake28 w hg hm);have HC:=lhd (fun(n:Int) (hn:n≤9223372036854775807) (W:World)=>zeY n W hn);clear hg hm;go_enter Tryz.func6,Tryz.ntmps6;go_wp2_with fail;refine HA.out.mono ?_;rintro e w1 ⟨rfl,hb1⟩;have HB1:=lhd hb1;clear HA hb1;go_wp2_with fail;refine(HC.out a ha w1).mono ?_;rintro e w2 ⟨rfl,hb2⟩;have HB2:=lhd (zfj HB1.out hb2);clear hb2;go_wp2_with fail;refine(HC.out b hb w2).mono ?_;rintro e w3 ⟨rfl,hb3⟩;have HB3:=lhd (zfj HB2.out hb3);clear hb3;have s1:=zbp (zcG a);have s2:=zbp (zcG b);by_cases h1:zcG a=[]
 ·rw[decide_eq_true h1]at s1;have HN:=lhd (zcU h1);clear h1;generalize bsB (zcG a)=X at*;generalize bsB (zcG b)=Y at*;by_cases h0:a<0
  ·clear HN;go_wp2_with fail;go_ret;exact⟨rfl,HB3.out⟩
  ·have h4:839514≤a:=by have:=HN.out;omega
   clear HN;go_wp2_with fail;go_ret;exact⟨rfl,HB3.out⟩
 rw[decide_eq_false h1]at s1;by_cases h2:zcG b=[]
 ·rw[decide_eq_true h2]at s2;clear h1 h2;generalize bsB (zcG a)=X at*;generalize bsB (zcG b)=Y at*;go_wp2_with fail;go_ret;exact⟨rfl,HB3.out⟩
 rw[decide_eq_false h2]at s2;obtain⟨o1,o2,o3⟩:=zcV h1 h2;obtain⟨l1,l2⟩:=zcZ h1;have hn:=zkl (n:=a) l1 l2;have HNU:=lhd (ze1 (bsB (zcG a)) w3 (by rw[zbt];omega));rw[zbq,hn]at HNU;have z1:=zbt (zcG a);have z2:=zbt (zcG b);have HEQ:=lhd (zeC (x:=zcG a) (y:=zcG b));clear h1 h2 hn l1 l2;generalize bsB (zcG a)=X at*;generalize bsB (zcG b)=Y at*;go_wp2_with fail;refine HNU.out.mono ?_;rintro e w4 ⟨rfl,rfl⟩;have g3:X.size≤3:=by rw[z1];exact o3
 have g3':(X.size:Int)≤3:=by omega
 by_cases hab:a=b
 ·subst hab;have he:(X.toList==Y.toList)=true:=by rw[HEQ.out,decide_eq_true (o1.2 rfl)]
  have hl:X.size≤Y.size:=by rw[z1,z2];exact o2.resolve_left (Int.lt_irrefl _)
  clear HEQ o1 o2 o3 z1 z2 HNU;go_wp2_with fail;go_ret;exact⟨rfl,HB3.out⟩
 ·have he:(X.toList==Y.toList)=false:=by rw[HEQ.out,decide_eq_false (fun h=>hab (o1.1 h))]
  have hba:(a==b)=false:=by simpa using hab
  by_cases hgt:b<a
  ·clear HEQ o1 o2 o3 z1 z2 HNU;go_wp2_with fail;go_ret;exact⟨rfl,HB3.out⟩
  ·have hl:X.size≤Y.size:=by rw[z1,z2];exact o2.resolve_left hgt
   clear HEQ o1 o2 o3 z1 z2 HNU;go_wp2_with fail;go_ret;exact⟨rfl,HB3.out⟩
end Go.Proofs.YtfppgpamkdkckaaGreatDoor
