import Derived.Test.YtfppgpamkdkckaaGreatDoorZ00
import Derived.Test.YtfppgpamkdkckaaGreatDoorZ05
import Derived.Test.YtfppgpamkdkckaaGreatDoorZ09
set_option maxRecDepth 100000
set_option maxHeartbeats 16000000
namespace Go.Proofs.YtfppgpamkdkckaaGreatDoor
open Go.RowKit
theorem zh0 (s:ByteArray) (w:World):Calls Tryz.prog 232 #[.string s] w fun e w'=>e=.returned (.string s)∧Below w.heap.size w w':=by
 go_enter Tryz.func232,Tryz.ntmps232;go_wp2_with fail;go_ret;exact⟨rfl,Below.refl _ _⟩
theorem zh3 (s:ByteArray) (w:World):Calls Tryz.prog 239 #[.string s] w fun e w'=>e=.returned (.string ⟨#[49]⟩)∧Below w.heap.size w w':=by
 go_enter Tryz.func239,Tryz.ntmps239;go_wp2_with fail;go_ret;exact⟨rfl,Below.refl _ _⟩
set_option linter.unusedSimpArgs false
theorem zmH {s:ByteArray} (h:s.size≤100000):(bsB (quoL s.data.toList)).size≤400000:=by
 rw[zbt];have h1:=zmN s.data.toList;have h2:s.data.toList.length=s.size:=by simp
 omega
theorem zrW (n:Int) (s id:ByteArray) (w:World) (hg:Glob w) (hv:vt 1 n=true) (hs:s.size≤100000) (hid:id.size≤100000):
 Calls Tryz.prog 57 #[.int .i64 1,.int .i64 n,.string s,.string id] w fun e w'=>e=.returned (.string (cmdB 1 n s id))∧Below w.heap.size w w':=by
 have hs2:s.size≤maxLen:=by unfold maxLen;omega
 have HG:=lhd hg;clear hg;go_enter Tryz.func57,Tryz.ntmps57;go_wp2_with fail;refine(zsq 1 n _).mono ?_;rintro e w1 ⟨C,rfl,hb,hC⟩;have HB:=lhd hb;rw[hv];rcases hC with⟨-,h⟩|⟨B,hK,⟨h,-⟩|⟨-,rfl⟩|⟨h,-⟩|⟨h,-⟩⟩
 ·rw[hv]at h;cases h
 ·cases h
 ·have HX:=lhd hv;clear hb hv hK;unfold kd1;have hrow:=zan.fresh w1 (kd1 B) 162;unfold kd1 at hrow;have HROW:=lhd hrow;clear hrow;go_wp2_with fail;refine(zhZ n s _ (HG.out.below (HB.out.alloc HB.out.size _)) hs2).mono ?_;rintro e w2 ⟨rfl,hb2⟩;have HB2:=lhd (zfj HB.out (zfg hb2));have c5:=(HROW.out.below hb2 (by simp)).cell (j:=5) rfl;have c6:=(HROW.out.below hb2 (by simp)).cell (j:=6) rfl;clear hb2;cases hvv:zdH s
  ·have HR:=lhd (zcy (k:=1) (n:=n) (s:=s) (id:=id) (by unfold vv;simp[hvv]));clear hvv;go_wp2_with fail;refine bodyPost_ret (v:=.string ⟨#[]⟩) (by simp[results,Tryz.results57,go_sem]) rfl ?_;rw[HR.out];exact⟨rfl,HB2.out⟩
  ·have HVV:=lhd (show vv 1 n s=true by unfold vv;simp[hvv,HX.out]);have HFS:=lhd (show(s:ByteArray).size≤400000 by omega);clear hvv;go_wp2_with fail;refine(zr6 id _ (by omega)).mono ?_;rintro e w3 ⟨rfl,rfl⟩;cases hc:codeOk id.data.toList
   ·have HR:=lhd (zcy (k:=1) (n:=n) (s:=s) (id:=id) (by rw[hc];simp));clear hc;go_wp2_with fail;refine bodyPost_ret (v:=.string ⟨#[]⟩) (by simp[results,Tryz.results57,go_sem]) rfl ?_;rw[HR.out];exact⟨rfl,HB2.out⟩
   ·have HAL:=lhd (show(vt 1 n&&vv 1 n s&&codeOk id.data.toList)=true by rw[HX.out,HVV.out,hc];rfl);clear hc;have HR:=lhd ((zcw HAL.out rfl).trans (by rw[show bsB (fmtV 1 s.data.toList)=s by exact zbs s]));have hlt:w1.heap.size<w3.heap.size:=zbU c5;have hq1:¬9223372036854775807<1+(s).size:=by have:=HFS.out;omega
    have hq2:¬9223372036854775807<1+(s).size+1:=by have:=HFS.out;omega
    have hq3:¬9223372036854775807<1+(s).size+1+id.size:=by have:=HFS.out;omega
    go_upto_region 6 with fail
    go_region_held3 (fun w'=>w'.cell? ⟨w1.heap.size,5,none⟩=some (Value.func (.func 232) #[] #[])∧w'.cell? ⟨w1.heap.size,6,none⟩=some (.string ⟨#[114]⟩))
     (first|exact⟨d5,d6⟩|exact⟨c5,c6⟩|go_keep)
     (first
       |(go_at_call 232;(with_reducible refine(zh0 s _).mono ?_);rintro e w4 ⟨rfl,hb4⟩;have d5:=(hb4.cell (p:=⟨w1.heap.size,5,none⟩) hlt).trans c5;have d6:=(hb4.cell (p:=⟨w1.heap.size,6,none⟩) hlt).trans c6;have HB4:=lhd (zfj HB2.out (zbc hb4));clear hb4)
       |fail "no arm")
    all_goals
     (try (rename_i hh;clear hh))
     go_wp2_with fail;refine bodyPost_ret (v:=.string (cmdB _ _ _ _)) (by rw[HR.out];simp[results,Tryz.results57,go_sem]<;>rfl) rfl ⟨rfl,HB4.out⟩
 ·cases h
 ·cases h
theorem zrX (n:Int) (s id:ByteArray) (w:World) (hg:Glob w) (hv:vt 2 n=true) (hs:s.size≤100000) (hid:id.size≤100000):
 Calls Tryz.prog 57 #[.int .i64 2,.int .i64 n,.string s,.string id] w fun e w'=>e=.returned (.string (cmdB 2 n s id))∧Below w.heap.size w w':=by
 have hs2:s.size≤maxLen:=by unfold maxLen;omega
 have HG:=lhd hg;clear hg;go_enter Tryz.func57,Tryz.ntmps57;go_wp2_with fail;refine(zsq 2 n _).mono ?_;rintro e w1 ⟨C,rfl,hb,hC⟩;have HB:=lhd hb;rw[hv];rcases hC with⟨-,h⟩|⟨B,hK,⟨h,-⟩|⟨h,-⟩|⟨-,rfl⟩|⟨h,-⟩⟩
 ·rw[hv]at h;cases h
 ·cases h
 ·cases h
 ·have HX:=lhd hv;clear hb hv hK;unfold kd2;have hrow:=zan.fresh w1 (kd2 B) 162;unfold kd2 at hrow;have HROW:=lhd hrow;clear hrow;go_wp2_with fail;refine(zh1 n s _ hs2).mono ?_;rintro e w2 ⟨rfl,hb2⟩;have HB2:=lhd (zfj HB.out (zfg hb2));have c5:=(HROW.out.below hb2 (by simp)).cell (j:=5) rfl;have c6:=(HROW.out.below hb2 (by simp)).cell (j:=6) rfl;clear hb2;cases hvv:decide (s.size≤64)
  ·have HR:=lhd (zcy (k:=2) (n:=n) (s:=s) (id:=id) (by unfold vv;simp[hvv]));clear hvv;go_wp2_with fail;refine bodyPost_ret (v:=.string ⟨#[]⟩) (by simp[results,Tryz.results57,go_sem]) rfl ?_;rw[HR.out];exact⟨rfl,HB2.out⟩
  ·have HVV:=lhd (show vv 2 n s=true by unfold vv;simp[hvv,HX.out]);have HFS:=lhd (show(bsB (quoL s.data.toList):ByteArray).size≤400000 by exact zmH hs);clear hvv;go_wp2_with fail;refine(zr6 id _ (by omega)).mono ?_;rintro e w3 ⟨rfl,rfl⟩;cases hc:codeOk id.data.toList
   ·have HR:=lhd (zcy (k:=2) (n:=n) (s:=s) (id:=id) (by rw[hc];simp));clear hc;go_wp2_with fail;refine bodyPost_ret (v:=.string ⟨#[]⟩) (by simp[results,Tryz.results57,go_sem]) rfl ?_;rw[HR.out];exact⟨rfl,HB2.out⟩
   ·have HAL:=lhd (show(vt 2 n&&vv 2 n s&&codeOk id.data.toList)=true by rw[HX.out,HVV.out,hc];rfl);clear hc;have HR:=lhd ((zcw HAL.out rfl).trans (by rw[show bsB (fmtV 2 s.data.toList)=bsB (quoL s.data.toList)by rfl]));have hlt:w1.heap.size<w3.heap.size:=zbU c5;have hq1:¬9223372036854775807<1+(bsB (quoL s.data.toList)).size:=by have:=HFS.out;omega
    have hq2:¬9223372036854775807<1+(bsB (quoL s.data.toList)).size+1:=by have:=HFS.out;omega
    have hq3:¬9223372036854775807<1+(bsB (quoL s.data.toList)).size+1+id.size:=by have:=HFS.out;omega
    go_upto_region 6 with fail
    go_region_held3 (fun w'=>w'.cell? ⟨w1.heap.size,5,none⟩=some (Value.func (.func 236) #[] #[])∧w'.cell? ⟨w1.heap.size,6,none⟩=some (.string ⟨#[115]⟩))
     (first|exact⟨d5,d6⟩|exact⟨c5,c6⟩|go_keep)
     (first
       |(go_at_call 236;(with_reducible refine(zmP s _ hs).mono ?_);rintro e w4 ⟨rfl,hb4⟩;have d5:=(hb4.cell (p:=⟨w1.heap.size,5,none⟩) hlt).trans c5;have d6:=(hb4.cell (p:=⟨w1.heap.size,6,none⟩) hlt).trans c6;have HB4:=lhd (zfj HB2.out (zbc hb4));clear hb4)
       |fail "no arm")
    all_goals
     (try (rename_i hh;clear hh))
     go_wp2_with fail;refine bodyPost_ret (v:=.string (cmdB _ _ _ _)) (by rw[HR.out];simp[results,Tryz.results57,go_sem]<;>rfl) rfl ⟨rfl,HB4.out⟩
 ·cases h
theorem zrY (n:Int) (s id:ByteArray) (w:World) (hg:Glob w) (hv:vt 3 n=true) (hs:s.size≤100000) (hid:id.size≤100000):
 Calls Tryz.prog 57 #[.int .i64 3,.int .i64 n,.string s,.string id] w fun e w'=>e=.returned (.string (cmdB 3 n s id))∧Below w.heap.size w w':=by
 have hs2:s.size≤maxLen:=by unfold maxLen;omega
 have HG:=lhd hg;clear hg;go_enter Tryz.func57,Tryz.ntmps57;go_wp2_with fail;refine(zsq 3 n _).mono ?_;rintro e w1 ⟨C,rfl,hb,hC⟩;have HB:=lhd hb;rw[hv];rcases hC with⟨-,h⟩|⟨B,hK,⟨h,-⟩|⟨h,-⟩|⟨h,-⟩|⟨-,rfl⟩⟩
 ·rw[hv]at h;cases h
 ·cases h
 ·cases h
 ·cases h
 ·have HX:=lhd hv;clear hb hv hK;unfold kd3;have hrow:=zan.fresh w1 (kd3 B) 162;unfold kd3 at hrow;have HROW:=lhd hrow;clear hrow;go_wp2_with fail;refine(zh2 n s _).mono ?_;rintro e w2 ⟨rfl,hb2⟩;have HB2:=lhd (zfj HB.out (zfg hb2));have c5:=(HROW.out.below hb2 (by simp)).cell (j:=5) rfl;have c6:=(HROW.out.below hb2 (by simp)).cell (j:=6) rfl;clear hb2;cases hvv:nilB s
  ·have HR:=lhd (zcy (k:=3) (n:=n) (s:=s) (id:=id) (by unfold vv;simp[hvv]));clear hvv;go_wp2_with fail;refine bodyPost_ret (v:=.string ⟨#[]⟩) (by simp[results,Tryz.results57,go_sem]) rfl ?_;rw[HR.out];exact⟨rfl,HB2.out⟩
  ·have HVV:=lhd (show vv 3 n s=true by unfold vv;simp[hvv,HX.out]);have HFS:=lhd (show(⟨#[49]⟩:ByteArray).size≤400000 by decide);clear hvv;go_wp2_with fail;refine(zr6 id _ (by omega)).mono ?_;rintro e w3 ⟨rfl,rfl⟩;cases hc:codeOk id.data.toList
   ·have HR:=lhd (zcy (k:=3) (n:=n) (s:=s) (id:=id) (by rw[hc];simp));clear hc;go_wp2_with fail;refine bodyPost_ret (v:=.string ⟨#[]⟩) (by simp[results,Tryz.results57,go_sem]) rfl ?_;rw[HR.out];exact⟨rfl,HB2.out⟩
   ·have HAL:=lhd (show(vt 3 n&&vv 3 n s&&codeOk id.data.toList)=true by rw[HX.out,HVV.out,hc];rfl);clear hc;have HR:=lhd (zcz HAL.out rfl);have hq1:¬9223372036854775807<1+id.size:=by omega
    go_wp2_with fail;refine(zh3 s _).mono ?_;rintro e w4 ⟨rfl,hb4⟩;have HB4:=lhd (zfj HB2.out hb4);clear hb4;go_wp2_with fail;refine bodyPost_ret (v:=.string (⟨#[49]⟩++id)) (by simp[results,Tryz.results57,go_sem]) rfl ⟨by rw[HR.out];rfl,HB4.out⟩
end Go.Proofs.YtfppgpamkdkckaaGreatDoor
