import Derived.Test.YtfppgpamkdkckaaGreatDoorZ00
import Derived.Test.YtfppgpamkdkckaaGreatDoorZ04
import Derived.Test.YtfppgpamkdkckaaGreatDoorZ06
import Derived.Test.YtfppgpamkdkckaaGreatDoorZ07
set_option maxRecDepth 100000
set_option maxHeartbeats 16000000
namespace Go.Proofs.YtfppgpamkdkckaaGreatDoor
open Go.RowKit
theorem zdO (s:ByteArray) (w:World) (hs:64<s.size) (hs':s.size≤maxLen):
 Calls Tryz.prog 292 #[.string s] w (zas s w):=by
 unfold maxLen at hs';have hn:znT s=none:=by unfold znT;rw[if_pos hs]
 have HN:=lhd hn;clear hn;go_enter Tryz.func292,Tryz.ntmps292;go_wp2_with fail;refine bodyPost_ret (v:=.tuple #[.agg #[.bool false,.slice none 0 0,.int .i64 0],.bool false]) (by simp[results,Tryz.results292,go_sem]) rfl ⟨(false,[],0),.slice none 0 0,by rw[HN.out];rfl,SlR.nil _,(by rw[HN.out];exact fun n h=>(by cases h)),by simp,by simp,by simp,?_⟩;exact(((Below.refl _ _).alloc (Nat.le_refl _) _).alloc (by simp) _).alloc (by simp;omega) _
theorem zdN (s:ByteArray) (w:World) (hs:s.size≤maxLen):Calls Tryz.prog 292 #[.string s] w (zas s w):=by
 by_cases h:s.size≤64
 ·exact zdM s w h
 ·exact zdO s w (by omega) hs
def zdH (s:ByteArray):Bool:=match znT s with|none=>false|some n=>decide (zj2 n=(s.data.toList,0))
def zaa (s:ByteArray) (w:World) (e:Ending) (w':World):Prop:=
 ∃(b:Bool) (a:Option Addr) (n c:Nat) (x:Int),e=.returned (.tuple #[.agg #[.bool b,.slice a n c,.int .i64 x],.bool (zdH s)])∧Below w.heap.size w w'
theorem zaa.mk {s:ByteArray} {w w':World} {b ok:Bool} {a:Option Addr} {n c:Nat} {x:Int} (h:ok=zdH s) (hb:Below w.heap.size w w'):
 zaa s w (.returned (.tuple #[.agg #[.bool b,.slice a n c,.int .i64 x],.bool ok])) w':=by
 subst h;exact⟨b,a,n,c,x,rfl,hb⟩
theorem zdJ (s:ByteArray) (w:World) (hg:Glob w) (hs:s.size≤maxLen):
 Calls Tryz.prog 290 #[.string s] w (zaa s w):=by
 have HG:=lhd hg;clear hg;go_enter Tryz.func290,Tryz.ntmps290;go_wp2_with fail;refine(zdN s _ hs).mono ?_;rintro e w1 ⟨m,v,rfl,hv,hm,hl,hlo,hhi,hb⟩;obtain⟨a,cap,rfl,hc,hcm⟩:=hv.shape;obtain⟨k0,k1,k2⟩:=box3 hb;obtain⟨f0,f1,f2⟩:=zbn hb;have hlt:w.heap.size<w1.heap.size:=by have:=hb.size;simp at this;omega
 have hne:w.heap.size≠w1.heap.size:=by omega
 cases hsc:znT s with
 |none=>
  have hd:zdH s=false:=by simp[zdH,hsc]
  have HD:=lhd hd;simp only[Option.isSome_none];clear hm hd hsc;go_wp2_with fail;obtain⟨e0,e1,e2⟩:=set3 k0 k1 k2 (.bool false) (.slice none 0 0) (.int .i64 0);have e0:=zbT e0 (.cells #[.bool m.1,.slice a m.2.1.length cap,.int .i64 m.2.2] 267);have e1:=zbT e1 (.cells #[.bool m.1,.slice a m.2.1.length cap,.int .i64 m.2.2] 267);have e2:=zbT e2 (.cells #[.bool m.1,.slice a m.2.1.length cap,.int .i64 m.2.2] 267);refine bodyPost_ret (v:=.tuple #[.agg #[.bool false,.slice none 0 0,.int .i64 0],.bool false]) (by simp[results,Tryz.results290,go_sem,e0,e1,e2]) rfl (zaa.mk HD.out.symm ?_);exact((((zfg hb).setCell (by simp) _).setCell (by simp) _).setCell (by simp) _).alloc (by simp;omega) _
 |some n=>
  obtain rfl:=hm n hsc;simp only[Option.isSome_some];clear hm;have HSC:=lhd hsc;clear hsc;have HV:=lhd hv;have HB:=lhd hb;have hb1:=zfg hb;have hw1:Below w1.heap.size w1 (w1.alloc (.cells #[.bool m.1,.slice a m.2.1.length cap,.int .i64 m.2.2] 267)):=(Below.refl _ _).alloc (Nat.le_refl _) _;have HT:=zdQ m.1 (.slice a m.2.1.length cap) m.2.1 m.2.2 _ (HG.out.below (zfj hb1 hw1)) (hv.below hw1) hl hlo hhi;have HT:=lhd HT;have HW:=lhd (zfj hb1 hw1);clear hv hb hb1 hw1;go_wp2_with fail;refine HT.out.mono ?_;rintro e w2 ⟨rfl,hb2⟩;obtain⟨j0,j1,j2⟩:=box3 hb2;have g0:=(hb2.cell (p:=⟨w.heap.size,0,none⟩) (by simp;omega)).trans (zbT k0 _);have g1:=(hb2.cell (p:=⟨w.heap.size,1,none⟩) (by simp;omega)).trans (zbT k1 _);have g2:=(hb2.cell (p:=⟨w.heap.size,2,none⟩) (by simp;omega)).trans (zbT k2 _);have p0:=(hb2.frozen (p:=⟨w.heap.size,0,none⟩) (by simp;omega)).trans (((Below.refl _ w1).alloc (Nat.le_refl _) (.cells #[.bool m.1,.slice a m.2.1.length cap,.int .i64 m.2.2] 267)).frozen (p:=⟨w.heap.size,0,none⟩) hlt|>.trans f0);have p1:=(hb2.frozen (p:=⟨w.heap.size,1,none⟩) (by simp;omega)).trans (((Below.refl _ w1).alloc (Nat.le_refl _) (.cells #[.bool m.1,.slice a m.2.1.length cap,.int .i64 m.2.2] 267)).frozen (p:=⟨w.heap.size,1,none⟩) hlt|>.trans f1);have p2:=(hb2.frozen (p:=⟨w.heap.size,2,none⟩) (by simp;omega)).trans (((Below.refl _ w1).alloc (Nat.le_refl _) (.cells #[.bool m.1,.slice a m.2.1.length cap,.int .i64 m.2.2] 267)).frozen (p:=⟨w.heap.size,2,none⟩) hlt|>.trans f2);have hok:zdH s=decide (zj2 m=(s.data.toList,0)):=by unfold zdH;rw[HSC.out]
  have HB2:=lhd hb2;have HOK:=lhd hok;clear hb2 hok k0 k1 k2 f0 f1 f2;go_wp2_with fail
  all_goals
   obtain⟨e0,e1,e2⟩:=set3 g0 g1 g2 (.bool m.1) (.slice a m.2.1.length cap) (.int .i64 m.2.2)
  ·refine bodyPost_ret (v:=.tuple #[.agg #[.bool m.1,.slice a m.2.1.length cap,.int .i64 m.2.2],.bool ((zj2 (m.1,m.2.1,m.2.2)).1==s.toList)]) (by simp[results,Tryz.results290,go_sem,e0,e1,e2]) rfl (zaa.mk ?_ ?_)
   ·have h:(zj2 (m.1,m.2.1,m.2.2)).2=0:=by assumption
    rw[HOK.out,Bool.eq_iff_iff,beq_iff_eq,decide_eq_true_iff,ByteArray.toList_eq];exact⟨fun h1=>Prod.ext h1 h,fun h1=>congrArg Prod.fst h1⟩
   ·exact(((zfj (zfg HB.out) (zfg HB2.out)).setCell (by simp) _).setCell (by simp) _).setCell (by simp) _
  ·refine bodyPost_ret (v:=.tuple #[.agg #[.bool m.1,.slice a m.2.1.length cap,.int .i64 m.2.2],.bool false]) (by simp[results,Tryz.results290,go_sem,e0,e1,e2]) rfl (zaa.mk ?_ ?_)
   ·have h:¬(zj2 (m.1,m.2.1,m.2.2)).2=0:=by assumption
    rw[HOK.out,eq_comm,decide_eq_false_iff_not];exact fun h1=>h (congrArg Prod.snd h1)
   ·exact(((zfj (zfg HB.out) (zfg HB2.out)).setCell (by simp) _).setCell (by simp) _).setCell (by simp) _
theorem zdI (s:ByteArray) (w:World) (hg:Glob w) (hs:s.size≤maxLen):
 Calls Tryz.prog 228 #[.string s] w fun e w'=>e=.returned (.bool (zdH s))∧Below w.heap.size w w':=by
 go_enter Tryz.func228,Tryz.ntmps228;go_wp2_with fail;refine(zdJ s _ hg hs).mono ?_;rintro e w1 ⟨b,a,n,c,x,rfl,hb⟩;go_wp2_with fail;go_ret;exact⟨rfl,hb.alloc hb.size _⟩
def vt (k n:Int):Bool:=(decide (k=0)&&decide (1≤n)&&decide (n≤128))||((decide (k=1)||decide (k=2)||decide (k=3))&&decide (n=0))
def nilB (s:ByteArray):Bool:=decide (s.size=0)
def vv (k n:Int) (s:ByteArray):Bool:=
 vt k n&&(if k=0 then bvIs s&&decide ((s.size:Int)=n)else if k=1 then zdH s else if k=2 then decide (s.size≤64)else nilB s)
def vi (k n:Int):ByteArray:=if vt k n=true then(if k=0 then allR n 120 else if k=1 then⟨#[48]⟩else⟨#[]⟩)else⟨#[]⟩
def zak (k n:Int) (w:World) (e:Ending) (w':World):Prop:=
 ∃(C:Array Value),e=.returned (.tuple #[.agg C,.bool (vt k n)])∧Below w.heap.size w w'∧
  ((C=#[.int .i64 0,.int .i64 0,.nilFunc,.nilFunc,.nilFunc,.nilFunc,.string ⟨#[]⟩]∧vt k n=false)∨∃B,zah w' B∧((k=0∧C=kd0 B)∨(k=1∧C=kd1 B)∨(k=2∧C=kd2 B)∨(k=3∧C=kd3 B)))
theorem zsr (k n:Int) (w:World) (hk:k<0∨3<k):Calls Tryz.prog 120 #[.int .i64 k,.int .i64 n] w (zak k n w):=by
 have hv:vt k n=false:=by
  unfold vt;rw[Bool.eq_false_iff];simp;omega
 have HV:=lhd hv;clear hv;rcases hk with hk|hk
 all_goals
  go_enter Tryz.func120,Tryz.ntmps120;go_wp2_with fail;refine(zsa _).mono ?_;rintro e w1 ⟨B,rfl,hB,hK,hc,hb⟩;have f:=fun i=>(boxN hb i).2;have f0:=f 0;have f1:=f 1;have f2:=f 2;have f3:=f 3;have f4:=f 4;have f5:=f 5;have f6:=f 6;have g0:w1.cell? ⟨w.heap.size,0,none⟩=some (.int .i64 0):=(boxN hb 0).1;have g1:w1.cell? ⟨w.heap.size,1,none⟩=some (.int .i64 0):=(boxN hb 1).1;have g2:w1.cell? ⟨w.heap.size,2,none⟩=some .nilFunc:=(boxN hb 2).1;have g3:w1.cell? ⟨w.heap.size,3,none⟩=some .nilFunc:=(boxN hb 3).1;have g4:w1.cell? ⟨w.heap.size,4,none⟩=some .nilFunc:=(boxN hb 4).1;have g5:w1.cell? ⟨w.heap.size,5,none⟩=some .nilFunc:=(boxN hb 5).1;have g6:w1.cell? ⟨w.heap.size,6,none⟩=some (.string ⟨#[]⟩):=(boxN hb 6).1;have HB:=lhd (zfg hb);clear hc f hb hK hB;go_wp2_with fail;refine bodyPost_ret (v:=.tuple #[.agg #[.int .i64 0,.int .i64 0,.nilFunc,.nilFunc,.nilFunc,.nilFunc,.string ⟨#[]⟩],.bool false]) (by simp[results,Tryz.results120,go_sem,g0,g1,g2,g3,g4,g5,g6]) rfl ⟨_,by rw[HV.out],?_,.inl ⟨rfl,HV.out⟩⟩;have l:w.heap.size≤w.heap.size:=Nat.le_refl _;exact((((((((HB.out.setCell l _).setCell l _).setCell l _).setCell l _).setCell l _).setCell l _).setCell l _))
theorem zal.any {kd:Nat→Array Value} {ok:Bool} {k n:Int} {w:World} {e:Ending} {w':World} (h:zal kd ok w e w') (hok:ok=vt k n)
 (hk:∀B,(k=0∧kd B=kd0 B)∨(k=1∧kd B=kd1 B)∨(k=2∧kd B=kd2 B)∨(k=3∧kd B=kd3 B)):zak k n w e w':=by
 obtain⟨B,rfl,h1,h2⟩:=h;exact⟨_,by rw[hok],h2,.inr ⟨B,h1,hk B⟩⟩
theorem zsq (k n:Int) (w:World):Calls Tryz.prog 120 #[.int .i64 k,.int .i64 n] w (zak k n w):=by
 by_cases hk:k<0∨3<k
 ·exact zsr k n w hk
 have h4:k=0∨k=1∨k=2∨k=3:=by omega
 rcases h4 with rfl|rfl|rfl|rfl
 ·by_cases h1:n<1
  ·exact(zsf n w h1).mono fun _ _ h=>h.any (by simp[vt];omega) (fun B=> .inl ⟨rfl,rfl⟩)
  by_cases h2:128<n
  ·exact(zse n w h2).mono fun _ _ h=>h.any (by simp[vt];omega) (fun B=> .inl ⟨rfl,rfl⟩)
  ·exact(zsg n w (by omega) (by omega)).mono fun _ _ h=>h.any (by simp[vt];omega) (fun B=> .inl ⟨rfl,rfl⟩)
 ·by_cases h1:n<0
  ·exact(zsi n w h1).mono fun _ _ h=>h.any (by simp[vt];omega) (fun B=> .inr (.inl ⟨rfl,rfl⟩))
  by_cases h2:0<n
  ·exact(zsh n w h2).mono fun _ _ h=>h.any (by simp[vt];omega) (fun B=> .inr (.inl ⟨rfl,rfl⟩))
  ·obtain rfl:n=0:=by omega
   exact(zsj w).mono fun _ _ h=>h.any (by simp[vt]) (fun B=> .inr (.inl ⟨rfl,rfl⟩))
 ·by_cases h1:n<0
  ·exact(zsl n w h1).mono fun _ _ h=>h.any (by simp[vt];omega) (fun B=> .inr (.inr (.inl ⟨rfl,rfl⟩)))
  by_cases h2:0<n
  ·exact(zsk n w h2).mono fun _ _ h=>h.any (by simp[vt];omega) (fun B=> .inr (.inr (.inl ⟨rfl,rfl⟩)))
  ·obtain rfl:n=0:=by omega
   exact(zsm w).mono fun _ _ h=>h.any (by simp[vt]) (fun B=> .inr (.inr (.inl ⟨rfl,rfl⟩)))
 ·by_cases h1:n<0
  ·exact(zso n w h1).mono fun _ _ h=>h.any (by simp[vt];omega) (fun B=> .inr (.inr (.inr ⟨rfl,rfl⟩)))
  by_cases h2:0<n
  ·exact(zsn n w h2).mono fun _ _ h=>h.any (by simp[vt];omega) (fun B=> .inr (.inr (.inr ⟨rfl,rfl⟩)))
  ·obtain rfl:n=0:=by omega
   exact(zsp w).mono fun _ _ h=>h.any (by simp[vt]) (fun B=> .inr (.inr (.inr ⟨rfl,rfl⟩)))
theorem zr3 (k n:Int) (w:World):
 Calls Tryz.prog 110 #[.int .i64 k,.int .i64 n] w fun e w'=>e=.returned (.bool (vt k n))∧Below w.heap.size w w':=by
 go_enter Tryz.func110,Tryz.ntmps110;go_wp2_with fail;refine(zsq k n _).mono ?_;rintro e w1 ⟨C,rfl,hb,hC⟩;have HB:=lhd hb;rcases hC with⟨rfl,-⟩|⟨B,-,⟨-,rfl⟩|⟨-,rfl⟩|⟨-,rfl⟩|⟨-,rfl⟩⟩
 all_goals
  clear hb;try unfold kd0
  try unfold kd1
  try unfold kd2
  try unfold kd3
  go_wp2_with fail;go_ret;exact⟨rfl,HB.out.alloc HB.out.size _⟩
theorem zhY (n:Int) (w:World):Calls Tryz.prog 223 #[.int .i64 n] w fun e w'=>e=.returned (.string (allR n 120))∧Below w.heap.size w w':=by
 go_enter Tryz.func223,Tryz.ntmps223;go_wp2_with fail;refine(zbe n 120 _).mono ?_;rintro e w1 ⟨rfl,hb⟩;go_wp2_with fail;go_ret;exact⟨rfl,hb⟩
theorem zhZ (n:Int) (s:ByteArray) (w:World) (hg:Glob w) (hs:s.size≤maxLen):Calls Tryz.prog 227 #[.int .i64 n,.string s] w fun e w'=>e=.returned (.bool (zdH s))∧Below w.heap.size w w':=by
 go_enter Tryz.func227,Tryz.ntmps227;go_wp2_with fail;refine(zdI s _ hg hs).mono ?_;rintro e w1 ⟨rfl,hb⟩;go_wp2_with fail;go_ret;exact⟨rfl,hb⟩
theorem zh1 (n:Int) (s:ByteArray) (w:World) (hs:s.size≤maxLen):Calls Tryz.prog 233 #[.int .i64 n,.string s] w fun e w'=>e=.returned (.bool (decide (s.size≤64)))∧Below w.heap.size w w':=by
 unfold maxLen at hs;go_enter Tryz.func233,Tryz.ntmps233;go_wp2_with fail;go_ret;exact⟨znc (by rw[Bool.eq_iff_iff];simp;omega),Below.refl _ _⟩
theorem zh2 (n:Int) (s:ByteArray) (w:World):Calls Tryz.prog 237 #[.int .i64 n,.string s] w fun e w'=>e=.returned (.bool (nilB s))∧Below w.heap.size w w':=by
 by_cases h:s.size=0
 ·obtain rfl:s=⟨#[]⟩:=by
   obtain⟨a⟩:=s;have:a=#[]:=Array.eq_empty_of_size_eq_zero h;rw[this]
  go_enter Tryz.func237,Tryz.ntmps237;go_wp2_with fail;go_ret;exact⟨rfl,Below.refl _ _⟩
 ·have hE:=zqQ s h;have H:=lhd h;clear h;go_enter Tryz.func237,Tryz.ntmps237;go_wp2_with fail;go_ret;exact⟨znc (by unfold nilB;rw[eq_comm,decide_eq_false_iff_not];exact H.out),Below.refl _ _⟩
theorem zr2 (k n:Int) (s:ByteArray) (w:World) (hg:Glob w) (hs:s.size≤maxLen):
 Calls Tryz.prog 200 #[.int .i64 k,.int .i64 n,.string s] w fun e w'=>e=.returned (.bool (vv k n s))∧Below w.heap.size w w':=by
 have HG:=lhd hg;clear hg;cases hv:vt k n
 ·have hvv:vv k n s=false:=by simp[vv,hv]
  have HVV:=lhd hvv;clear hvv;go_enter Tryz.func200,Tryz.ntmps200;go_wp2_with fail;refine(zsq k n _).mono ?_;rintro e w1 ⟨C,rfl,hb,hC⟩;have HB:=lhd hb;rw[hv];rcases hC with⟨rfl,-⟩|⟨B,-,⟨-,rfl⟩|⟨-,rfl⟩|⟨-,rfl⟩|⟨-,rfl⟩⟩
  all_goals
   clear hb hv;try unfold kd0
   try unfold kd1
   try unfold kd2
   try unfold kd3
   go_wp2_with fail;go_ret;exact⟨znc HVV.out.symm,HB.out.alloc HB.out.size _⟩
 ·go_enter Tryz.func200,Tryz.ntmps200;go_wp2_with fail;refine(zsq k n _).mono ?_;rintro e w1 ⟨C,rfl,hb,hC⟩;have HB:=lhd hb;rw[hv];rcases hC with⟨-,h⟩|⟨B,hK,⟨rfl,rfl⟩|⟨rfl,rfl⟩|⟨rfl,rfl⟩|⟨rfl,rfl⟩⟩
  ·rw[hv]at h;cases h
  ·have hvv:vv 0 n s=(bvIs s&&decide ((s.size:Int)=n)):=by simp[vv,hv]
   have HVV:=lhd hvv;clear hvv hb hv hK;unfold kd0;go_wp2_with fail;refine(zbg n s _ hs).mono ?_;rintro e w2 ⟨rfl,hb2⟩;go_wp2_with fail;go_ret;exact⟨znc HVV.out.symm,zfj HB.out (zfg hb2)⟩
  ·have hvv:vv 1 n s=zdH s:=by simp[vv,hv]
   have HVV:=lhd hvv;clear hvv hb hv hK;unfold kd1;go_wp2_with fail;refine(zhZ n s _ (HG.out.below (HB.out.alloc HB.out.size _)) hs).mono ?_;rintro e w2 ⟨rfl,hb2⟩;go_wp2_with fail;go_ret;exact⟨znc HVV.out.symm,zfj HB.out (zfg hb2)⟩
  ·have hvv:vv 2 n s=decide (s.size≤64):=by simp[vv,hv]
   have HVV:=lhd hvv;clear hvv hb hv hK;unfold kd2;go_wp2_with fail;refine(zh1 n s _ hs).mono ?_;rintro e w2 ⟨rfl,hb2⟩;go_wp2_with fail;go_ret;exact⟨znc HVV.out.symm,zfj HB.out (zfg hb2)⟩
  ·have hvv:vv 3 n s=nilB s:=by simp[vv,hv]
   have HVV:=lhd hvv;clear hvv hb hv hK;unfold kd3;go_wp2_with fail;refine(zh2 n s _).mono ?_;rintro e w2 ⟨rfl,hb2⟩;go_wp2_with fail;go_ret;exact⟨znc HVV.out.symm,zfj HB.out (zfg hb2)⟩
theorem zr1 (k n:Int) (w:World):
 Calls Tryz.prog 59 #[.int .i64 k,.int .i64 n] w fun e w'=>e=.returned (.string (vi k n))∧Below w.heap.size w w':=by
 cases hv:vt k n
 ·have hvv:vi k n=⟨#[]⟩:=by simp[vi,hv]
  have HVV:=lhd hvv;clear hvv;go_enter Tryz.func59,Tryz.ntmps59;go_wp2_with fail;refine(zsq k n _).mono ?_;rintro e w1 ⟨C,rfl,hb,hC⟩;have HB:=lhd hb;rw[hv];rcases hC with⟨rfl,-⟩|⟨B,-,⟨-,rfl⟩|⟨-,rfl⟩|⟨-,rfl⟩|⟨-,rfl⟩⟩
  all_goals
   clear hb hv;try unfold kd0
   try unfold kd1
   try unfold kd2
   try unfold kd3
   go_wp2_with fail;go_ret;exact⟨znf HVV.out.symm,HB.out.alloc HB.out.size _⟩
 ·go_enter Tryz.func59,Tryz.ntmps59;go_wp2_with fail;refine(zsq k n _).mono ?_;rintro e w1 ⟨C,rfl,hb,hC⟩;have HB:=lhd hb;rw[hv];rcases hC with⟨-,h⟩|⟨B,hK,⟨rfl,rfl⟩|⟨rfl,rfl⟩|⟨rfl,rfl⟩|⟨rfl,rfl⟩⟩
  ·rw[hv]at h;cases h
  ·have hvv:vi 0 n=allR n 120:=by simp[vi,hv]
   have HVV:=lhd hvv;clear hvv hb hv hK;unfold kd0;go_wp2_with fail;refine(zhY n _).mono ?_;rintro e w2 ⟨rfl,hb2⟩;go_wp2_with fail;go_ret;exact⟨znf HVV.out.symm,zfj HB.out (zfg hb2)⟩
  all_goals
   have hvv:=hv;have HK1:=zbT hK.1 (.cells (kd1 B) 162);have HK2:=zbT hK.2.1 (.cells (kd2 B) 162);have HK3:=zbT hK.2.2 (.cells (kd3 B) 162);clear hb hvv hK
  ·have HVV:=lhd (show vi 1 n=⟨#[48]⟩by simp[vi,hv]);clear hv HK2 HK3;unfold kd1 at*;go_wp2_with fail;refine(zst n _ _ _ HK1).mono ?_;rintro e w2 ⟨rfl,rfl⟩;go_wp2_with fail;go_ret;exact⟨znf HVV.out.symm,HB.out.alloc HB.out.size _⟩
  ·have HVV:=lhd (show vi 2 n=⟨#[]⟩by simp[vi,hv]);clear hv HK1 HK3;unfold kd2 at*;go_wp2_with fail;refine(zst n _ _ _ HK2).mono ?_;rintro e w2 ⟨rfl,rfl⟩;go_wp2_with fail;go_ret;exact⟨znf HVV.out.symm,HB.out.alloc HB.out.size _⟩
  ·have HVV:=lhd (show vi 3 n=⟨#[]⟩by simp[vi,hv]);clear hv HK1 HK2;unfold kd3 at*;go_wp2_with fail;refine(zst n _ _ _ HK3).mono ?_;rintro e w2 ⟨rfl,rfl⟩;go_wp2_with fail;go_ret;exact⟨znf HVV.out.symm,HB.out.alloc HB.out.size _⟩
end Go.Proofs.YtfppgpamkdkckaaGreatDoor
