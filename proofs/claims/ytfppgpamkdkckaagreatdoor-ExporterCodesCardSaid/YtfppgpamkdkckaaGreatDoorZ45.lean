import Derived.Test.YtfppgpamkdkckaaGreatDoorZ00
import Derived.Test.YtfppgpamkdkckaaGreatDoorZ28
import Derived.Test.YtfppgpamkdkckaaGreatDoorZ44
set_option maxRecDepth 100000
set_option maxHeartbeats 16000000
namespace Go.Proofs.YtfppgpamkdkckaaGreatDoor
open Go.RowKit
set_option linter.unusedSimpArgs false
theorem zgY:∀{l m:List Int},l.Pairwise (fun x y=>x<y)→m.Pairwise (fun x y=>x<y)→(∀x,x∈l↔x∈m)→l=m
 | [],[],_,_,_=>rfl
 | [],y::m,_,_,h=>absurd ((h y).2 (by simp)) (by simp)
 |x::l,[],_,_,h=>absurd ((h x).1 (by simp)) (by simp)
 |x::l,y::m,h1,h2,h=>by
  rw[List.pairwise_cons]at h1 h2;have hx:=(h x).1 (by simp);have hy:=(h y).2 (by simp)
  have e:x=y:=by
   rcases List.mem_cons.1 hx with e|hx
   ·exact e
   rcases List.mem_cons.1 hy with e|hy
   ·exact e.symm
   have:=h2.1 x hx;have:=h1.1 y hy;omega
  subst e
  rw[zgY h1.2 h2.2 (fun z=>by
   have hz:=h z;constructor
   ·intro hl;have:=h1.1 z hl;rcases List.mem_cons.1 (hz.1 (List.mem_cons_of_mem _ hl))with e|hm
    ·omega
    ·exact hm
   ·intro hl;have:=h2.1 z hl;rcases List.mem_cons.1 (hz.2 (List.mem_cons_of_mem _ hl))with e|hm
    ·omega
    ·exact hm)]
def exA:Tr:=⟨0,[],[],[],[],[⟨[99,108,107],17,-1,0,false,0,0⟩],[(0,1,[(0,⟨#[48]⟩),(5,⟨#[49]⟩)])],[],7⟩
theorem zeV:zsv exA=true:=by decide+kernel
theorem zeN:VF exA:=zsD (zsw.1 zeV)
theorem zeU:zqz exA=[0,5,7]:=by
 refine zgY (zpg _).1 (by decide) (fun x=>?_);rw[zqM,show zqD exA.G=[0,5]by decide+kernel,show exA.en=7 from rfl,show zfX 7 exA.P=[]from rfl];simp;omega
def exRs:List Rc:=[(0,0,[],[]),(4,0,[],[]),(1,0,[33],[48]),(0,5,[],[]),(1,0,[33],[49]),(0,7,[],[])]
theorem zeR:zm1 exA=exRs:=by
 unfold zm1;rw[zeU];decide+kernel
def exDD:DD:=⟨0,[],[],[],[],[⟨[99,108,107],17,-1,0,false,0,0,[33],0,1⟩]⟩
theorem zeJ:decE exA=exDD:=by
 unfold decE;rw[if_pos zeV];have:exA.V.map (dclE exA)=exDD.D:=by kernel_rfl
 rw[this];rfl
def zeX:Bs:=[35,48,10,36,100,117,109,112,118,97,114,115,10,48,33,10,36,101,110,100,10,35,53,10,49,33,10,35,55,10]
theorem zeS:zsz cv (knL cv (exDD.D.map Dcl.dc)) 0 false exRs=true:=by kernel_rfl
theorem zeL:validD exDD=true:=by kernel_rfl
theorem zht:Lib.itoa 0=[48]:=by
 rw[Lib.itoa,if_neg (by decide),Lib.decDigits,dif_pos (by decide)];rfl
theorem zhu:Lib.itoa 1=[49]:=by
 rw[Lib.itoa,if_neg (by decide),Lib.decDigits,dif_pos (by decide)];rfl
theorem zhv:Lib.itoa 5=[53]:=by
 rw[Lib.itoa,if_neg (by decide),Lib.decDigits,dif_pos (by decide)];rfl
theorem zhw:Lib.itoa 7=[55]:=by
 rw[Lib.itoa,if_neg (by decide),Lib.decDigits,dif_pos (by decide)];rfl
theorem zeP:zfC cv (knL cv (exDD.D.map Dcl.dc)) (exDD.D.map Dcl.dc) false exRs=[35::Lib.itoa 0,znx,[48,33],sEnd,35::Lib.itoa 5,[49,33],35::Lib.itoa 7]:=by kernel_rfl
theorem zeT:zfM cv (exDD.D.map Dcl.dc) exRs=zeX:=by
 unfold zfM;rw[if_pos zeS,zeP,zht,zhv,zhw];decide+kernel
theorem zeK:zit exDD=[secT [znB,znQ 0],secT [sVar,zjf varW 17,Lib.itoa 1,[33],[99,108,107]],secT [zny]]:=by kernel_rfl
theorem zeO:(zfF exDD).length≤1000:=by
 unfold zfF fmtD;rw[if_pos zeL,zeK,zhu];decide+kernel
theorem zeM:zff exA=(zfF exDD++zeX,0):=by
 unfold zff;rw[if_pos zeV,zeJ,zeR,zeT,if_neg];have:=zeO;rw[List.length_append];have h:zeX.length=30:=rfl;omega
theorem zp0 (a b:Bs):Lib.hasSuffix (a++b) b=true:=by
 unfold Lib.hasSuffix;rw[List.isSuffixOf_iff_suffix];exact List.suffix_append a b
theorem zeQ:zkg [33,33]=(94,true):=by decide+kernel
theorem zeI:zcG 94=[33,33]:=by decide+kernel
def exP (n:Nat):TP:=⟨.slice none 0 0,.slice (some ⟨n,0,none⟩) 1 1,.slice (some ⟨n+1+1,0,none⟩) 1 1,.slice none 0 0,[((0,1,[(0,⟨#[48]⟩),(5,⟨#[49]⟩)]),.slice (some ⟨n+1,0,none⟩) 2 2)]⟩
theorem zeW (w:World):TrM ((((w.alloc (.cells #[.string ⟨#[99,108,107]⟩,.int .i64 17,.int .i64 (-1),.int .i64 0,.bool false,.int .i64 0,.int .i64 0] 55)).alloc (.cells #[.int .i64 0,.string ⟨#[48]⟩,.int .i64 5,.string ⟨#[49]⟩] 57)).alloc (.cells #[.int .i64 0,.int .i64 1,.slice (some ⟨w.heap.size+1,0,none⟩) 2 2] 60)).alloc (.cells #[.int .i64 0,.string ⟨#[]⟩,.string ⟨#[]⟩,.string ⟨#[]⟩,.slice none 0 0,.slice (some ⟨w.heap.size,0,none⟩) 1 1,.slice (some ⟨w.heap.size+1+1,0,none⟩) 1 1,.slice none 0 0,.int .i64 7] 32)) exA (exP w.heap.size)∧Below w.heap.size w ((((w.alloc (.cells #[.string ⟨#[99,108,107]⟩,.int .i64 17,.int .i64 (-1),.int .i64 0,.bool false,.int .i64 0,.int .i64 0] 55)).alloc (.cells #[.int .i64 0,.string ⟨#[48]⟩,.int .i64 5,.string ⟨#[49]⟩] 57)).alloc (.cells #[.int .i64 0,.int .i64 1,.slice (some ⟨w.heap.size+1,0,none⟩) 2 2] 60)).alloc (.cells #[.int .i64 0,.string ⟨#[]⟩,.string ⟨#[]⟩,.string ⟨#[]⟩,.slice none 0 0,.slice (some ⟨w.heap.size,0,none⟩) 1 1,.slice (some ⟨w.heap.size+1+1,0,none⟩) 1 1,.slice none 0 0,.int .i64 7] 32))∧((((w.alloc (.cells #[.string ⟨#[99,108,107]⟩,.int .i64 17,.int .i64 (-1),.int .i64 0,.bool false,.int .i64 0,.int .i64 0] 55)).alloc (.cells #[.int .i64 0,.string ⟨#[48]⟩,.int .i64 5,.string ⟨#[49]⟩] 57)).alloc (.cells #[.int .i64 0,.int .i64 1,.slice (some ⟨w.heap.size+1,0,none⟩) 2 2] 60)).alloc (.cells #[.int .i64 0,.string ⟨#[]⟩,.string ⟨#[]⟩,.string ⟨#[]⟩,.slice none 0 0,.slice (some ⟨w.heap.size,0,none⟩) 1 1,.slice (some ⟨w.heap.size+1+1,0,none⟩) 1 1,.slice none 0 0,.int .i64 7] 32)).heap[w.heap.size+1+1+1]? =some (.cells #[.int .i64 0,.string ⟨#[]⟩,.string ⟨#[]⟩,.string ⟨#[]⟩,.slice none 0 0,.slice (some ⟨w.heap.size,0,none⟩) 1 1,.slice (some ⟨w.heap.size+1+1,0,none⟩) 1 1,.slice none 0 0,.int .i64 7] 32 (0,0)):=by
 refine⟨⟨SlR.nil _,?_,⟨?_,?_⟩,SlR.nil _,rfl⟩,?_,?_⟩
 ·exact row_in (((((Below.refl _ _).alloc (Nat.le_refl _) _).alloc (by simp) _)).alloc (by simp) _) rfl rfl (by decide)
 ·exact row_in ((Below.refl _ _).alloc (Nat.le_refl _) _) (by simp) rfl (by decide)
 ·intro x hx;obtain rfl:=List.mem_singleton.1 hx;exact row_in (((Below.refl _ _).alloc (Nat.le_refl _) _).alloc (by simp) _) (by simp) rfl (by decide)
 ·exact((((Below.refl _ _).alloc (Nat.le_refl _) _).alloc (by simp) _).alloc (by simp;omega) _).alloc (by simp;omega) _
 ·have:=heap_alloc_new (((w.alloc (.cells #[.string ⟨#[99,108,107]⟩,.int .i64 17,.int .i64 (-1),.int .i64 0,.bool false,.int .i64 0,.int .i64 0] 55)).alloc (.cells #[.int .i64 0,.string ⟨#[48]⟩,.int .i64 5,.string ⟨#[49]⟩] 57)).alloc (.cells #[.int .i64 0,.int .i64 1,.slice (some ⟨w.heap.size+1,0,none⟩) 2 2] 60)) (.cells #[.int .i64 0,.string ⟨#[]⟩,.string ⟨#[]⟩,.string ⟨#[]⟩,.slice none 0 0,.slice (some ⟨w.heap.size,0,none⟩) 1 1,.slice (some ⟨w.heap.size+1+1,0,none⟩) 1 1,.slice none 0 0,.int .i64 7] 32);rw[World.size_alloc,World.size_alloc,World.size_alloc]at this;exact this
theorem law_awake28 (w:World) (hg:Glob w) (hm:Glm w):
 Calls Tryz.prog 8 #[] w fun e w'=>e=.returned (.bool true)∧Below w.heap.size w w':=by
 have HG:=lhd hg;have HM:=lhd hm;clear hg hm;go_enter Tryz.func8,Tryz.ntmps8;go_upto_region 2 with fail;obtain⟨ht4,hb4,hx4⟩:=zeW w;obtain⟨w4,hw4⟩:∃w4:World,((((w.alloc (.cells #[.string ⟨#[99,108,107]⟩,.int .i64 17,.int .i64 (-1),.int .i64 0,.bool false,.int .i64 0,.int .i64 0] 55)).alloc (.cells #[.int .i64 0,.string ⟨#[48]⟩,.int .i64 5,.string ⟨#[49]⟩] 57)).alloc (.cells #[.int .i64 0,.int .i64 1,.slice (some ⟨w.heap.size+1,0,none⟩) 2 2] 60)).alloc (.cells #[.int .i64 0,.string ⟨#[]⟩,.string ⟨#[]⟩,.string ⟨#[]⟩,.slice none 0 0,.slice (some ⟨w.heap.size,0,none⟩) 1 1,.slice (some ⟨w.heap.size+1+1,0,none⟩) 1 1,.slice none 0 0,.int .i64 7] 32))=w4:=⟨_,rfl⟩;rw[hw4]at ht4 hb4 hx4⊢;clear hw4;have hpv:(exP w.heap.size).v exA=.agg #[.int .i64 0,.string ⟨#[]⟩,.string ⟨#[]⟩,.string ⟨#[]⟩,.slice none 0 0,.slice (some ⟨w.heap.size,0,none⟩) 1 1,.slice (some ⟨w.heap.size+1+1,0,none⟩) 1 1,.slice none 0 0,.int .i64 7]:=rfl;have HE:=lhd (fun W (hW:Below w4.heap.size w4 W)=>ze0 exA (exP w.heap.size) W (ht4.below hW) zeN (HG.out.below (zfj hb4 hW)) (HM.out.below (zfj hb4 hW)));have HR:=lhd (fun W (hW:Below w4.heap.size w4 W)=>ze2 exA (exP w.heap.size) W (ht4.below hW) zeN (HG.out.below (zfj hb4 hW)) (HM.out.below (zfj hb4 hW)));have HD:=lhd (fun W (hW:Below w4.heap.size w4 W)=>zeZ exA (exP w.heap.size) W (ht4.below hW) zeN (HG.out.below (zfj hb4 hW)) (HM.out.below (zfj hb4 hW)));rw[hpv]at HE HR HD;rw[zeM]at HE;rw[show zm3 exA=exRs from(if_pos zeV).trans zeR]at HR;rw[zeJ]at HD;have HB4:=lhd hb4;have HX4:=lhd hx4;clear ht4 hpv hb4;have o4:=zlu hx4;have c0:=o4.cell (j:=0) rfl;have c1:=o4.cell (j:=1) rfl;have c2:=o4.cell (j:=2) rfl;have c3:=o4.cell (j:=3) rfl;have c4:=o4.cell (j:=4) rfl;have c5:=o4.cell (j:=5) rfl;have c6:=o4.cell (j:=6) rfl;have c7:=o4.cell (j:=7) rfl;have c8:=o4.cell (j:=8) rfl;clear o4 hx4;go_wp2_with fail;refine(HE.out w4 (Below.refl _ _)).mono ?_;rintro e w5 ⟨rfl,hb5⟩;have HB5:=lhd hb5;have HX5:=lhd ((hb5.block _ (Array.getElem?_eq_some_iff.1 HX4.out).1).trans HX4.out);clear c0 c1 c2 c3 c4 c5 c6 c7 c8 hb5 HE;have HN:=lhd (ze1 ⟨#[33,33]⟩ w5 (by decide));rw[show(⟨#[33,33]⟩:ByteArray).data.toList=[33,33]from rfl,zeQ]at HN;go_wp2_with fail;refine HN.out.mono ?_;rintro e w5' ⟨rfl,rfl⟩
 have HSF:=lhd (Tryz.strings_HasSuffix (bsB (zfF exDD++zeX)) ⟨#[35,48,10,36,100,117,109,112,118,97,114,115,10,48,33,10,36,101,110,100,10,35,53,10,49,33,10,35,55,10]⟩ w5 (by
  rw[zbt,List.length_append];have:=zeO;have h:zeX.length=30:=rfl;omega))
 rw[show Lib.hasSuffix (bsB (zfF exDD++zeX)).data.toList (⟨#[35,48,10,36,100,117,109,112,118,97,114,115,10,48,33,10,36,101,110,100,10,35,53,10,49,33,10,35,55,10]⟩:ByteArray).data.toList=true by
  rw[zbq];exact zp0 (zfF exDD) zeX]at HSF
 generalize bsB (zfF exDD++zeX)=TX at*;clear HN;go_wp2_with fail;refine HSF.out.mono ?_;rintro e w5' ⟨rfl,rfl⟩;have HC:=lhd (zeY 94 w5' (by decide));rw[zeI,show bsB [33,33]=⟨#[33,33]⟩from rfl]at HC;clear HSF;go_wp2_with fail;refine HC.out.mono ?_;rintro e w6 ⟨rfl,hb6⟩;have HB6:=lhd (zfj HB5.out hb6);have HX6:=lhd ((hb6.block _ (Array.getElem?_eq_some_iff.1 HX5.out).1).trans HX5.out);have o6:=zlu HX6.out;have c0:=o6.cell (j:=0) rfl;have c1:=o6.cell (j:=1) rfl;have c2:=o6.cell (j:=2) rfl;have c3:=o6.cell (j:=3) rfl;have c4:=o6.cell (j:=4) rfl;have c5:=o6.cell (j:=5) rfl;have c6:=o6.cell (j:=6) rfl;have c7:=o6.cell (j:=7) rfl;have c8:=o6.cell (j:=8) rfl;clear o6 hb6 HC HX5;go_wp2_with fail;refine(HR.out w6 HB6.out).mono ?_;rintro e w7 ⟨v7,rfl,ho7,hb7⟩;obtain⟨a7,k7,rfl,-,-⟩:=(SlR.of_own ho7).shape;have HB7:=lhd (zfj HB6.out hb7);have HX7:=lhd ((hb7.block _ (Array.getElem?_eq_some_iff.1 HX6.out).1).trans HX6.out);clear c0 c1 c2 c3 c4 c5 c6 c7 c8 ho7 HX6 HR;have o7:=zlu HX7.out;have c0:=o7.cell (j:=0) rfl;have c1:=o7.cell (j:=1) rfl;have c2:=o7.cell (j:=2) rfl;have c3:=o7.cell (j:=3) rfl;have c4:=o7.cell (j:=4) rfl;have c5:=o7.cell (j:=5) rfl;have c6:=o7.cell (j:=6) rfl;have c7:=o7.cell (j:=7) rfl;have c8:=o7.cell (j:=8) rfl;clear o7 hb7;rw[show exRs.length=6 from rfl];go_wp2_with fail;refine(HD.out w7 HB7.out).mono ?_;rintro e w8 ⟨vS,vD,rfl,hs8,hd8,hb8⟩;obtain⟨a8,k8,rfl,-,-⟩:=hd8.shape;obtain⟨a9,k9,rfl,-,-⟩:=hs8.shape;have HB8:=lhd (HB4.out.trans ((zfj HB7.out hb8).mono HB4.out.size));clear c0 c1 c2 c3 c4 c5 c6 c7 c8 hs8 hd8 hb8 HD HX7;rw[show exDD.D.length=1 from rfl,show ∀vS vD,ddV exDD vS vD=.agg #[.int .i64 0,.string ⟨#[]⟩,.string ⟨#[]⟩,.string ⟨#[]⟩,vS,vD]from fun _ _=>rfl];have hfd:(Instr.field 40 (.agg #[.int .i64 0,.string ⟨#[]⟩,.string ⟨#[]⟩,.string ⟨#[]⟩,.slice a9 exDD.S.length k9,.slice a8 1 k8]) 5).run Tryz.prog w8=.ok (.slice a8 1 k8) w8:=by kernel_rfl
 go_wp2_with fail;go_ret;exact⟨rfl,HB8.out⟩
end Go.Proofs.YtfppgpamkdkckaaGreatDoor
