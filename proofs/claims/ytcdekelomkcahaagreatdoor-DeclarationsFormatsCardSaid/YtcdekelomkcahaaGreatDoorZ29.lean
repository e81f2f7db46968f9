import Derived.Test.YtcdekelomkcahaaGreatDoorZ00
import Derived.Test.YtcdekelomkcahaaGreatDoorZ27
set_option maxRecDepth 100000
set_option maxHeartbeats 16000000
namespace Go.Proofs.YtcdekelomkcahaaGreatDoor
open Go.RowKit
set_option linter.unusedSimpArgs false
theorem zga (c:UInt8):∀l:Bs,Lib.indexByte l c=if c∈l then((l.takeWhile fun x=>decide (x≠c)).length:Int)else-1
 | []=>rfl
 |b::l=>by
  show(if b==c then 0 else if Lib.indexByte l c== -1 then-1 else Lib.indexByte l c+1)=_;by_cases h:b=c
  ·subst h;simp
  ·have h2:(b==c)=false:=by simpa using h
   rw[if_neg (by rw[h2];simp),zga c l,List.takeWhile_cons,decide_eq_true h,if_pos rfl];by_cases hm:c∈l
   ·rw[if_pos hm,if_pos (List.mem_cons_of_mem _ hm)];have:(((l.takeWhile fun x=>decide (x≠c)).length:Int)== -1)=false:=by rw[beq_eq_false_iff_ne];omega
    rw[if_neg (by rw[this];simp),List.length_cons];omega
   ·rw[if_neg hm,if_pos (by decide),if_neg];intro hm2;rcases List.mem_cons.1 hm2 with e|e
    ·exact h e.symm
    ·exact hm e
theorem zhY (x:Bs) (w:World):Calls Tryz.prog 209 #[.string (bsB x),.int .u8 91] w fun e w'=>e=.returned (.int .i64 (if 91∈x then((x.takeWhile fun c=>decide (c≠91)).length:Int)else-1))∧w'=w:=by
 have:=Tryz.strings_IndexByte (bsB x) 91 w;rw[zbh,zga]at this;exact this
theorem zcy (x:Bs):(bsB x).extract 0 (x.takeWhile fun c=>decide (c≠91)).length=bsB (x.takeWhile fun c=>decide (c≠91)):=by
 have h1:=List.take_left (l₁:=x.takeWhile fun c=>decide (c≠91)) (l₂:=x.dropWhile fun c=>decide (c≠91));rw[List.takeWhile_append_dropWhile]at h1;rw[←zbj ((bsB x).extract 0 _),Lib.extract_data,zbh,Nat.sub_zero,List.drop_zero,h1]
theorem zcx (x:Bs):(bsB x).extract (x.takeWhile fun c=>decide (c≠91)).length x.length=bsB (x.dropWhile fun c=>decide (c≠91)):=by
 have h1:=List.drop_left (l₁:=x.takeWhile fun c=>decide (c≠91)) (l₂:=x.dropWhile fun c=>decide (c≠91));rw[List.takeWhile_append_dropWhile]at h1;rw[←zbk x,zd4,zbh,h1]
section
variable {ws : List Bs} {n r : Bs}
theorem zk7 (h:refS ws=some (n,none)) (hn:zhz n=false):refF ws=([],false,0,0,4):=by
 unfold refF;rw[h];dsimp only;rw[if_neg (by rw[hn];simp)]
theorem zlc (h:refS ws=some (n,none)) (hn:zhz n=true):refF ws=(n,false,0,0,0):=by
 unfold refF;rw[h];dsimp only;rw[if_pos hn]
theorem zk8 (h:refS ws=some (n,some r)) (hn:zhz n=false):refF ws=([],false,0,0,4):=by
 unfold refF;rw[h];dsimp only;rw[if_pos hn]
theorem zk9 (h:refS ws=some (n,some r)) (hn:zhz n=true) (he:(zkN r).2.2≠0):refF ws=([],false,0,0,(zkN r).2.2):=by
 unfold refF;rw[h];dsimp only;rw[if_neg (by rw[hn];simp),if_pos he]
theorem zld (h:refS ws=some (n,some r)) (hn:zhz n=true) (he:(zkN r).2.2=0):refF ws=(n,true,(zkN r).1,(zkN r).2.1,0):=by
 unfold refF;rw[h];dsimp only;rw[if_neg (by rw[hn];simp),if_neg (by rw[he];simp)]
end
def zau (L:List Bs) (w:World) (e:Ending) (w':World):Prop:=
 e=.returned (.tuple #[.string (bsB (refF L).1),.bool (refF L).2.1,.int .i64 (refF L).2.2.1,.int .i64 (refF L).2.2.2.1,.int .i64 (refF L).2.2.2.2])∧Below w.heap.size w w'
theorem zhS (b o cap:Nat) (x y:Bs) (w:World) (hg:zag w) (h0:w.cell? ⟨b,o,none⟩=some (.string (bsB x))) (h1:w.cell? ⟨b,o+1,none⟩=some (.string (bsB y))) (hx:x.length≤2000000) (hy:y.length≤2000000):
 Calls Tryz.prog 174 #[.slice (some ⟨b,o,none⟩) 2 cap] w (zau [x,y] w):=by
 unfold zau;obtain⟨R,hR⟩:∃R,R=refF [x,y]:=⟨_,rfl⟩;rw[←hR];have HRR:=lhd hR;have HG:=lhd hg;have hnv:=fun(W:World)=>zhU (bsB x) W (by rw[zbk];omega);rw[zbh]at hnv;have HNV:=lhd hnv;clear hnv;clear hR hg;go_enter Tryz.func174,Tryz.ntmps174;cases hnm:zhz x
 ·have HQ:=lhd (HRR.out.trans (zk8 (show refS [x,y]=some (x,some y)from rfl) hnm));rw[hnm]at HNV;clear hnm;go_wp2_with fail;refine(HNV.out _).mono ?_;rintro e w1 ⟨rfl,hb1⟩;have HB1:=lhd (show Below w.heap.size w w1 by first|exact hb1|exact za6 hb1);clear hb1;go_wp2_with fail;refine bodyPost_ret (v:=.tuple #[.string ⟨#[]⟩,.bool false,.int .i64 0,.int .i64 0,.int .i64 4]) (by simp[results,Tryz.results174,go_sem]) rfl ?_;rw[HQ.out];exact⟨rfl,HB1.out⟩
 rw[hnm]at HNV;have HRG:=lhd (fun W (h:Below w.heap.size w W)=>zhQ y W (HG.out.below h) (by omega));by_cases he0:(zkN y).2.2=0
 ·have HQ:=lhd (HRR.out.trans (zld (show refS [x,y]=some (x,some y)from rfl) hnm he0));rw[he0]at HRG;generalize (zkN y).1=mm at*;generalize (zkN y).2.1=ll at*;clear hnm he0;go_wp2_with fail;refine(HNV.out _).mono ?_;rintro e w1 ⟨rfl,hb1⟩;have HB1:=lhd (show Below w.heap.size w w1 by first|exact hb1|exact za6 hb1);clear hb1;go_wp2_with fail;refine(HRG.out _ HB1.out).mono ?_;rintro e w2 ⟨rfl,hb2⟩;have HB2:=lhd (zd5 HB1.out hb2);clear hb2;go_wp2_with fail;refine bodyPost_ret (v:=.tuple #[.string (bsB x),.bool true,.int .i64 mm,.int .i64 ll,.int .i64 0]) (by simp[results,Tryz.results174,go_sem]) rfl ?_;rw[HQ.out];exact⟨rfl,HB2.out⟩
 ·have HQ:=lhd (HRR.out.trans (zk9 (show refS [x,y]=some (x,some y)from rfl) hnm he0));have b0:((zkN y).2.2==0)=false:=by rw[beq_eq_false_iff_ne];exact he0
  generalize (zkN y).2.2=ee at*;generalize (zkN y).1=mm at*;generalize (zkN y).2.1=ll at*;clear hnm he0;go_wp2_with fail;refine(HNV.out _).mono ?_;rintro e w1 ⟨rfl,hb1⟩;have HB1:=lhd (show Below w.heap.size w w1 by first|exact hb1|exact za6 hb1);clear hb1;go_wp2_with fail;refine(HRG.out _ HB1.out).mono ?_;rintro e w2 ⟨rfl,hb2⟩;have HB2:=lhd (zd5 HB1.out hb2);clear hb2;go_wp2_with fail;refine bodyPost_ret (v:=.tuple #[.string ⟨#[]⟩,.bool false,.int .i64 0,.int .i64 0,.int .i64 ee]) (by simp[results,Tryz.results174,go_sem]) rfl ?_;rw[HQ.out];exact⟨rfl,HB2.out⟩
theorem zhR (b o cap:Nat) (x:Bs) (w:World) (hg:zag w) (h0:w.cell? ⟨b,o,none⟩=some (.string (bsB x))) (hx:x.length≤2000000):
 Calls Tryz.prog 174 #[.slice (some ⟨b,o,none⟩) 1 cap] w (zau [x] w):=by
 unfold zau;obtain⟨R,hR⟩:∃R,R=refF [x]:=⟨_,rfl⟩;rw[←hR];have HRR:=lhd hR;have HG:=lhd hg;have HIX:=lhd (zhY x w);have hsz:=zbk x;clear hR hg;by_cases hm:91∈x
 ·rw[if_pos hm]at HIX;have hx1:=zcy x;have hx2:=zcx x;have hl1:(x.takeWhile fun c=>decide (c≠91)).length≤x.length:=(List.takeWhile_prefix _).length_le;have hl2:(x.dropWhile fun c=>decide (c≠91)).length≤x.length:=(List.dropWhile_suffix _).length_le
  obtain⟨c0,u,hxu⟩:∃c0 u,x=c0::u:=by
   cases x with
   |nil=>cases hm
   |cons c0 u=>exact⟨_,_,rfl⟩
  have hc0:∀h:0<(bsB x).size,(bsB x)[0]'h=c0:=fun h=>by subst hxu;rfl
  have hpos:0<(bsB x).size:=by rw[hsz,hxu];simp
  by_cases h92:c0=92
  ·have HS:=lhd (show refS [x]=some (x,none)by
    show(if 91∈x∧x.head? ≠some 92 then _ else some (x,none))=_;rw[if_neg (by rw[hxu,h92];simp)])
   have b92:((c0.toNat:Int)==92)=true:=by rw[h92];rfl
   have hnv:=fun(W:World)=>zhU (bsB x) W (by rw[zbk];omega);rw[zbh]at hnv;have HNV:=lhd hnv;clear hnv;generalize (x.takeWhile fun c=>decide (c≠91)).length=k at*;clear hm hxu h92 hx1 hx2 hl2;go_enter Tryz.func174,Tryz.ntmps174;go_wp2_with fail;refine HIX.out.mono ?_;rintro e w' ⟨rfl,rfl⟩;cases hnm:zhz x
   ·have HQ:=lhd (HRR.out.trans (zk7 HS.out hnm));rw[hnm]at HNV;clear hnm;go_wp2_with fail;refine(HNV.out _).mono ?_;rintro e w1 ⟨rfl,hb1⟩;have HB1:=lhd hb1;clear hb1;go_wp2_with fail;refine bodyPost_ret (v:=.tuple #[.string ⟨#[]⟩,.bool false,.int .i64 0,.int .i64 0,.int .i64 4]) (by simp[results,Tryz.results174,go_sem]) rfl ?_;rw[HQ.out];exact⟨rfl,HB1.out⟩
   ·have HQ:=lhd (HRR.out.trans (zlc HS.out hnm));rw[hnm]at HNV;clear hnm;go_wp2_with fail;refine(HNV.out _).mono ?_;rintro e w1 ⟨rfl,hb1⟩;have HB1:=lhd hb1;clear hb1;go_wp2_with fail;refine bodyPost_ret (v:=.tuple #[.string (bsB x),.bool false,.int .i64 0,.int .i64 0,.int .i64 0]) (by simp[results,Tryz.results174,go_sem]) rfl ?_;rw[HQ.out];exact⟨rfl,HB1.out⟩
  ·have HS:=lhd (show refS [x]=some (x.takeWhile fun c=>decide (c≠91),some (x.dropWhile fun c=>decide (c≠91)))by
    show(if 91∈x∧x.head? ≠some 92 then _ else some (x,none))=_;rw[if_pos ⟨hm,by rw[hxu];simpa using h92⟩])
   have b92:((c0.toNat:Int)==92)=false:=by
    rw[beq_eq_false_iff_ne];intro h;exact h92 (UInt8.toNat_inj.1 (by simpa using (show c0.toNat=92 by omega)))
   generalize (x.dropWhile fun c=>decide (c≠91))=y at*;obtain⟨k,hk⟩:∃k,k=(x.takeWhile fun c=>decide (c≠91)).length:=⟨_,rfl⟩;rw[←hk]at HIX hx1 hx2 hl1;generalize (x.takeWhile fun c=>decide (c≠91))=z at*;have hnv:=fun(W:World)=>zhU (bsB z) W (by rw[zbk];omega);rw[zbh]at hnv;have HNV:=lhd hnv;clear hnv;clear hm hxu h92 hk;go_enter Tryz.func174,Tryz.ntmps174;go_wp2_with fail;refine HIX.out.mono ?_;rintro e w' ⟨rfl,he⟩;have he:=he.symm;subst he;go_wp2_with fail;go_region
   cases hnm:zhz z
   ·have HQ:=lhd (HRR.out.trans (zk8 HS.out hnm));rw[hnm]at HNV;clear hnm;go_wp2_with fail;refine(HNV.out _).mono ?_;rintro e w1 ⟨rfl,hb1⟩;have HB1:=lhd (show Below w.heap.size w w1 by first|exact hb1|exact za6 hb1);clear hb1;go_wp2_with fail;refine bodyPost_ret (v:=.tuple #[.string ⟨#[]⟩,.bool false,.int .i64 0,.int .i64 0,.int .i64 4]) (by simp[results,Tryz.results174,go_sem]) rfl ?_;rw[HQ.out];exact⟨rfl,HB1.out⟩
   rw[hnm]at HNV;have HRG:=lhd (fun W (h:Below w.heap.size w W)=>zhQ y W (HG.out.below h) (by omega));by_cases he0:(zkN y).2.2=0
   ·have HQ:=lhd (HRR.out.trans (zld HS.out hnm he0));rw[he0]at HRG;generalize (zkN y).1=mm at*;generalize (zkN y).2.1=ll at*;clear hnm he0;go_wp2_with fail;refine(HNV.out _).mono ?_;rintro e w1 ⟨rfl,hb1⟩;have HB1:=lhd (show Below w.heap.size w w1 by first|exact hb1|exact za6 hb1);clear hb1;go_wp2_with fail;refine(HRG.out _ HB1.out).mono ?_;rintro e w2 ⟨rfl,hb2⟩;have HB2:=lhd (zd5 HB1.out hb2);clear hb2;go_wp2_with fail;refine bodyPost_ret (v:=.tuple #[.string (bsB z),.bool true,.int .i64 mm,.int .i64 ll,.int .i64 0]) (by simp[results,Tryz.results174,go_sem]) rfl ?_;rw[HQ.out];exact⟨rfl,HB2.out⟩
   ·have HQ:=lhd (HRR.out.trans (zk9 HS.out hnm he0));have b0:((zkN y).2.2==0)=false:=by rw[beq_eq_false_iff_ne];exact he0
    generalize (zkN y).2.2=ee at*;generalize (zkN y).1=mm at*;generalize (zkN y).2.1=ll at*;clear hnm he0;go_wp2_with fail;refine(HNV.out _).mono ?_;rintro e w1 ⟨rfl,hb1⟩;have HB1:=lhd (show Below w.heap.size w w1 by first|exact hb1|exact za6 hb1);clear hb1;go_wp2_with fail;refine(HRG.out _ HB1.out).mono ?_;rintro e w2 ⟨rfl,hb2⟩;have HB2:=lhd (zd5 HB1.out hb2);clear hb2;go_wp2_with fail;refine bodyPost_ret (v:=.tuple #[.string ⟨#[]⟩,.bool false,.int .i64 0,.int .i64 0,.int .i64 ee]) (by simp[results,Tryz.results174,go_sem]) rfl ?_;rw[HQ.out];exact⟨rfl,HB2.out⟩
 ·rw[if_neg hm]at HIX
  have HS:=lhd (show refS [x]=some (x,none)by
   show(if 91∈x∧x.head? ≠some 92 then _ else some (x,none))=_;rw[if_neg (fun h=>hm h.1)])
  have hnv:=fun(W:World)=>zhU (bsB x) W (by rw[zbk];omega);rw[zbh]at hnv;have HNV:=lhd hnv;clear hnv;clear hm;go_enter Tryz.func174,Tryz.ntmps174;go_wp2_with fail;refine HIX.out.mono ?_;rintro e w' ⟨rfl,rfl⟩;cases hnm:zhz x
  ·have HQ:=lhd (HRR.out.trans (zk7 HS.out hnm));rw[hnm]at HNV;clear hnm;go_wp2_with fail;refine(HNV.out _).mono ?_;rintro e w1 ⟨rfl,hb1⟩;have HB1:=lhd hb1;clear hb1;go_wp2_with fail;refine bodyPost_ret (v:=.tuple #[.string ⟨#[]⟩,.bool false,.int .i64 0,.int .i64 0,.int .i64 4]) (by simp[results,Tryz.results174,go_sem]) rfl ?_;rw[HQ.out];exact⟨rfl,HB1.out⟩
  ·have HQ:=lhd (HRR.out.trans (zlc HS.out hnm));rw[hnm]at HNV;clear hnm;go_wp2_with fail;refine(HNV.out _).mono ?_;rintro e w1 ⟨rfl,hb1⟩;have HB1:=lhd hb1;clear hb1;go_wp2_with fail;refine bodyPost_ret (v:=.tuple #[.string (bsB x),.bool false,.int .i64 0,.int .i64 0,.int .i64 0]) (by simp[results,Tryz.results174,go_sem]) rfl ?_;rw[HQ.out];exact⟨rfl,HB1.out⟩
end Go.Proofs.YtcdekelomkcahaaGreatDoor
