import Derived.Test.YtfppgpamkdkckaaGreatDoorZ00
import Derived.Test.YtfppgpamkdkckaaGreatDoorZ28
import Derived.Test.YtfppgpamkdkckaaGreatDoorZ44
set_option maxRecDepth 100000
set_option maxHeartbeats 16000000
namespace Go.Proofs.YtfppgpamkdkckaaGreatDoor
open Go.RowKit
set_option linter.unusedSimpArgs false
theorem ztu {x:Int} (h:(Lit.int .i64 x).wf=true):x≤9223372036854775807:=(zkw h).2
theorem zcL:∀(f:Nat) (n:Int),(zcK f n).length≤f
 |0,_=>Nat.le_refl _
 |f+1,n=>by
  unfold zcK;split
  ·exact Nat.zero_le _
  ·split
   ·simp
   ·have:=zcL f (n/94-1);rw[List.length_cons];omega
theorem zcO {f:Nat} {n:Int} (h:n<0∨839514≤n):zcK (f+1) n=[]:=if_pos h
theorem zcN {f:Nat} {n:Int} (h0:0≤n) (h:n<94):zcK (f+1) n=[byE n]:=by
 unfold zcK;rw[if_neg (by omega),if_pos h]
theorem zcM {f:Nat} {n:Int} (h:94≤n) (h1:n<839514):zcK (f+1) n=byE n::zcK f (n/94-1):=by
 rw[zcK,if_neg (by omega),if_neg (by omega)]
theorem zdg (w:World) (g:Nat) (x:Int) (c:UInt8) (hc:(c.toNat:Int)=x) (h:w.heap[g]? =some (.cells #[.int .u8 x] 5 (0,0))):
 (convert 62 9 (.slice (some ⟨g,0,none⟩) 1 1)).run Tryz.prog w=.ok (.string (bsB [c])) w:=
 zdn Tryz.prog w 62 9 5 g 0 1 [c] Tryz.underlying62 Tryz.underlying5 Tryz.underlying9 (fun j v hv=>by
  rw[Lib.cell_of_heap h];match j,hv with
  |0,hv=>
   rw[←hc];exact hv
  |j+1,hv=>cases hv)
theorem znh:∀(f:Nat) (n:Int) (w:World),f≤2→(n<94∨(1≤f∧n<8930)∨f=2)→n≤9223372036854775807→
 Calls Tryz.prog 12 #[.int .i64 n] w fun e w'=>e=.returned (.string (bsB (zcK (f+1) n)))∧Below w.heap.size w w'
 |f,n,w,hf,hn,hx=>by
  by_cases hlo:n<0
  ·have HR:=lhd (zcO (f:=f) (.inl hlo));have hd:decide (n<0)=true:=decide_eq_true hlo;clear hlo hn;go_enter Tryz.func12,Tryz.ntmps12;go_wp2_with fail;go_ret;exact⟨by rw[HR.out];rfl,Below.refl _ _⟩
  have hd:decide (n<0)=false:=decide_eq_false hlo;by_cases hhi:839514≤n
  ·have HR:=lhd (zcO (f:=f) (.inr hhi));have hd2:decide (839514≤n)=true:=decide_eq_true hhi;clear hlo hn hhi;go_enter Tryz.func12,Tryz.ntmps12;go_wp2_with fail;go_ret;exact⟨by rw[HR.out];rfl,Below.refl _ _⟩
  have hd2:decide (839514≤n)=false:=decide_eq_false hhi;have hby:=zbB n;by_cases h94:n<94
  ·have HR:=lhd (zcN (f:=f) (by omega) h94);have hd3:decide (n<94)=true:=decide_eq_true h94;have HCV:=lhd (zdg (w.alloc (.cells #[.int .u8 (33+n)] 5)) w.heap.size (33+n) (byE n) (by omega) (heap_alloc_new _ _));have hcv:=HCV.out;have hw1:IntKind.i64.wrap (33+n)=33+n:=IntWalk.i64_in _ (by omega);have hw2:IntKind.u8.wrap (33+n)=33+n:=IntWalk.u8_in _ (by omega);clear hlo hn hhi h94 hby;go_enter Tryz.func12,Tryz.ntmps12;go_wp2_with fail;go_ret;exact⟨by rw[HR.out];rfl,(Below.refl _ _).alloc (Nat.le_refl _) _⟩
  have hd3:decide (n<94)=false:=decide_eq_false h94;obtain⟨g,rfl⟩:∃g,f=g+1:=⟨f-1,by omega⟩;have HIH:=lhd (fun W=>znh g (n/94-1) W (by omega) (by omega) (by omega));have HR:=lhd (zcM (f:=g+1) (n:=n) (by omega) (by omega));have hln:=zcL (g+1) (n/94-1);have hq:Int.tdiv n 94=n/94:=Int.tdiv_eq_ediv_of_nonneg (by omega);have hr:Int.tmod n 94=n % 94:=Int.tmod_eq_emod_of_nonneg (by omega);have hwq:IntKind.i64.wrap (n/94)=n/94:=IntWalk.i64_in _ (by omega);have hw0:IntKind.i64.wrap (n/94-1)=n/94-1:=IntWalk.i64_in _ (by omega);have hw1:IntKind.i64.wrap (33+n % 94)=33+n % 94:=IntWalk.i64_in _ (by omega);have hw2:IntKind.u8.wrap (33+n % 94)=33+n % 94:=IntWalk.u8_in _ (by omega);generalize zcK (g+1) (n/94-1)=R at*;have HSM:=lhd (show bsB [byE n]++bsB R=bsB (zcK (g+1+1) n)by rw[HR.out,zbo];rfl);have hsz:(bsB [byE n]).size+(bsB R).size≤400000000000000:=by rw[zbt,zbt];simp;omega
  clear hlo hn hhi h94 HR hln hx hf;go_enter Tryz.func12,Tryz.ntmps12;go_upto_region 5 with fail;refine wp_region_held_drew (S:=fun _=>True) (by kernel_rfl) trivial (fun hHeld=>?_);have hdr:Below w.heap.size w w.drew:=(Below.refl _ _).drew;generalize w.drew=wD at*;refine tkH 0 hHeld (v:=?_) ?_;simp only[tkS];refine tkH 1 hHeld (v:=?_) ?_;simp only[tkS];refine tkH 2 hHeld (v:=?_) ?_;simp only[tkS];refine tkH 3 hHeld (v:=?_) ?_;simp only[tkS];refine tkH 6 hHeld (v:=?_) ?_;simp only[tkS];refine tkH 7 hHeld (v:=?_) ?_;simp only[tkS];refine tkH 8 hHeld (v:=?_) ?_;simp only[tkS];have HD:=lhd hdr;clear hdr;refine wpAnyH_ready (rs:=[4,9]) (by kernel_rfl) (by simp) ?_;refine AllReadyH.cons (o:=_) rfl (fun K hK=>?_) (AllReadyH.cons (o:=_) rfl (fun K hK=>?_) AllReadyH.nil)
  ·go_simp;have hb1:Below wD.heap.size wD (wD.alloc (.cells #[.int .u8 (33+n % 94)] 5)):=(Below.refl _ _).alloc (Nat.le_refl _) _;have HN1:=lhd (heap_alloc_new wD (.cells #[.int .u8 (33+n % 94)] 5));have HB1:=lhd hb1;have HZ1:=lhd (show wD.heap.size<(wD.alloc (.cells #[.int .u8 (33+n % 94)] 5)).heap.size by simp);clear hHeld hb1;generalize wD.alloc (.cells #[.int .u8 (33+n % 94)] 5)=w1 at*;refine hK.out _ _ trivial (fun hHeld=>?_);clear hK;try simp only[tkS]
   refine wpAnyH_ready (rs:=[5,9]) (by kernel_rfl) (by simp) ?_;refine AllReadyH.cons (o:=_) rfl (fun K hK=>?_) (AllReadyH.cons (o:=_) rfl (fun K hK=>?_) AllReadyH.nil)
   ·have hcv:=zdg w1 wD.heap.size (33+n % 94) (byE n) hby HN1.out;clear hHeld;go_simp;refine hK.out _ _ trivial (fun hHeld=>?_);clear hK;try simp only[tkS]
    clear hcv;refine oneH 9 (fun K hK=>?_);go_simp;refine(HIH.out w1).mono ?_;rintro e w2 ⟨rfl,hb2⟩;have HB2:=lhd (zfj HD.out (zfj HB1.out hb2));clear hb2 hHeld;go_wp2_with fail;refine hK.out _ _ trivial (fun hHeld=>?_);clear hK;try simp only[tkS]
    refine wpAnyH_take (i:=10) (v:=?_) rfl (by kernel_rfl) (by kernel_rfl) (by kernel_rfl) (fun _ _ _ h=>h) (Or.inl ⟨by rfl,?_⟩) hHeld ?_;rotate_left
    ·intro w hSw;go_simp;rw[if_neg (by omega)]
    simp only[tkS];refine oneH 11 (fun K hK=>?_);go_simp;refine hK.out _ _ trivial (fun hHeld=>?_);clear hK;try simp only[tkS]
    refine wpAnyH_done (by kernel_rfl) ?_ _;clear hHeld;go_wp2_with fail;go_ret;exact⟨by rw[HSM.out];rfl,HB2.out⟩
   ·go_simp;refine(HIH.out w1).mono ?_;rintro e w2 ⟨rfl,hb2⟩;have HB2:=lhd (zfj HD.out (zfj HB1.out hb2));have hcv:=zdg w2 wD.heap.size (33+n % 94) (byE n) hby ((hb2.block _ HZ1.out).trans HN1.out);clear hb2 hHeld;go_wp2_with fail;refine hK.out _ _ trivial (fun hHeld=>?_);clear hK;try simp only[tkS]
    refine oneH 5 (fun K hK=>?_);clear hHeld;go_simp;refine hK.out _ _ trivial (fun hHeld=>?_);clear hK;try simp only[tkS]
    clear hcv;refine wpAnyH_take (i:=10) (v:=?_) rfl (by kernel_rfl) (by kernel_rfl) (by kernel_rfl) (fun _ _ _ h=>h) (Or.inl ⟨by rfl,?_⟩) hHeld ?_;rotate_left
    ·intro w hSw;go_simp;rw[if_neg (by omega)]
    simp only[tkS];refine oneH 11 (fun K hK=>?_);go_simp;refine hK.out _ _ trivial (fun hHeld=>?_);clear hK;try simp only[tkS]
    refine wpAnyH_done (by kernel_rfl) ?_ _;clear hHeld;go_wp2_with fail;go_ret;exact⟨by rw[HSM.out];rfl,HB2.out⟩
  ·go_simp;refine(HIH.out wD).mono ?_;rintro e w1 ⟨rfl,hb1⟩;have HB1:=lhd (zfj HD.out hb1);clear hb1 hHeld;go_wp2_with fail;refine hK.out _ _ trivial (fun hHeld=>?_);clear hK;try simp only[tkS]
   refine oneH 4 (fun K hK=>?_);go_simp;have hcv:=zdg (w1.alloc (.cells #[.int .u8 (33+n % 94)] 5)) w1.heap.size (33+n % 94) (byE n) hby (heap_alloc_new _ _);have HB2:=lhd (HB1.out.alloc HB1.out.size (.cells #[.int .u8 (33+n % 94)] 5));generalize w1.alloc (.cells #[.int .u8 (33+n % 94)] 5)=w2 at*;clear hHeld;refine hK.out _ _ trivial (fun hHeld=>?_);clear hK;try simp only[tkS]
   refine oneH 5 (fun K hK=>?_);clear hHeld;go_simp;refine hK.out _ _ trivial (fun hHeld=>?_);clear hK;try simp only[tkS]
   clear hcv;refine wpAnyH_take (i:=10) (v:=?_) rfl (by kernel_rfl) (by kernel_rfl) (by kernel_rfl) (fun _ _ _ h=>h) (Or.inl ⟨by rfl,?_⟩) hHeld ?_;rotate_left
   ·intro w hSw;go_simp;rw[if_neg (by omega)]
   simp only[tkS];refine oneH 11 (fun K hK=>?_);go_simp;refine hK.out _ _ trivial (fun hHeld=>?_);clear hK;try simp only[tkS]
   refine wpAnyH_done (by kernel_rfl) ?_ _;clear hHeld;go_wp2_with fail;go_ret;exact⟨by rw[HSM.out];rfl,HB2.out⟩
theorem zj1:∀(k:Nat) (l:Bs),numR (l.drop k)=none→numR l=none
 |0,_,h=>h
 |k+1,[],h=>by cases h
 |k+1,c::t,h=>by
  have:=zj1 k t h;rw[numR,this]
theorem zjZ {c:UInt8} {t:Bs} (h:digE c=none):numR (c::t)=none:=by
 rw[numR,h];cases numR t<;>rfl
theorem zj0 {c:UInt8} {t:Bs} {n k:Int} (hn:numR t=some n) (h:digE c=some k):numR (c::t)=some ((if t=[]then n else(n+1)*94)+k):=by
 rw[numR,hn,h]
theorem zki {s:Bs} (h0:¬(s.length<1∨3<s.length)) (h:numR s=none):zkh s=(0,false):=by
 unfold zkh;rw[if_neg h0,h]
theorem zkj {s:Bs} {n:Int} (h0:¬(s.length<1∨3<s.length)) (h:numR s=some n):zkh s=(n,true):=by
 unfold zkh;rw[if_neg h0,h]
theorem znk (s:ByteArray) (w:World) (hs:s.size≤140737488351232):Calls Tryz.prog 10 #[.string s] w fun e w'=>e=.returned (.tuple #[.int .i64 (zkh s.data.toList).1,.bool (zkh s.data.toList).2])∧w=w':=by
 have hlen:s.data.toList.length=s.size:=by simp
 by_cases hz:s.size<1
 ·have HE:=lhd (show zkh s.data.toList=(0,false)from if_pos (.inl (by omega)));have hd:decide ((s.size:Int)<1)=true:=by rw[decide_eq_true_iff];omega
  clear hlen hz;go_enter Tryz.func10,Tryz.ntmps10;go_wp2_with fail;refine bodyPost_ret (v:=.tuple #[.int .i64 0,.bool false]) (by simp[results,Tryz.results10,go_sem]) rfl ?_;rw[HE.out];exact⟨rfl,rfl⟩
 have hd0:decide ((s.size:Int)<1)=false:=by rw[decide_eq_false_iff_not];omega
 by_cases h3:3<s.size
 ·have HE:=lhd (show zkh s.data.toList=(0,false)from if_pos (.inr (by omega)));have hd:decide ((3:Int)<(s.size:Int))=true:=by rw[decide_eq_true_iff];omega
  clear h3 hz hlen;go_enter Tryz.func10,Tryz.ntmps10;go_wp2_with fail;refine bodyPost_ret (v:=.tuple #[.int .i64 0,.bool false]) (by simp[results,Tryz.results10,go_sem]) rfl ?_;rw[HE.out];exact⟨rfl,rfl⟩
 have hd:decide ((3:Int)<(s.size:Int))=false:=by rw[decide_eq_false_iff_not];omega
 have HBAD:=lhd (fun k h=>zki (s:=s.data.toList) (by omega) (zj1 k _ h));have HGOOD:=lhd (fun n h=>zkj (n:=n) (s:=s.data.toList) (by omega) h);have h4:s.size≤3:=by omega
 have h1:1≤s.size:=by omega
 have hws:IntKind.i64.wrap ((s.size:Int)-1)=(s.size:Int)-1:=IntWalk.i64_in _ (by omega);clear h3 hz hlen;go_enter Tryz.func10,Tryz.ntmps10;go_wp2_with fail;go_loopw [4,5] (fun vn vi wr=>∃(k:Nat) (n i:Int),k≤s.size∧vn=.int .i64 n∧vi=.int .i64 i∧i=(k:Int)-1∧numR (s.data.toList.drop k)=some n∧0≤n∧(k=s.size→n=0)∧(k+1=s.size→n≤93)∧(k+2=s.size→n≤8929)∧n≤839513∧w=wr) (fun _ vi _=>(intOf vi+1).toNat)
 case atStart=>exact⟨s.size,0,(s.size:Int)-1,Nat.le_refl _,rfl,by go_num,rfl,by rw[List.drop_of_length_le (by simp)];rfl,by omega,fun _=>rfl,by omega,by omega,by omega,rfl⟩
 case round=>
  obtain⟨k,n,i,hk,rfl,rfl,hi,hq,hn0,ha,hb,hc,hm,rfl⟩:=hrel;have HQ:=lhd hq;clear hq;by_cases hlt:k=0
  ·subst hlt;obtain rfl:i= -1:=by omega
   have HE:=lhd (HGOOD.out n HQ.out);clear hi;go_wp2_with fail;refine bodyPost_ret (v:=.tuple #[.int .i64 n,.bool true]) (by simp[results,Tryz.results10,go_sem]) rfl ?_;rw[HE.out];exact⟨rfl,rfl⟩
  ·obtain⟨j,rfl⟩:∃j,k=j+1:=⟨k-1,by omega⟩;obtain rfl:i=(j:Int):=by omega
   clear hi hlt;have hlt:j<s.size:=by omega
   have hlt2:(j:Int)<(s.size:Int):=by omega
   have hj0:decide ((0:Int)≤(j:Int))=true:=by rw[decide_eq_true_iff];omega
   have HD:=lhd (drop_byte hlt);have hbl:(s[j]'hlt).toNat<256:=(s[j]'hlt).toNat_lt;by_cases hlo:(s[j]'hlt).toNat<33
   ·have HE:=lhd (HBAD.out j (by rw[HD.out];exact zjZ (if_neg (by omega))));have hd1:decide (((s[j]'hlt).toNat:Int)<33)=true:=by rw[decide_eq_true_iff];omega
    clear hlo;go_wp2_with fail;refine bodyPost_ret (v:=.tuple #[.int .i64 0,.bool false]) (by simp[results,Tryz.results10,go_sem]) rfl ?_;rw[HE.out];exact⟨rfl,rfl⟩
   have hd1:decide (((s[j]'hlt).toNat:Int)<33)=false:=by rw[decide_eq_false_iff_not];omega
   by_cases hhi:126<(s[j]'hlt).toNat
   ·have HE:=lhd (HBAD.out j (by rw[HD.out];exact zjZ (if_neg (by omega))));have hd2:decide ((126:Int)<((s[j]'hlt).toNat:Int))=true:=by rw[decide_eq_true_iff];omega
    clear hlo hhi;go_wp2_with fail;refine bodyPost_ret (v:=.tuple #[.int .i64 0,.bool false]) (by simp[results,Tryz.results10,go_sem]) rfl ?_;rw[HE.out];exact⟨rfl,rfl⟩
   have hd2:decide ((126:Int)<((s[j]'hlt).toNat:Int))=false:=by rw[decide_eq_false_iff_not];omega
   have HN:=lhd (show numR (s.data.toList.drop j)=some ((if s.data.toList.drop (j+1)=[]then n else(n+1)*94)+(((s[j]'hlt).toNat:Int)-33))by
    rw[HD.out];exact zj0 HQ.out (if_pos ⟨by omega,by omega⟩))
   have hx0:0≤(((s[j]'hlt).toNat:Int)-33):=by omega
   have hx1:(((s[j]'hlt).toNat:Int)-33)≤93:=by omega
   have hwu:IntKind.u8.wrap (((s[j]'hlt).toNat:Int)-33)=((s[j]'hlt).toNat:Int)-33:=IntWalk.u8_in _ (by omega);have hwx:IntKind.i64.wrap (((s[j]'hlt).toNat:Int)-33)=((s[j]'hlt).toNat:Int)-33:=IntWalk.i64_in _ (by omega);have hwj:IntKind.i64.wrap ((j:Int)-1)=(j:Int)-1:=IntWalk.i64_in _ (by omega);clear hlo hhi HD HQ HBAD;by_cases hj:j+1=s.size
   ·have hd3:decide ((j:Int)<(s.size:Int)-1)=false:=by rw[decide_eq_false_iff_not];omega
    have HN2:=lhd (show numR (s.data.toList.drop j)=some (n+(((s[j]'hlt).toNat:Int)-33))by
     have:=HN.out;rwa [if_pos (List.drop_of_length_le (by simp;omega))]at this)
    have hn:=ha hj;have hwn:IntKind.i64.wrap (n+(((s[j]'hlt).toNat:Int)-33))=n+(((s[j]'hlt).toNat:Int)-33):=IntWalk.i64_in _ (by omega);clear HN ha hb hc;go_wp2_with fail;go_roundw;case rel=>exact⟨j,n+(((s[j]'hlt).toNat:Int)-33),(j:Int)-1,by omega,by go_num,by go_num,rfl,HN2.out,by omega,by omega,by omega,by omega,by omega,by first|trivial|rfl⟩
    case measure=>simp[intOf]
   ·have hd3:decide ((j:Int)<(s.size:Int)-1)=true:=by rw[decide_eq_true_iff];omega
    have HN2:=lhd (show numR (s.data.toList.drop j)=some ((n+1)*94+(((s[j]'hlt).toNat:Int)-33))by
     have:=HN.out;rwa [if_neg (fun h=>by have:=congrArg List.length h;simp at this;omega)]at this)
    have hwn0:IntKind.i64.wrap (n+1)=n+1:=IntWalk.i64_in _ (by omega);have hn9:n≤8929:=by omega
    have hwn1:IntKind.i64.wrap ((n+1)*94)=(n+1)*94:=IntWalk.i64_in _ (by omega);have hwn:IntKind.i64.wrap ((n+1)*94+(((s[j]'hlt).toNat:Int)-33))=(n+1)*94+(((s[j]'hlt).toNat:Int)-33):=IntWalk.i64_in _ (by omega);have hq1:j+2=s.size→(n+1)*94+(((s[j]'hlt).toNat:Int)-33)≤8929:=fun h=>by have:=hb h;omega
    clear HN ha hb hc;go_wp2_with fail;go_roundw;case rel=>exact⟨j,(n+1)*94+(((s[j]'hlt).toNat:Int)-33),(j:Int)-1,by omega,by go_num,by go_num,rfl,HN2.out,by omega,by omega,by omega,hq1,by omega,by first|trivial|rfl⟩
    case measure=>simp[intOf]
end Go.Proofs.YtfppgpamkdkckaaGreatDoor
