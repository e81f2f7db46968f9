import Derived.Test.YtbiadennhnokhaaGreatDoorZ00
import Derived.Ground.SlsfProg
import Derived.Shelf.SlSortCmp.Insertion
import Derived.Sort.LotA
import Derived.Test.YtbiadennhnokhaaGreatDoorZ25
set_option maxRecDepth 100000
set_option maxHeartbeats 16000000
namespace Go.Proofs.YtbiadennhnokhaaGreatDoor
open Go.RowKit Go.Sort
theorem no_F (s:Sg) (v:Value) (w:World) (hg:Glob w) (hs:SlR w v s.2.2.length (chs s.2.2)) (hf:Fit s.2.2):
 Calls Tryz.prog 42 #[.agg #[.int .i64 s.1,.int .i64 s.2.1,v]] w fun e w'=>e=.returned (.bool (!svS s))∧Below w.heap.size w w':=by
 obtain⟨a,cap,rfl,-,-⟩:=hs.shape;have hb:=(Below.refl w.heap.size w).alloc (Nat.le_refl _) (.cells #[.int .i64 s.1,.int .i64 s.2.1,.slice a s.2.2.length cap] 45);have HV:=lhd (znc s.1 s.2.1 _ s.2.2 _ (hg.below hb) (hs.below hb) hf);clear hg hs hb;go_enter Tryz.func42,Tryz.ntmps42;go_wp2_with fail;refine HV.out.mono ?_;rintro e w1 ⟨rfl,hb⟩;go_wp2_with fail;go_ret;exact⟨rfl,zel hb⟩
theorem zsY (v:Value) (L:List (Sg×Value)) (w:World) (hg:Glob w) (hs:Sigs w v L) (hf:FitS L):
 Calls Tryz.prog 108 #[v,(.func (.func 42) #[] #[])] w (zq7 (L.any fun x=>!svS x.1) w):=by
 obtain⟨a,cap,rfl,hc,hm⟩:=hs.s.shape;unfold maxLen at hm;have HS:=lhd hs;have HG:=lhd hg;have HF:=lhd hf;clear hs hg hf;go_enter Tryz.func108,Tryz.ntmps108;go_wp2_with fail;go_loopw [8] (fun i wr=>∃j:Nat,j≤L.length∧i=.int .i64 j∧(L.drop j).any (fun x=>!svS x.1)=L.any (fun x=>!svS x.1)∧Below w.heap.size w wr) (fun i _=>L.length-(intOf i).toNat)
 case atStart=>exact⟨0,Nat.zero_le _,rfl,rfl,Below.refl _ _⟩
 case round=>
  obtain⟨j,hj,rfl,hgo,hb⟩:=hrel;have HGO:=lhd hgo;have HB:=lhd hb;clear hgo hb;by_cases hlt:j<L.length
  ·obtain⟨b,o,rfl,d0,d1,d2,hd⟩:=(HS.out.below HB.out).at hlt;have HC:=lhd (no_F L[j].1 L[j].2 wr (HG.out.below HB.out) hd (HF.out.2 _ (List.getElem_mem hlt)));have HGO2:=lhd ((zrs (p:=fun s=>!svS s) hlt).symm.trans HGO.out);generalize L[j]=x at d0 d1 d2 hd HC HGO2;obtain⟨⟨xk,xn,xl⟩,xv⟩:=x;dsimp only at d0 d1 d2 hd HC HGO2;obtain⟨xa,xc,rfl,-,-⟩:=hd.shape;clear hd;go_wp2_with fail;refine HC.out.mono ?_;rintro e w1 ⟨rfl,hb1⟩;have HB1:=lhd (zem HB.out hb1);clear hb1 d0 d1 d2;cases hp:svS (xk,xn,xl)
   ·have HR:=lhd (show true=L.any (fun x=>!svS x.1)by rw[←HGO2.out,hp];rfl);clear hp;go_wp2_with fail;go_ret;exact⟨⟨j,rfl,by rw[←HR.out];simp,by omega⟩,HB1.out⟩
   ·have HGO3:=lhd (show(L.drop (j+1)).any (fun x=>!svS x.1)=L.any (fun x=>!svS x.1)by rw[←HGO2.out,hp];simp);clear hp;go_wp2_with fail;go_roundw;case rel=>exact⟨j+1,by omega,by go_num,HGO3.out,HB1.out⟩
    case measure=>simp[intOf];omega
  ·obtain rfl:j=L.length:=by omega
   have HR:=lhd (show false=L.any (fun x=>!svS x.1)by rw[←HGO.out,List.drop_length];rfl);go_wp2_with fail;go_ret;exact⟨⟨-1,rfl,by rw[←HR.out];rfl,by omega⟩,HB.out⟩
theorem zrQ (v:Value) (L:List (Sg×Value)) (w:World) (hg:Glob w) (hs:Sigs w v L) (hf:FitS L):
 Calls Tryz.prog 41 #[v,(.func (.func 42) #[] #[])] w fun e w'=>e=.returned (.bool (!(L.map Prod.fst).all svS))∧Below w.heap.size w w':=by
 have HI:=lhd (zsY v L w hg hs hf);have HE:=lhd (show(L.any fun x=>!svS x.1)=!(L.map Prod.fst).all svS by rw[List.all_map,List.not_all_eq_any_not];rfl);generalize (L.any fun x=>!svS x.1)=r at HI HE;obtain⟨a,cap,rfl,hc,hm⟩:=hs.s.shape;clear hs hg hf;go_enter Tryz.func41,Tryz.ntmps41;go_wp2_with fail;refine HI.out.mono ?_;rintro e w1 ⟨⟨i,rfl,hi,hi1⟩,hb⟩;have HH:=lhd (hi.trans HE.out);clear hi;go_wp2_with fail;go_ret;exact⟨zli HH.out,hb⟩
end Go.Proofs.YtbiadennhnokhaaGreatDoor
