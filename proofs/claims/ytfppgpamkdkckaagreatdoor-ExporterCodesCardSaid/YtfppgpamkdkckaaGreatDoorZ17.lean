import Derived.Test.YtfppgpamkdkckaaGreatDoorZ00
import Derived.Deep.AppendLies
import Derived.Test.YtfppgpamkdkckaaGreatDoorZ11
set_option maxRecDepth 100000
set_option maxHeartbeats 16000000
namespace Go.Proofs.YtfppgpamkdkckaaGreatDoor
open Go.RowKit
def zjK (k:Int) (v:ByteArray):List Ch→List Ch
 | []=> []
 |c::l=>if(∃d∈l.head?,d.1=c.1)∨(k≠3∧c.2=v)then zjK k v l else c::zjK k c.2 l
def zjR (k n:Int) (l:List Ch):List Ch:=zjK k (vi k n) l
theorem zjL (k:Int):∀(l:List Ch) (v:ByteArray),(zjK k v l).length≤l.length
 | [],_=>Nat.le_refl _
 |c::l,v=>by
  unfold zjK;split
  ·have:=zjL k l v;simp;omega
  ·have:=zjL k l c.2;simp;omega
theorem zjk (j:Nat) (h:j≤1000000000):IntKind.i64.wrap ((j:Int)+1)=(j:Int)+1:=IntWalk.i64_in _ (by omega)
theorem zgk (w:World) (o o':Obj):((w.alloc o).alloc o').heap[w.heap.size+1]? =some o':=by
 have:=heap_alloc_new (w.alloc o) o';rwa [World.size_alloc]at this
theorem zo5 (k n:Int) (v:Value) (l:List Ch) (w:World) (hs:SlR w v l.length (chs l)) (hl:l.length≤1000000):
 Calls Tryz.prog 276 #[.int .i64 k,.int .i64 n,v] w fun e w'=>∃v',e=.returned v'∧w'.ownsRow w.heap.size 57 2 v' (zjR k n l).length (chs (zjR k n l))∧Below w.heap.size w w':=by
 obtain⟨a,cap,rfl,hc,hm⟩:=hs.shape;have HS:=lhd hs;unfold maxLen at hm;obtain⟨i0,hi,iz0,iz1,iz2⟩:=info_parts (P:=Tryz.prog) zb5;clear hs;go_enter Tryz.func276,Tryz.ntmps276;go_wp2_with fail;refine(zr1 k n _).mono ?_;rintro e w1 ⟨rfl,hb⟩;have HB:=lhd hb;clear hb;go_wp2_with fail
 go_loopw [7,8,9,16] (fun o_ v_ _ i wr=>∃(j:Nat) (v:ByteArray) (out:List Ch),j≤l.length∧i=.int .i64 j∧v_=.string v∧out.length≤j∧out++zjK k v (l.drop j)=zjR k n l∧wr.ownsRow w.heap.size 57 2 o_ out.length (chs out)∧Below w.heap.size w wr)
  (fun _ _ _ i _=>l.length-(intOf i).toNat)
 case atStart=>exact⟨0,vi k n,[],Nat.zero_le _,rfl,rfl,Nat.le_refl _,rfl,World.ownsRow_nil _ _ _ _,HB.out⟩
 case round=>
  obtain⟨j,v,out,hj,rfl,rfl,hol,hn,ho,hb⟩:=hrel;obtain⟨ao,co,rfl,hco,hmo⟩:=(SlR.of_own ho).shape;have hsz:=hb.size;have HO:=lhd ho;have HB2:=lhd hb;have HN:=lhd hn;clear ho hb hn HB;by_cases hlt:j<l.length
  ·obtain⟨b,o,rfl,d0,d1⟩:=(HS.out.below HB2.out).ch hlt;have hblt:=zbU d0
   have HN2:Hid (out++(if(∃d∈(l.drop (j+1)).head?,d.1=l[j].1)∨(k≠3∧l[j].2=v)then zjK k v (l.drop (j+1))else l[j]::zjK k l[j].2 (l.drop (j+1)))=zjR k n l):=lhd (by
    have:=HN.out;rw[List.drop_eq_getElem_cons hlt,zjK]at this;exact this)
   have hw1:=zjk j (by omega);have hw2:(0:Int)≤(j:Int)+1:=by omega
   have hw3:((j:Int)+1).toNat=j+1:=by omega
   by_cases hnx:j+1<l.length
   ·obtain⟨b',o',he,x0,-⟩:=(HS.out.below HB2.out).ch hnx;injection he with he;injection he with he1 he2 _;subst he1 he2;have HH:Hid ((l.drop (j+1)).head? =some l[j+1]):=lhd (by rw[List.head?_drop,List.getElem?_eq_getElem hnx]);generalize hc0:l[j]=c at d0 d1 HN2;generalize l[j+1]=d at x0 HH;obtain⟨t,s⟩:=c;obtain⟨t',s'⟩:=d;simp only at d0 d1 x0;clear hc0;have hnx':decide ((j:Int)+1<(l.length:Int))=true:=by simp;omega
    by_cases hsame:t'=t
    ·have HNS:Hid (out++zjK k v (l.drop (j+1))=zjR k n l):=lhd (by
      rw[←HN2.out,if_pos (.inl ⟨(t',s'),by rw[HH.out];rfl,hsame⟩)])
     have hsb:((t':Int)==t)=true:=by rw[beq_iff_eq];exact hsame
     clear hsame;go_wp2_with fail;go_quiet (fail);go_wp2_with fail;go_roundw;case rel=>exact⟨j+1,v,out,by omega,by go_num,rfl,by omega,HNS.out,HO.out.alloc _,below_drewN (HB2.out.alloc hsz _) _⟩
     case measure=>simp[intOf];omega
    ·have hnh:¬ ∃d∈(l.drop (j+1)).head?,d.1=t:=by rw[HH.out];rintro⟨d,hd,he⟩;obtain rfl:=Option.some.inj hd;exact hsame he
     have hsb:((t':Int)==t)=false:=by rw[beq_eq_false_iff_ne];exact hsame
     have HNH:=lhd hnh;clear hsame hnh;by_cases hk3:k=3
     ·have HNS:Hid ((out++ [(t,s)])++zjK k s (l.drop (j+1))=zjR k n l):=lhd (by
       rw[←HN2.out,if_neg (fun h=>h.elim (fun h=>HNH.out h) (fun h=>h.1 hk3))];simp)
      have hkb:(k !=3)=false:=by rw[bne_eq_false_iff_eq];exact hk3
      clear hk3;have hnb:some wr.heap.size≠(Value.slice ao out.length co).ownBlock:=fun e=>by have:=HO.out.lt _ e.symm;omega
      go_wp2_with fail;go_quiet (fail);go_wp2_with fail
      go_region_held3 (fun w'=>w'.cell? ⟨wr.heap.size,0,none⟩=some (.int .i64 t)∧w'.cell? ⟨wr.heap.size,1,none⟩=some (.string s))
       (first
         |go_keep
         |(go_split_ands
           refine⟨?_,?_⟩
           ·(rw[hgrow.cell_far _ (by simp;omega) hnb];assumption)
           ·(rw[hgrow.cell_far _ (by simp;omega) hnb];assumption)))
       ((refine step_append_lies _ (by rfl) _ _ _ (by rfl) w.heap.size 57 i0 _ 2 24 Tryz.underlying58 hi iz0 iz1 iz2 rfl (by omega) (.slice ao out.length co) out.length (chs out) (by rfl) (by exact(HO.out.alloc _).alloc _)
          ⟨wr.heap.size+1,0,none⟩ 1 1 [.int .i64 t,.string s] (by rfl) (by rfl) (World.news_of_block (cs:=#[.int .i64 t,.string s]) (t:=57) (fr:=(0,0)) (by exact zgk wr _ _)) (by simp[Value.oneCell'])
          (by omega) (by unfold maxLen;omega) (by omega) (by simp;omega) (wr.heap.size+1+1) (by simp) ?_;intro gg cap9 w9 hown1 hgrow hat hlt9))
      go_wp2_with fail;go_roundw;case rel=>exact⟨j+1,s,out++ [(t,s)],by omega,by go_num,rfl,by simp;omega,HNS.out,by rw[zcf];simpa[chs,encC] using hown1,Below.grown (below_drewN ((HB2.out.alloc hsz _).alloc (by simp;omega) _) _) hgrow (by simp;omega) (fun q hq=>(HO.out.lt q hq).1)⟩
      case measure=>simp[intOf];omega
     ·have hkb:(k !=3)=true:=by rw[bne_iff_ne];exact hk3
      by_cases hsv:s=v
      ·have HNS:Hid (out++zjK k v (l.drop (j+1))=zjR k n l):=lhd (by
        rw[←HN2.out,if_pos (.inr ⟨hk3,hsv⟩)])
       subst hsv;clear hk3;go_wp2_with fail;go_quiet (fail);go_wp2_with fail;go_roundw;case rel=>exact⟨j+1,s,out,by omega,by go_num,rfl,by omega,HNS.out,HO.out.alloc _,below_drewN (HB2.out.alloc hsz _) _⟩
       case measure=>simp[intOf];omega
      ·have HNS:Hid ((out++ [(t,s)])++zjK k s (l.drop (j+1))=zjR k n l):=lhd (by
        rw[←HN2.out,if_neg (fun h=>h.elim (fun h=>HNH.out h) (fun h=>hsv h.2))];simp)
       have hsb:=za2 hsv;clear hk3 hsv;have hnb:some wr.heap.size≠(Value.slice ao out.length co).ownBlock:=fun e=>by have:=HO.out.lt _ e.symm;omega
       go_wp2_with fail;go_quiet (fail);go_wp2_with fail
       go_region_held3 (fun w'=>w'.cell? ⟨wr.heap.size,0,none⟩=some (.int .i64 t)∧w'.cell? ⟨wr.heap.size,1,none⟩=some (.string s))
        (first
          |go_keep
          |(go_split_ands
            refine⟨?_,?_⟩
            ·(rw[hgrow.cell_far _ (by simp;omega) hnb];assumption)
            ·(rw[hgrow.cell_far _ (by simp;omega) hnb];assumption)))
        ((refine step_append_lies _ (by rfl) _ _ _ (by rfl) w.heap.size 57 i0 _ 2 24 Tryz.underlying58 hi iz0 iz1 iz2 rfl (by omega) (.slice ao out.length co) out.length (chs out) (by rfl) (by exact(HO.out.alloc _).alloc _)
           ⟨wr.heap.size+1,0,none⟩ 1 1 [.int .i64 t,.string s] (by rfl) (by rfl) (World.news_of_block (cs:=#[.int .i64 t,.string s]) (t:=57) (fr:=(0,0)) (by exact zgk wr _ _)) (by simp[Value.oneCell'])
           (by omega) (by unfold maxLen;omega) (by omega) (by simp;omega) (wr.heap.size+1+1) (by simp) ?_;intro gg cap9 w9 hown1 hgrow hat hlt9))
       go_wp2_with fail;go_roundw;case rel=>exact⟨j+1,s,out++ [(t,s)],by omega,by go_num,rfl,by simp;omega,HNS.out,by rw[zcf];simpa[chs,encC] using hown1,Below.grown (below_drewN ((HB2.out.alloc hsz _).alloc (by simp;omega) _) _) hgrow (by simp;omega) (fun q hq=>(HO.out.lt q hq).1)⟩
       case measure=>simp[intOf];omega
   ·have hnh:¬ ∃d∈(l.drop (j+1)).head?,d.1=l[j].1:=by rw[List.drop_eq_nil_of_le (by omega)];rintro⟨d,hd,-⟩;cases hd
    generalize hc0:l[j]=c at d0 d1 HN2 hnh;obtain⟨t,s⟩:=c;simp only at d0 d1;have HNH:=lhd hnh;have hnx':decide ((j:Int)+1<(l.length:Int))=false:=by simp;omega
    clear hc0 hnh hnx;by_cases hk3:k=3
    ·have HNS:Hid ((out++ [(t,s)])++zjK k s (l.drop (j+1))=zjR k n l):=lhd (by
      rw[←HN2.out,if_neg (fun h=>h.elim (fun h=>HNH.out h) (fun h=>h.1 hk3))];simp)
     have hkb:(k !=3)=false:=by rw[bne_eq_false_iff_eq];exact hk3
     clear hk3;have hnb:some wr.heap.size≠(Value.slice ao out.length co).ownBlock:=fun e=>by have:=HO.out.lt _ e.symm;omega
     go_wp2_with fail;go_quiet (fail);go_wp2_with fail
     go_region_held3 (fun w'=>w'.cell? ⟨wr.heap.size,0,none⟩=some (.int .i64 t)∧w'.cell? ⟨wr.heap.size,1,none⟩=some (.string s))
      (first
        |go_keep
        |(go_split_ands
          refine⟨?_,?_⟩
          ·(rw[hgrow.cell_far _ (by simp;omega) hnb];assumption)
          ·(rw[hgrow.cell_far _ (by simp;omega) hnb];assumption)))
      ((refine step_append_lies _ (by rfl) _ _ _ (by rfl) w.heap.size 57 i0 _ 2 24 Tryz.underlying58 hi iz0 iz1 iz2 rfl (by omega) (.slice ao out.length co) out.length (chs out) (by rfl) (by exact(HO.out.alloc _).alloc _)
         ⟨wr.heap.size+1,0,none⟩ 1 1 [.int .i64 t,.string s] (by rfl) (by rfl) (World.news_of_block (cs:=#[.int .i64 t,.string s]) (t:=57) (fr:=(0,0)) (by exact zgk wr _ _)) (by simp[Value.oneCell'])
         (by omega) (by unfold maxLen;omega) (by omega) (by simp;omega) (wr.heap.size+1+1) (by simp) ?_;intro gg cap9 w9 hown1 hgrow hat hlt9))
     go_wp2_with fail;go_roundw;case rel=>exact⟨j+1,s,out++ [(t,s)],by omega,by go_num,rfl,by simp;omega,HNS.out,by rw[zcf];simpa[chs,encC] using hown1,Below.grown (below_drewN ((HB2.out.alloc hsz _).alloc (by simp;omega) _) _) hgrow (by simp;omega) (fun q hq=>(HO.out.lt q hq).1)⟩
     case measure=>simp[intOf];omega
    ·have hkb:(k !=3)=true:=by rw[bne_iff_ne];exact hk3
     by_cases hsv:s=v
     ·have HNS:Hid (out++zjK k v (l.drop (j+1))=zjR k n l):=lhd (by
       rw[←HN2.out,if_pos (.inr ⟨hk3,hsv⟩)])
      subst hsv;clear hk3;go_wp2_with fail;go_quiet (fail);go_wp2_with fail;go_roundw;case rel=>exact⟨j+1,s,out,by omega,by go_num,rfl,by omega,HNS.out,HO.out.alloc _,below_drewN (HB2.out.alloc hsz _) _⟩
      case measure=>simp[intOf];omega
     ·have HNS:Hid ((out++ [(t,s)])++zjK k s (l.drop (j+1))=zjR k n l):=lhd (by
       rw[←HN2.out,if_neg (fun h=>h.elim (fun h=>HNH.out h) (fun h=>hsv h.2))];simp)
      have hsb:=za2 hsv;clear hk3 hsv;have hnb:some wr.heap.size≠(Value.slice ao out.length co).ownBlock:=fun e=>by have:=HO.out.lt _ e.symm;omega
      go_wp2_with fail;go_quiet (fail);go_wp2_with fail
      go_region_held3 (fun w'=>w'.cell? ⟨wr.heap.size,0,none⟩=some (.int .i64 t)∧w'.cell? ⟨wr.heap.size,1,none⟩=some (.string s))
       (first
         |go_keep
         |(go_split_ands
           refine⟨?_,?_⟩
           ·(rw[hgrow.cell_far _ (by simp;omega) hnb];assumption)
           ·(rw[hgrow.cell_far _ (by simp;omega) hnb];assumption)))
       ((refine step_append_lies _ (by rfl) _ _ _ (by rfl) w.heap.size 57 i0 _ 2 24 Tryz.underlying58 hi iz0 iz1 iz2 rfl (by omega) (.slice ao out.length co) out.length (chs out) (by rfl) (by exact(HO.out.alloc _).alloc _)
          ⟨wr.heap.size+1,0,none⟩ 1 1 [.int .i64 t,.string s] (by rfl) (by rfl) (World.news_of_block (cs:=#[.int .i64 t,.string s]) (t:=57) (fr:=(0,0)) (by exact zgk wr _ _)) (by simp[Value.oneCell'])
          (by omega) (by unfold maxLen;omega) (by omega) (by simp;omega) (wr.heap.size+1+1) (by simp) ?_;intro gg cap9 w9 hown1 hgrow hat hlt9))
      go_wp2_with fail;go_roundw;case rel=>exact⟨j+1,s,out++ [(t,s)],by omega,by go_num,rfl,by simp;omega,HNS.out,by rw[zcf];simpa[chs,encC] using hown1,Below.grown (below_drewN ((HB2.out.alloc hsz _).alloc (by simp;omega) _) _) hgrow (by simp;omega) (fun q hq=>(HO.out.lt q hq).1)⟩
      case measure=>simp[intOf];omega
  ·obtain rfl:j=l.length:=by omega
   have HE:=lhd (show out=zjR k n l by have:=HN.out;rw[List.drop_length]at this;simpa[zjK] using this);go_wp2_with fail;go_ret;exact⟨_,rfl,by rw[←HE.out];exact HO.out,HB2.out⟩
end Go.Proofs.YtfppgpamkdkckaaGreatDoor
