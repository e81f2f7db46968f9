import Derived.Test.YtbiadennhnokhaaGreatDoorZ00
import Derived.Test.YtbiadennhnokhaaGreatDoorZ30
import Derived.Test.YtbiadennhnokhaaGreatDoorZ34
set_option maxRecDepth 100000
set_option maxHeartbeats 16000000
namespace Go.Proofs.YtbiadennhnokhaaGreatDoor
open Go.RowKit Go.Sort
def zag (r:List Nat×List Dv) (w:World) (e:Ending) (w':World):Prop:=
 ∃v1 v2,e=.returned (.tuple #[v1,v2])∧w'.ownsRow w.heap.size 3 1 v1 r.1.length (nats r.1)∧SlR w' v2 r.2.length (dvs r.2)∧Below w.heap.size w w'
theorem zkh (w:World) (B e size:Nat):w.ownsRow B e size (.slice none 0 0) 0 []:=⟨by simp,.inl ⟨rfl,rfl⟩⟩
theorem zd0:(Tryz.prog.info? 87).map (fun i=>(i.zero,i.size,i.bytes))=some (some (.agg #[.int .i64 0,.int .i64 0,.bool false]),3,24):=by kernel_rfl
theorem zh0 (n:Nat):(madeCells (Value.agg #[.int .i64 0,.int .i64 0,.bool false]).cells (n*3)).toList=dvs (List.replicate n (0,0,false)):=by
 have h:(Value.agg #[.int .i64 0,.int .i64 0,.bool false]).cells=#[.int .i64 0,.int .i64 0,.bool false]:=rfl;rw[h];unfold madeCells;induction n with
 |zero=>simp[dvs]
 |succ n ih=>
  rw[List.replicate_succ',dvs,List.flatMap_append,←dvs,←ih,show(n+1)*3=n*3+1+1+1 by omega];simp[List.range_succ,dvC,show(n*3+1) % 3=1 by omega,show(n*3+1+1) % 3=2 by omega]
theorem zj5 {w:World} {B e size n:Nat} {g c:Nat} {xs:List Value} {v:Value} (h:w.ownsRow B e size v n xs) (hv:v=.slice (some ⟨g,0,none⟩) n c):zas w g xs:=by
 rcases h.2 with⟨h0,-⟩|⟨g',cap',cur,h0,hbase,hb,hn,hm,hsz,htk⟩
 ·rw[hv]at h0;cases h0
 rw[hv]at h0;injection h0 with e1 _ e3;injection e1 with e1;injection e1 with e1 _ _;subst e1 e3;intro j u hj
 have hj':cur.toList[j]? =some u:=by
  rw[←htk,List.getElem?_take]at hj;split at hj
  ·exact hj
  ·cases hj
 rw[Array.getElem?_toList]at hj';exact⟨by simp[World.cell?,hb,hj'],by simp[World.frozen?,hb]⟩
theorem zke {w:World} {B e size n:Nat} {g c:Nat} {xs:List Value} {v:Value} (h:w.ownsRow B e size v n xs) (hv:v=.slice (some ⟨g,0,none⟩) n c):g<w.heap.size:=by
 rcases h.2 with⟨h0,-⟩|⟨g',cap',cur,h0,hbase,hb,-⟩
 ·rw[hv]at h0;cases h0
 rw[hv]at h0;injection h0 with e1 _ e3;injection e1 with e1;injection e1 with e1 _ _;subst e1;rcases Nat.lt_or_ge g w.heap.size with h'|h'
 ·exact h'
 ·rw[Array.getElem?_eq_none h']at hb;cases hb
theorem zj9 {W W':World} {B e size n:Nat} {v:Value} {xs:List Value} (h:W.ownsRow B e size v n xs) (hb:RowKit.Below W.heap.size W W'):W'.ownsRow B e size v n xs:=
 h.kept (row:=none) ⟨hb.os,hb.tape,hb.output,hb.size,fun i hi _=>hb.block i hi⟩ (by cases v.ownBlock<;>simp)
theorem zd6:∀(l:List Dv) (k:Nat) (d:Dv),(((dvs l).set (3*k) (.int .i64 d.1)).set (3*k+1) (.int .i64 d.2.1)).set (3*k+2) (.bool d.2.2)=dvs (l.set k d)
 | [],k,d=>by simp[dvs]
 |x::l,0,d=>by rw[List.set_cons_zero,zd2,zd2];rfl
 |x::l,k+1,d=>by
  rw[zd2,List.set_cons_succ,zd2,←zd6 l k d,show 3*(k+1)=3*k+1+1+1 by omega];simp
theorem zj6 {w:World} {g:Nat} {D:List Dv} {kk:Nat} (h:zas w g (dvs D)) (hk:kk<D.length) (d:Dv):
 zas (((w.setCell ⟨g,kk*3,none⟩ (.int .i64 d.1)).setCell ⟨g,kk*3+1,none⟩ (.int .i64 d.2.1)).setCell ⟨g,kk*3+2,none⟩ (.bool d.2.2)) g (dvs (D.set kk d)):=by
 have hl:=zd3 D;rw[←zd6,Nat.mul_comm 3 kk];exact((h.set (j:=kk*3) (by omega) _).set (j:=kk*3+1) (by simp;omega) _).set (j:=kk*3+2) (by simp;omega) _
theorem zbF {B:Nat} {w W:World} (h:RowKit.Below B w W) {g:Nat} (hg:B≤g) (i j k:Nat) (x y z:Value):
 RowKit.Below B w (((W.setCell ⟨g,i,none⟩ x).setCell ⟨g,j,none⟩ y).setCell ⟨g,k,none⟩ z):=((h.setCell hg _).setCell hg _).setCell hg _
theorem zkp {w:World} {B e size n:Nat} {v:Value} {xs:List Value} (h:w.ownsRow B e size v n xs) {g:Nat} (hg:g<B) (i j k:Nat) (x y z:Value):
 (((w.setCell ⟨g,i,none⟩ x).setCell ⟨g,j,none⟩ y).setCell ⟨g,k,none⟩ z).ownsRow B e size v n xs:=ownsRow_setCell_below (ownsRow_setCell_below (ownsRow_setCell_below h hg _) hg _) hg _
theorem ziy (a b:List Nat):nats (a++b)=nats a++nats b:=by simp[nats]
theorem zok {L:List Sg} {st:List Nat} {ds:List Dv} {kk:Nat} {s:Sg} {r:Option Dv} (h:sgAt L kk=s) (hr:r=zdL L st s):
 (r.isSome=true→zoh L (st,ds) kk=(st,ds.set kk (r.getD (0,0,false))))∧(r.isSome=false→zoh L (st,ds) kk=(st++ [kk],ds.set kk ((kk:Int),0,false))):=by
 subst hr h;unfold zoh;dsimp only;cases zdL L st (sgAt L kk)with
 |none=>exact⟨fun h=>by simp at h,fun _=>rfl⟩
 |some d=>exact⟨fun _=>rfl,fun h=>by simp at h⟩
theorem ziz (st:List Nat):nats st=zgD (st.map fun(k:Nat)=>(k:Int)):=by simp[nats,zgD]
theorem znp (st:List Nat):(st.map fun(k:Nat)=>(k:Int)).mergeSort (fun x y=>decide (x≤y))=(st.mergeSort fun x y=>decide (x≤y)).map fun(k:Nat)=>(k:Int):=by
 rw[List.map_mergeSort];intro a _ b _;rw[Bool.eq_iff_iff,decide_eq_true_iff,decide_eq_true_iff];omega
theorem znq (B:Nat) (v:Value) (st:List Nat) (w:World) (h:w.ownsRow B 3 1 v st.length (nats st)) (hl:st.length≤1000000):
 Calls Tryz.prog 117 #[v] w fun e w'=>e=.returned (.tuple #[])∧w'.ownsRow B 3 1 v (st.mergeSort fun x y=>decide (x≤y)).length (nats (st.mergeSort fun x y=>decide (x≤y)))∧w.grownBy w' v.ownBlock:=by
 rw[ziz]at h;rcases h.2 with⟨rfl,h0⟩|⟨g,cap,cur,rfl,hbase,hb,hn,hm,hsz,htk⟩
 ·have h1:st=[]:=by cases st with
   |nil=>rfl
   |cons x l=>simp at h0
  subst h1;refine(Tryz.slices_Sort_int_none none 0 w).mono ?_;rintro e w' ⟨rfl,rfl⟩;exact⟨rfl,by simpa[nats] using zkh _ _ _ _,World.grownBy.refl _ _⟩
 ·have hlen:(st.map fun(k:Nat)=>(k:Int)).length=st.length:=by simp
  have hH:=holds_of_blockI (ss:=st.map fun(k:Nat)=>(k:Int)) hb (by rw[hlen];rw[Nat.mul_one]at htk;exact htk);have hs:=Tryz.slices_Sort_int g 0 cap (st.map fun(k:Nat)=>(k:Int)) w hH (Array.getElem?_eq_some_iff.1 hb).1 (by rw[hlen];omega);rw[hlen]at hs;refine hs.mono ?_;rintro e w' ⟨rfl,n,os,rfl⟩;have hlen2:((st.map fun(k:Nat)=>(k:Int)).mergeSort fun x y=>decide (x≤y)).length=(st.map fun(k:Nat)=>(k:Int)).length:=List.length_mergeSort _;refine⟨rfl,?_,grownBy_sortedI _⟩;have ho:=ownsRow_sortedI (n:=n) (os:=os) (ts:=(st.map fun(k:Nat)=>(k:Int)).mergeSort fun x y=>decide (x≤y)) hlen2 hbase hb (by rw[hlen];exact hn) hm hsz;rw[List.length_mergeSort,ziz,←znp];rw[hlen]at ho;exact ho
theorem zmz {α:Type} {l:List α} {i:Nat} {a:α} (h:l[i]? =some a):l.set i a=l:=by
 obtain⟨h1,rfl⟩:=List.getElem?_eq_some_iff.1 h;exact List.set_getElem_self h1
def renL (ST:List Nat) (ds:List Dv) (p:Nat):List Dv:=(ds.take p).map (zlz ST)++ds.drop p
theorem zlx (ST:List Nat) (ds:List Dv) (p:Nat):(renL ST ds p).length=ds.length:=by
 unfold renL;rw[List.length_append,List.length_map,List.length_take,List.length_drop];omega
theorem zlv {ST:List Nat} {ds:List Dv} {p:Nat} (h:p<ds.length):(renL ST ds p)[p]? =some ds[p]:=by
 unfold renL;rw[List.getElem?_append_right (by rw[List.length_map,List.length_take];omega),List.length_map,List.length_take,Nat.min_eq_left (by omega),Nat.sub_self,List.getElem?_drop,Nat.add_zero,List.getElem?_eq_getElem h]
theorem zly {ST:List Nat} {ds:List Dv} {p:Nat} (h:p<ds.length):renL ST ds (p+1)=(renL ST ds p).set p (zlz ST ds[p]):=by
 unfold renL;rw[List.set_append_right _ _ (by rw[List.length_map,List.length_take];omega),List.length_map,List.length_take,Nat.min_eq_left (by omega),Nat.sub_self,List.drop_eq_getElem_cons h,List.set_cons_zero,List.take_succ_eq_append_getElem h,List.map_append];simp
theorem zlw (ST:List Nat) (ds:List Dv):renL ST ds ds.length=ds.map (zlz ST):=by
 unfold renL;rw[List.take_length,List.drop_length,List.append_nil]
theorem zgj (v:Value) (st:List Nat) (k:Nat) (w:World) (hs:SlR w v st.length (nats st)) (hk:k∈st) (hl:st.length≤1000000):
 Calls Tryz.prog 118 #[v,.int .i64 (k:Int)] w fun e w'=>e=.returned (.int .i64 ((st.idxOf k:Nat):Int))∧w'=w:=by
 have hlt:=List.idxOf_lt_length_of_mem hk;obtain⟨b,o,cap,rfl,-,-,hcell⟩:=hs.at (by omega)
 have hx:=Tryz.slices_Index_int b o st.length cap (st.map fun(k:Nat)=>(k:Int)) (k:Int) w (by simp) (by omega) (fun j hj=>hcell j _ (by
  rw[List.length_map]at hj;simp[nats,List.getD,hj]))
 rw[Lib.idxOf_hit (st.map fun(k:Nat)=>(k:Int)) st.length (st.idxOf k) (k:Int) hlt (by simp) (by simp[List.getD,hlt]) (fun j hj=>by
  have hne:st[j]≠k:=fun e=>by
   have:=List.not_of_lt_findIdx (p:=(· ==k)) (xs:=st) (i:=j) (by unfold List.idxOf at hj;exact hj);simp[e]at this
  have hjl:j<st.length:=by omega
  simp[List.getD,hjl];omega)]at hx
 exact hx
theorem zeY (w0 w:World) (v:Value) (L:List (Sg×Value)) (so:Value) (hs:Sigs w0 v L) (hw:RowKit.Below w0.heap.size w0 w) (hb:w.cell? ⟨w0.heap.size,0,none⟩=some v) (hl:L.length<20)
 (hown:w.ownsRow (w0.heap.size+1) 3 1 so L.length (nats (List.range L.length))):
 Calls Tryz.prog 113 #[so,.func (.func 114) #[] #[.pointer (some ⟨w0.heap.size,0,none⟩)]] w fun e w'=>
  e=.returned (.tuple #[])∧w'.ownsRow (w0.heap.size+1) 3 1 so L.length (nats (ordF (L.map Prod.fst)))∧RowKit.Below (w0.heap.size+1) w w':=by
 by_cases h0:0<L.length
 ·exact zeX w0 w v L so hs hw hb hl h0 hown
 ·have h1:L=[]:=List.eq_nil_of_length_eq_zero (by omega);subst h1;obtain⟨a,cap,rfl,-,-⟩:=(SlR.of_own hown).shape;have hbs:w0.heap.size+1≤w.heap.size:=by have:=zcn hb;omega
  refine(zaY a cap w0.heap.size w).mono ?_;rintro e w' ⟨rfl,hb'⟩;refine⟨rfl,?_,hb'.mono hbs⟩;have e:ordF (([]:List (Sg×Value)).map Prod.fst)=[]:=by simp[ordF]
  rw[e];exact zj9 hown hb'
theorem zaK (v:Value) (L:List (Sg×Value)) (w:World) (hg:Glob w) (hs:Sigs w v L) (hf:FitS L) (hl:L.length≤8):
 Calls Tryz.prog 47 #[v] w (zag (zeN (L.map Prod.fst)) w):=by
 have hbx:Below w.heap.size w (w.alloc (.cells #[v] 24)):=(Below.refl _ _).alloc (Nat.le_refl _) _;have hcx:=(zas.fresh w #[v] 24).cell (j:=0) rfl
 have HAV:=lhd (zaS v L _ (hs.below hbx) (fun x hx W hW=>by
  have hW':=hbx.trans (hW.mono hbx.size);exact zmY x.1.1 x.1.2.1 x.2 x.1.2.2 W (hg.below hW') ((hs.m x hx).below hW') (hf.2 x hx)))
 obtain⟨i0,hi,iz0,iz1,iz2⟩:=info_parts (P:=Tryz.prog) zgC;obtain⟨i1,hi1,jz0,jz1,jz2⟩:=info_parts (P:=Tryz.prog) zd0;obtain⟨a,cap,rfl,hc,hm⟩:=hs.s.shape;have HS:=lhd hs;have HF:=lhd hf;have HG:=lhd hg;have HBX:=lhd hbx;have hsz:decide ((L.length:Int)>64)=false:=by rw[decide_eq_false_iff_not];omega
 clear hs hf hg hbx;go_enter Tryz.func47,Tryz.ntmps47;go_wp2_with fail;refine HAV.out.mono ?_;rintro e w1 ⟨rfl,hb1⟩;have hcell1:=(hb1.cell (p:=⟨w.heap.size,0,none⟩) (by simp)).trans hcx;have HB1:=lhd (HBX.out.trans (hb1.mono (by simp)));have hz1:w.heap.size+1≤w1.heap.size:=by have:=hb1.size;simpa using this
 clear hb1 HAV;cases hall:L.all fun x=>svS x.1
 ·have HR:=lhd (show zeN (L.map Prod.fst)=([],[])by unfold zeN;rw[List.all_map,if_neg (by rw[show L.all (svS∘Prod.fst)=L.all (fun x=>svS x.1)from rfl,hall];simp)]);clear hall;go_wp2_with fail;refine bodyPost_ret (v:=.tuple #[.slice none 0 0,.slice none 0 0]) (by simp[results,Tryz.results47,go_sem]) rfl ?_;rw[HR.out];exact⟨_,_,rfl,zkh _ _ _ _,SlR.nil _,HB1.out⟩
 have HALL:=lhd hall;clear hall;go_wp2_with fail
 go_loopw [23,4] (fun i o_ wr=>∃(j:Nat),j≤L.length∧i=.int .i64 j∧wr.ownsRow (w.heap.size+1) 3 1 o_ j (nats (List.range j))∧RowKit.Below (w.heap.size+1) w1 wr∧RowKit.Below w.heap.size w wr)
  (fun i _ _=>L.length-(intOf i).toNat)
 case atStart=>exact⟨0,Nat.zero_le _,rfl,zkh _ _ _ _,Below.refl _ _,HB1.out⟩
 case round=>
  obtain⟨j,hj,rfl,ho,hb,hb0⟩:=hrel;obtain⟨ao,co,rfl,-,-⟩:=(SlR.of_own ho).shape;have HO:=lhd ho;have HB:=lhd hb;have HB0:=lhd hb0;clear ho hb hb0 HB1;have HCX:=lhd hcell1;clear hcell1;by_cases hlt:j<L.length
  ·have HC:=lhd (World.news_of_block (w:=wr.alloc (.cells #[.int .i64 j] 3)) (cs:=#[.int .i64 j]) (t:=3) (fr:=(0,0)) (by exact heap_alloc_new wr _));have hcx2:=(HB.out.cell (p:=⟨w.heap.size,0,none⟩) (by simp));have hjl:j≤8:=by omega
   have hszb:=HB.out.size;go_wp2_with (at_builtin;refine wpList_append_own _ rfl _ _ 38 rfl (w.heap.size+1) 3 i0 (.int .i64 0) 1 8 Tryz.underlying38 hi iz0 iz1 iz2 rfl (by decide) _ _ _ rfl (World.ownsRow.alloc (by exact HO.out) _) ⟨wr.heap.size,0,none⟩ 1 1 [.int .i64 j] rfl rfl HC.out (by simp[Value.oneCell']) (by unfold maxLen;omega) (by omega) (by simp;omega) ?_)
   intro v6 w6 ho6 hg6 _;have HO6:=lhd ho6;have HB6:=lhd ((HB.out.alloc (by omega) (.cells #[.int .i64 j] 3)).grown hg6 (by simp;omega) (fun q hq=>(HO.out.lt q hq).1));have HB60:=lhd ((HB0.out.alloc HB0.out.size (.cells #[.int .i64 j] 3)).grown hg6 (by simp;omega) (fun q hq=>by have:=(HO.out.lt q hq).1;omega));clear ho6 hg6;go_wp2_with fail;go_roundw;case rel=>exact⟨j+1,by omega,by go_num,by have:=HO6.out;simpa[nats,List.range_succ] using this,HB6.out,HB60.out⟩
   case measure=>simp[intOf];omega
  ·obtain rfl:j=L.length:=by omega
   have HSO:=lhd (zeY w wr (.slice a L.length cap) L (.slice ao L.length co) HS.out HB0.out ((HB.out.cell (p:=⟨w.heap.size,0,none⟩) (by simp)).trans HCX.out) (by omega) HO.out);have hcx2:=(HB.out.cell (p:=⟨w.heap.size,0,none⟩) (by simp)).trans HCX.out;go_wp2_with fail;refine HSO.out.mono ?_;rintro e w2 ⟨rfl,ho2,hb2⟩;have hcx3:=(hb2.cell (p:=⟨w.heap.size,0,none⟩) (by simp)).trans hcx2;have HO2:=lhd ho2;have HB2:=lhd (HB0.out.trans (hb2.mono (by omega)));clear ho2 hb2 hcx2;obtain⟨w3,hmk,ho3,hg3⟩:=run_make_full (P:=Tryz.prog) (w:=w2) w2.heap.size 76 87 i1 _ 3 Tryz.underlying76 hi1 jz0 jz1 .i64 .i64 L.length (by rw[jz2];omega) (by unfold maxLen;omega) (Nat.le_refl _);have hcx4:=(Below.grown (Below.refl (w.heap.size+1) w2) hg3 (by have:=zcn hcx3;omega) (by simp)).cell (p:=⟨w.heap.size,0,none⟩) (by simp);have hcx4:=hcx4.trans hcx3;go_wp2_with fail;have hmd:(madeCells (Value.agg #[.int .i64 0,.int .i64 0,.bool false]).cells (L.length*3)).toList=dvs (List.replicate L.length (0,0,false)):=zh0 _;have hb3:=Below.grown (Below.refl w2.heap.size w2) hg3 (Nat.le_refl _) (by simp);have hout:zas w3 w2.heap.size (dvs (List.replicate L.length (0,0,false))):=by rw[←hmd];exact zj5 ho3 rfl
   have hz3:w2.heap.size<w3.heap.size:=zke ho3 rfl;have HB3:=lhd hb3;have HOUT:=lhd hout;clear hb3 hout hmd ho3 hg3 hcx4 hmk
   go_loopw [39,5] (fun i st_ wr=>∃(q:Nat),q≤L.length∧i=.int .i64 q∧RowKit.Below w2.heap.size w2 wr∧w2.heap.size<wr.heap.size∧zas wr w2.heap.size (dvs (runF (L.map Prod.fst) ((ordF (L.map Prod.fst)).take q)).2)∧
    wr.ownsRow (w2.heap.size+1) 3 1 st_ (runF (L.map Prod.fst) ((ordF (L.map Prod.fst)).take q)).1.length (nats (runF (L.map Prod.fst) ((ordF (L.map Prod.fst)).take q)).1))
    (fun i _ _=>L.length-(intOf i).toNat)
   case atStart=>exact⟨0,Nat.zero_le _,rfl,HB3.out,hz3,by have:=HOUT.out;simpa[runF] using this,zkh _ _ _ _⟩
   case round=>
    obtain⟨q,hq,rfl,hb,hz,hout,hst⟩:=hrel;obtain⟨asl,cs,rfl,-,-⟩:=(SlR.of_own hst).shape;have HB:=lhd hb;have HO3:=lhd hout;have HST:=lhd hst;clear hb hout hst HB3 HOUT;have hol:(ordF (L.map Prod.fst)).length=L.length:=by rw[(zjW _).length_eq];simp
    by_cases hlt:q<L.length
    ·obtain⟨bo,oo,c',hv,-,-,hcell⟩:=((SlR.of_own HO2.out).below HB.out).at (by omega);injection hv with e1 e2 e3;subst e1;clear e2 e3;obtain⟨kk,hkk⟩:∃kk,(ordF (L.map Prod.fst))[q]? =some kk:=⟨_,List.getElem?_eq_getElem (by omega)⟩;have hkc:=hcell q (.int .i64 (kk:Int)) (by simp[nats,hkk]);have hki:kk<L.length:=by have:=zjU.1 (List.mem_of_getElem? hkk);simpa using this
     have HKK:=lhd hkk;have hbx:=(HB.out.cell (p:=⟨w.heap.size,0,none⟩) (zcn hcx3)).trans hcx3
     have HRUN:=lhd (show runF (L.map Prod.fst) ((ordF (L.map Prod.fst)).take (q+1))=zoh (L.map Prod.fst) (runF (L.map Prod.fst) ((ordF (L.map Prod.fst)).take q)) kk by
      rw[←zlU];congr 1
      rw[List.take_add_one,hkk];rfl)
     have hsub:=zlV (L.map Prod.fst) ((ordF (L.map Prod.fst)).take q);have HSL:=lhd (show(runF (L.map Prod.fst) ((ordF (L.map Prod.fst)).take q)).2.length=L.length by rw[zlT];simp);have HIN:=lhd (show ∀k∈(runF (L.map Prod.fst) ((ordF (L.map Prod.fst)).take q)).1,k<L.length from fun k hk=>by have:=zjU.1 (List.mem_of_mem_take (hsub.mem hk));simpa using this)
     have hsl8:(runF (L.map Prod.fst) ((ordF (L.map Prod.fst)).take q)).1.length≤8:=by
      have:=hsub.length_le;rw[List.length_take]at this;omega
     clear hsub;generalize runF (L.map Prod.fst) ((ordF (L.map Prod.fst)).take q)=σ at HO3 HST HRUN HSL HIN hsl8⊢;obtain⟨st,ds⟩:=σ;dsimp only at HO3 HST HSL HIN hsl8⊢;obtain⟨bb,oo2,e2,y0,y1,y2,hd⟩:=HS.out.at hki;subst e2;have hB0:RowKit.Below w.heap.size w wr:=HB2.out.trans (HB.out.mono HB2.out.size);have HX:=lhd (show sgAt (L.map Prod.fst) kk=L[kk].1 by rw[zmB (by simpa using hki)];simp);have HFX:=lhd (HF.out.2 _ (List.getElem_mem hki));have hvx:svS L[kk].1=true:=List.all_eq_true.1 HALL.out _ (List.getElem_mem hki);generalize L[kk]=x at y0 y1 y2 hd HX HFX hvx;obtain⟨⟨xk,xn,xl⟩,xv⟩:=x;dsimp only at y0 y1 y2 hd HX HFX hvx;obtain⟨xa,xc,rfl,-,-⟩:=hd.shape;have x0:=(hB0.cell (p:=⟨bb,oo2+kk*3,none⟩) (zcn y0)).trans y0;have x1:=(hB0.cell (p:=⟨bb,oo2+kk*3+1,none⟩) (zcn y1)).trans y1;have x2:=(hB0.cell (p:=⟨bb,oo2+kk*3+2,none⟩) (zcn y2)).trans y2
     have HD0:=fun(W:World) (hW:RowKit.Below wr.heap.size wr W)=>zaU (.slice (some ⟨bb,oo2,none⟩) L.length cap) (.slice asl st.length cs) L st (xk,xn,xl) (.slice xa xl.length xc) W (HG.out.below (hB0.trans (hW.mono hB0.size))) (HS.out.below (hB0.trans (hW.mono hB0.size))) HF.out
      ((SlR.of_own HST.out).below hW) (by omega) HIN.out (hd.below (hB0.trans (hW.mono hB0.size))) HFX.out (fun y hy=>zoP (List.all_eq_true.1 HALL.out y hy)) (zoP hvx)
      (fun h0=>⟨zqV (zoI.1 hvx).1 h0,fun y hy hk=>zqV (zoI.1 (List.all_eq_true.1 HALL.out y hy)).1 (by rw[hk];exact h0)⟩)
     obtain⟨r,hr⟩:∃r,r=zdL (L.map Prod.fst) st (xk,xn,xl):=⟨_,rfl⟩;obtain⟨hst1,hst2⟩:=zok (ds:=ds) HX.out hr;unfold zae at HD0;rw[←hr]at HD0;obtain⟨⟨d0,d1,d2⟩,hd0⟩:∃d,d=r.getD (0,0,false):=⟨_,rfl⟩;obtain⟨ok,hok⟩:∃ok,ok=r.isSome:=⟨_,rfl⟩;rw[←hd0,←hok]at HD0;dsimp only at HD0;have HD:=lhd HD0;rw[←hd0,←hok]at hst1;rw[←hok]at hst2;have HT:=lhd hst1;have HN:=lhd hst2;have HBX:=lhd hbx;have HX0:=lhd x0;have HX1:=lhd x1;have HX2:=lhd x2;have hbl:=zcn hbx;have hxl:=zcn x0;clear hst1 hst2 hr hd0 hok HD0 hcell hkk hd y0 y1 y2 hvx;go_upto_region 14 with fail
     go_region_held3 (fun w'=>w'.cell? ⟨w.heap.size,0,none⟩=some (.slice (some ⟨bb,oo2,none⟩) L.length cap)∧w'.cell? ⟨bb,oo2+kk*3,none⟩=some (.int .i64 xk)∧w'.cell? ⟨bb,oo2+kk*3+1,none⟩=some (.int .i64 xn)∧w'.cell? ⟨bb,oo2+kk*3+2,none⟩=some (.slice xa xl.length xc))
      (first|exact⟨hbx,x0,x1,x2⟩|exact⟨v3,v0,v1,v2⟩|(exact⟨(((B5.out.setCell hDg9 _).setCell hDg9 _).setCell hDg9 _).cell (p:=⟨w.heap.size,0,none⟩) hbl|>.trans HBX.out,(((B5.out.setCell hDg9 _).setCell hDg9 _).setCell hDg9 _).cell (p:=⟨bb,oo2+kk*3,none⟩) hxl|>.trans HX0.out,(((B5.out.setCell hDg9 _).setCell hDg9 _).setCell hDg9 _).cell (p:=⟨bb,oo2+kk*3+1,none⟩) hxl|>.trans HX1.out,(((B5.out.setCell hDg9 _).setCell hDg9 _).setCell hDg9 _).cell (p:=⟨bb,oo2+kk*3+2,none⟩) hxl|>.trans HX2.out⟩)|go_keep)
      (first
        |(go_at_call 116;(with_reducible refine(HD.out _ ?_).mono ?_);(exact zbz (RowKit.Below.refl _ _) _);rintro e w5 ⟨rfl,hb5⟩;have b5:=zbL hb5;have v3:=(b5.cell (p:=⟨w.heap.size,0,none⟩) hbl).trans HBX.out;have v0:=(b5.cell (p:=⟨bb,oo2+kk*3,none⟩) hxl).trans HX0.out;have v1:=(b5.cell (p:=⟨bb,oo2+kk*3+1,none⟩) hxl).trans HX1.out;have v2:=(b5.cell (p:=⟨bb,oo2+kk*3+2,none⟩) hxl).trans HX2.out;have B5:=lhd b5;have hz5:=b5.size;clear b5 hb5)
        |(go_at_call 116;(with_reducible refine(HD.out _ ?_).mono ?_);(exact(zbz (RowKit.Below.refl _ _) _).alloc (by simp) _);rintro e w5 ⟨rfl,hb5⟩;have b5:=zbL (zbw hb5);have v3:=(b5.cell (p:=⟨w.heap.size,0,none⟩) hbl).trans HBX.out;have v0:=(b5.cell (p:=⟨bb,oo2+kk*3,none⟩) hxl).trans HX0.out;have v1:=(b5.cell (p:=⟨bb,oo2+kk*3+1,none⟩) hxl).trans HX1.out;have v2:=(b5.cell (p:=⟨bb,oo2+kk*3+2,none⟩) hxl).trans HX2.out;have B5:=lhd b5;have hz5:=b5.size;have hDg9:wr.heap.size≤wr.heap.size:=Nat.le_refl _;have hx5:zas w5 wr.heap.size [.int .i64 0,.int .i64 0,.bool false]:=(zas.fresh wr.drew #[.int .i64 0,.int .i64 0,.bool false] 87).below hb5 (by simp);have x5:=hx5.cell (j:=0) rfl;have x6:=hx5.cell (j:=1) rfl;have x7:=hx5.cell (j:=2) rfl;have z0:=hx5.free (j:=0) (by simp);have z1:=hx5.free (j:=1) (by simp);have z2:=hx5.free (j:=2) (by simp);have hl5:wr.heap.size<w5.heap.size:=(by have:=hb5.size;simp at this;omega);have HX5:=lhd hx5;clear b5 hb5))
     ·rename_i hh
      clear hh;have hx6:=zas.fresh w5 #[.int .i64 d0,.int .i64 d1,.bool d2] 87;have HW6:=lhd (B5.out.alloc B5.out.size (.cells #[.int .i64 d0,.int .i64 d1,.bool d2] 87));have hDl:w5.heap.size<(w5.alloc (.cells #[.int .i64 d0,.int .i64 d1,.bool d2] 87)).heap.size:=by simp
      clear v0 v1 v2 v3 x0 x1 x2 hbx;generalize w5.alloc (.cells #[.int .i64 d0,.int .i64 d1,.bool d2] 87)=w6 at hx6 HW6 hDl⊢;have hDg:=hz5;generalize w5.heap.size=D at hx6 hDl hDg⊢;have c0:=hx6.cell (j:=0) rfl;have c1:=hx6.cell (j:=1) rfl;have c2:=hx6.cell (j:=2) rfl;have g0:=hx6.free (j:=0) (by simp);have g1:=hx6.free (j:=1) (by simp);have g2:=hx6.free (j:=2) (by simp);cases ok
      ·have HST8:=lhd (HN.out rfl);have hx7:=((hx6.set (j:=0) (by simp) (.int .i64 (kk:Int))).set (j:=1) (by simp) (.int .i64 0)).set (j:=2) (by simp) (.bool false);have hw7:=zbI HW6.out hDg (.int .i64 (kk:Int)) (.int .i64 0) (.bool false);have HX7:=lhd hx7;have HW7:=lhd hw7;have HC:=lhd (World.news_of_block (w:=((((w6.setCell ⟨D,0,none⟩ (.int .i64 (kk:Int))).setCell ⟨D,1,none⟩ (.int .i64 0)).setCell ⟨D,2,none⟩ (.bool false))).alloc (.cells #[.int .i64 (kk:Int)] 3)) (cs:=#[.int .i64 (kk:Int)]) (t:=3) (fr:=(0,0)) (by exact heap_alloc_new _ _));have hs7:=(zj9 HST.out HW7.out);have HS7:=lhd hs7;clear hx7 hw7 hs7 hx6;have hsz6:wr.heap.size≤w6.heap.size:=HW6.out.size;go_wp2_with (at_builtin;refine wpList_append_own _ rfl _ _ 38 rfl (w2.heap.size+1) 3 i0 (.int .i64 0) 1 8 Tryz.underlying38 hi iz0 iz1 iz2 rfl (by decide) _ _ _ rfl (World.ownsRow.alloc (by exact HS7.out) _) ⟨w6.heap.size,0,none⟩ 1 1 [.int .i64 (kk:Int)] rfl rfl (by have:=HC.out;simpa using this) (by simp[Value.oneCell']) (by unfold maxLen;omega) (by omega) (by simp;omega) ?_)
       intro v8 w8 ho8 hg8 _;obtain⟨a8,c8,rfl,-,-⟩:=(SlR.of_own ho8).shape;have hw7a:=HW7.out.alloc HW7.out.size (.cells #[.int .i64 (kk:Int)] 3);have hsz7:=hw7a.size;have HB8:=lhd ((HB.out.trans (hw7a.mono HB.out.size)).grown hg8 (by omega) (fun q hq=>by have:=(HST.out.lt q hq).1;omega));have hz8:w2.heap.size<w8.heap.size:=by have:=hg8.size;omega
       have hol:=zas.grown (HO3.out.below hw7a hz) hg8 (by omega) (fun h=>by have:=(HST.out.lt _ h.symm).1;omega);have hx8:=zas.grown (HX7.out.alloc (by simpa using hDl) (.cells #[.int .i64 (kk:Int)] 3)) hg8 (by simp;omega) (fun h=>by have:=(HST.out.lt _ h.symm).2;omega);have HS8:=lhd (show w8.ownsRow (w2.heap.size+1) 3 1 (.slice a8 (st.length+1) c8) (st++ [kk]).length (nats (st++ [kk]))by rw[ziy,List.length_append];exact ho8);clear hw7a hsz7 ho8 hg8 c0 c1 c2 g0 g1 g2;have ho8:=hol;clear hol;have e0:=hx8.cell (j:=0) rfl;have e1:=hx8.cell (j:=1) rfl;have e2:=hx8.cell (j:=2) rfl;obtain⟨old0,old1,old2⟩:=zd1 ds kk (by rw[HSL.out];exact hki);have k0:=ho8.cell (j:=kk*3) (by rw[Nat.mul_comm];exact old0);have k1:=ho8.cell (j:=kk*3+1) (by rw[Nat.mul_comm];exact old1);have k2:=ho8.cell (j:=kk*3+2) (by rw[Nat.mul_comm];exact old2);clear old0 old1 old2;have f0:=ho8.free (j:=kk*3) (by rw[zd3,HSL.out];omega);have f1:=ho8.free (j:=kk*3+1) (by rw[zd3,HSL.out];omega);have f2:=ho8.free (j:=kk*3+2) (by rw[zd3,HSL.out];omega);have HO8:=lhd ho8;clear ho8 hx8;go_wp2_with fail;go_roundw;case rel=>exact⟨q+1,by omega,by go_num,zbF HB8.out (Nat.le_refl _) _ _ _ _ _ _,by simp only[World.size_setCell];omega,by rw[HRUN.out,HST8.out];exact zj6 HO8.out (by rw[HSL.out];exact hki) ((kk:Int),0,false),by rw[HRUN.out,HST8.out];exact zkp HS8.out (by omega) _ _ _ _ _ _⟩
       case measure=>simp[intOf];omega
      ·have HST8:=lhd (HT.out rfl);have hx8:=hx6;have HW8:=HW6;have HS8:=lhd (zj9 HST.out HW6.out);have hsz6:wr.heap.size≤w6.heap.size:=HW6.out.size;have HB8:=lhd (HB.out.trans (HW6.out.mono HB.out.size));have ho8:=HO3.out.below HW6.out hz;clear hx6 c0 c1 c2 g0 g1 g2;have e0:=hx8.cell (j:=0) rfl;have e1:=hx8.cell (j:=1) rfl;have e2:=hx8.cell (j:=2) rfl;obtain⟨old0,old1,old2⟩:=zd1 ds kk (by rw[HSL.out];exact hki);have k0:=ho8.cell (j:=kk*3) (by rw[Nat.mul_comm];exact old0);have k1:=ho8.cell (j:=kk*3+1) (by rw[Nat.mul_comm];exact old1);have k2:=ho8.cell (j:=kk*3+2) (by rw[Nat.mul_comm];exact old2);clear old0 old1 old2;have f0:=ho8.free (j:=kk*3) (by rw[zd3,HSL.out];omega);have f1:=ho8.free (j:=kk*3+1) (by rw[zd3,HSL.out];omega);have f2:=ho8.free (j:=kk*3+2) (by rw[zd3,HSL.out];omega);have HO8:=lhd ho8;clear ho8 hx8;go_wp2_with fail;go_roundw;case rel=>exact⟨q+1,by omega,by go_num,zbF HB8.out (Nat.le_refl _) _ _ _ _ _ _,by simp only[World.size_setCell];omega,by rw[HRUN.out,HST8.out];exact zj6 HO8.out (by rw[HSL.out];exact hki) (d0,d1,d2),by rw[HRUN.out,HST8.out];exact zkp HS8.out (by omega) _ _ _ _ _ _⟩
       case measure=>simp[intOf];omega
     ·rename_i hh
      clear hh;have hx6:=((HX5.out.set (j:=0) (by simp) (.int .i64 d0)).set (j:=1) (by simp) (.int .i64 d1)).set (j:=2) (by simp) (.bool d2);have HW6:=lhd (zbI B5.out hDg9 (.int .i64 d0) (.int .i64 d1) (.bool d2));have hDl:wr.heap.size<(((w5.setCell ⟨wr.heap.size,0,none⟩ (.int .i64 d0)).setCell ⟨wr.heap.size,1,none⟩ (.int .i64 d1)).setCell ⟨wr.heap.size,2,none⟩ (.bool d2)).heap.size:=by simpa using hl5
      clear v0 v1 v2 v3 x0 x1 x2 hbx hx5 x5 x6 x7 z0 z1 z2;generalize ((w5.setCell ⟨wr.heap.size,0,none⟩ (.int .i64 d0)).setCell ⟨wr.heap.size,1,none⟩ (.int .i64 d1)).setCell ⟨wr.heap.size,2,none⟩ (.bool d2)=w6 at hx6 HW6 hDl⊢;have hDg:=hDg9;obtain⟨D,hD⟩:∃D,D=wr.heap.size:=⟨_,rfl⟩;rw[←hD]at hx6 hDl⊢;replace hDg:wr.heap.size≤D:=by omega
      clear hD;have c0:=hx6.cell (j:=0) rfl;have c1:=hx6.cell (j:=1) rfl;have c2:=hx6.cell (j:=2) rfl;have g0:=hx6.free (j:=0) (by simp);have g1:=hx6.free (j:=1) (by simp);have g2:=hx6.free (j:=2) (by simp);cases ok
      ·have HST8:=lhd (HN.out rfl);have hx7:=((hx6.set (j:=0) (by simp) (.int .i64 (kk:Int))).set (j:=1) (by simp) (.int .i64 0)).set (j:=2) (by simp) (.bool false);have hw7:=zbI HW6.out hDg (.int .i64 (kk:Int)) (.int .i64 0) (.bool false);have HX7:=lhd hx7;have HW7:=lhd hw7;have HC:=lhd (World.news_of_block (w:=((((w6.setCell ⟨D,0,none⟩ (.int .i64 (kk:Int))).setCell ⟨D,1,none⟩ (.int .i64 0)).setCell ⟨D,2,none⟩ (.bool false))).alloc (.cells #[.int .i64 (kk:Int)] 3)) (cs:=#[.int .i64 (kk:Int)]) (t:=3) (fr:=(0,0)) (by exact heap_alloc_new _ _));have hs7:=(zj9 HST.out HW7.out);have HS7:=lhd hs7;clear hx7 hw7 hs7 hx6;have hsz6:wr.heap.size≤w6.heap.size:=HW6.out.size;go_wp2_with (at_builtin;refine wpList_append_own _ rfl _ _ 38 rfl (w2.heap.size+1) 3 i0 (.int .i64 0) 1 8 Tryz.underlying38 hi iz0 iz1 iz2 rfl (by decide) _ _ _ rfl (World.ownsRow.alloc (by exact HS7.out) _) ⟨w6.heap.size,0,none⟩ 1 1 [.int .i64 (kk:Int)] rfl rfl (by have:=HC.out;simpa using this) (by simp[Value.oneCell']) (by unfold maxLen;omega) (by omega) (by simp;omega) ?_)
       intro v8 w8 ho8 hg8 _;obtain⟨a8,c8,rfl,-,-⟩:=(SlR.of_own ho8).shape;have hw7a:=HW7.out.alloc HW7.out.size (.cells #[.int .i64 (kk:Int)] 3);have hsz7:=hw7a.size;have HB8:=lhd ((HB.out.trans (hw7a.mono HB.out.size)).grown hg8 (by omega) (fun q hq=>by have:=(HST.out.lt q hq).1;omega));have hz8:w2.heap.size<w8.heap.size:=by have:=hg8.size;omega
       have hol:=zas.grown (HO3.out.below hw7a hz) hg8 (by omega) (fun h=>by have:=(HST.out.lt _ h.symm).1;omega);have hx8:=zas.grown (HX7.out.alloc (by simpa using hDl) (.cells #[.int .i64 (kk:Int)] 3)) hg8 (by simp;omega) (fun h=>by have:=(HST.out.lt _ h.symm).2;omega);have HS8:=lhd (show w8.ownsRow (w2.heap.size+1) 3 1 (.slice a8 (st.length+1) c8) (st++ [kk]).length (nats (st++ [kk]))by rw[ziy,List.length_append];exact ho8);clear hw7a hsz7 ho8 hg8 c0 c1 c2 g0 g1 g2;have ho8:=hol;clear hol;have e0:=hx8.cell (j:=0) rfl;have e1:=hx8.cell (j:=1) rfl;have e2:=hx8.cell (j:=2) rfl;obtain⟨old0,old1,old2⟩:=zd1 ds kk (by rw[HSL.out];exact hki);have k0:=ho8.cell (j:=kk*3) (by rw[Nat.mul_comm];exact old0);have k1:=ho8.cell (j:=kk*3+1) (by rw[Nat.mul_comm];exact old1);have k2:=ho8.cell (j:=kk*3+2) (by rw[Nat.mul_comm];exact old2);clear old0 old1 old2;have f0:=ho8.free (j:=kk*3) (by rw[zd3,HSL.out];omega);have f1:=ho8.free (j:=kk*3+1) (by rw[zd3,HSL.out];omega);have f2:=ho8.free (j:=kk*3+2) (by rw[zd3,HSL.out];omega);have HO8:=lhd ho8;clear ho8 hx8;go_wp2_with fail;go_roundw;case rel=>exact⟨q+1,by omega,by go_num,zbF HB8.out (Nat.le_refl _) _ _ _ _ _ _,by simp only[World.size_setCell];omega,by rw[HRUN.out,HST8.out];exact zj6 HO8.out (by rw[HSL.out];exact hki) ((kk:Int),0,false),by rw[HRUN.out,HST8.out];exact zkp HS8.out (by omega) _ _ _ _ _ _⟩
       case measure=>simp[intOf];omega
      ·have HST8:=lhd (HT.out rfl);have hx8:=hx6;have HW8:=HW6;have HS8:=lhd (zj9 HST.out HW6.out);have hsz6:wr.heap.size≤w6.heap.size:=HW6.out.size;have HB8:=lhd (HB.out.trans (HW6.out.mono HB.out.size));have ho8:=HO3.out.below HW6.out hz;clear hx6 c0 c1 c2 g0 g1 g2;have e0:=hx8.cell (j:=0) rfl;have e1:=hx8.cell (j:=1) rfl;have e2:=hx8.cell (j:=2) rfl;obtain⟨old0,old1,old2⟩:=zd1 ds kk (by rw[HSL.out];exact hki);have k0:=ho8.cell (j:=kk*3) (by rw[Nat.mul_comm];exact old0);have k1:=ho8.cell (j:=kk*3+1) (by rw[Nat.mul_comm];exact old1);have k2:=ho8.cell (j:=kk*3+2) (by rw[Nat.mul_comm];exact old2);clear old0 old1 old2;have f0:=ho8.free (j:=kk*3) (by rw[zd3,HSL.out];omega);have f1:=ho8.free (j:=kk*3+1) (by rw[zd3,HSL.out];omega);have f2:=ho8.free (j:=kk*3+2) (by rw[zd3,HSL.out];omega);have HO8:=lhd ho8;clear ho8 hx8;go_wp2_with fail;go_roundw;case rel=>exact⟨q+1,by omega,by go_num,zbF HB8.out (Nat.le_refl _) _ _ _ _ _ _,by simp only[World.size_setCell];omega,by rw[HRUN.out,HST8.out];exact zj6 HO8.out (by rw[HSL.out];exact hki) (d0,d1,d2),by rw[HRUN.out,HST8.out];exact zkp HS8.out (by omega) _ _ _ _ _ _⟩
       case measure=>simp[intOf];omega
    ·obtain rfl:q=L.length:=by omega
     have htk:(ordF (L.map Prod.fst)).take L.length=ordF (L.map Prod.fst):=by rw[←hol,List.take_length]
     have hfi:=zeS (L.map Prod.fst);have hln:=zlT (L.map Prod.fst) (ordF (L.map Prod.fst));have hsl8:=(zeR (L.map Prod.fst));have HF2:=lhd (show zeN (L.map Prod.fst)=(zon (L.map Prod.fst),zdO (L.map Prod.fst))by unfold zeN;rw[List.all_map,if_pos (show L.all (svS∘Prod.fst)=true from HALL.out)]);have hst0:=HST.out;have hd0:=HO3.out;rw[htk]at hst0 hd0⊢;clear HO3 HST htk hol;have hsd:zon (L.map Prod.fst)=(runF (L.map Prod.fst) (ordF (L.map Prod.fst))).1.mergeSort fun x y=>decide (x≤y):=rfl;have hdd:zdO (L.map Prod.fst)=(runF (L.map Prod.fst) (ordF (L.map Prod.fst))).2.map (zlz (zon (L.map Prod.fst))):=rfl;rw[show zg6 (L.map Prod.fst)=(runF (L.map Prod.fst) (ordF (L.map Prod.fst))).1 from rfl]at hsl8;generalize runF (L.map Prod.fst) (ordF (L.map Prod.fst))=σ at hfi hln hsl8 hst0 hd0 hsd hdd⊢;generalize zon (L.map Prod.fst)=ST at hfi hsd hdd HF2;generalize zdO (L.map Prod.fst)=DD at hdd HF2;obtain⟨st,ds⟩:=σ;dsimp only at hfi hln hsl8 hst0 hd0 hsd hdd⊢;rw[List.length_map]at hln hsl8;have HSO4:=lhd (znq (w2.heap.size+1) (.slice asl st.length cs) st wr hst0 (by omega));rw[←hsd]at HSO4;have HFI:=lhd hfi;have HDD:=lhd hdd;have HLN:=lhd hln;have HD0:=lhd hd0;have HLT:=lhd hst0.lt;have hstl:ST.length=st.length:=by rw[hsd,List.length_mergeSort]
     have hsT8:ST.length≤8:=by omega
     clear hfi hdd hln hd0 hst0 hsd hstl;go_wp2_with fail;refine HSO4.out.mono ?_;rintro e w4 ⟨rfl,ho4,hg4⟩;have HB4:=lhd (HB.out.grown hg4 HB.out.size (fun q hq=>by have:=(HLT.out q hq).1;omega));have HD4:=lhd (zas.grown HD0.out hg4 hz (fun h=>by have:=(HLT.out _ h.symm).1;omega));have hz4:w2.heap.size<w4.heap.size:=by have:=hg4.size;omega
     have HO4:=lhd ho4;clear ho4 hg4 HB HD0 HSO4;go_wp2_with fail
     go_loopw [70] (fun i wr=>∃(p:Nat),p≤L.length∧i=.int .i64 p∧RowKit.Below w2.heap.size w2 wr∧w2.heap.size<wr.heap.size∧zas wr w2.heap.size (dvs (renL ST ds p))∧wr.ownsRow (w2.heap.size+1) 3 1 (.slice asl st.length cs) ST.length (nats ST))
      (fun i _=>L.length-(intOf i).toNat)
     case atStart=>exact⟨0,Nat.zero_le _,rfl,HB4.out,hz4,by have:=HD4.out;simpa[renL] using this,HO4.out⟩
     case round=>
      obtain⟨p,hp,rfl,hb,hz5,hd5,ho5⟩:=hrel;have HB5:=lhd hb;have HD5:=lhd hd5;have HO5:=lhd ho5;clear hb hd5 ho5 HB4 HD4 HO4;by_cases hlp:p<L.length
      ·have hpd:p<ds.length:=by rw[HLN.out];exact hlp
       have hpr:p<(renL ST ds p).length:=by rw[zlx];exact hpd
       have hat:(renL ST ds p)[p]=ds[p]:=Option.some.inj ((List.getElem?_eq_getElem hpr).symm.trans (zlv hpd));obtain⟨old0,old1,old2⟩:=zd1 (renL ST ds p) p hpr;rw[hat]at old0 old1 old2;have k0:=HD5.out.cell (j:=p*3) (by rw[Nat.mul_comm];exact old0);have f0:=HD5.out.free (j:=p*3) (by rw[zd3,zlx];omega);have HST:=lhd (zly (ST:=ST) hpd);have hme:=HFI.out ds[p] (List.getElem_mem hpd)
       have HRL:=lhd (show ∀x:Value,(dvs (renL ST ds p)).set (p*3) x=(((dvs (renL ST ds p)).set (3*p) x).set (3*p+1) (.int .i64 ds[p].2.1)).set (3*p+2) (.bool ds[p].2.2)from fun x=>by
        rw[Nat.mul_comm p 3];symm
        rw[zmz (l:=(dvs (renL ST ds p)).set (3*p) x) (i:=3*p+1) (by rw[List.getElem?_set_ne (by omega)];exact old1)];rw[zmz (by rw[List.getElem?_set_ne (by omega)];exact old2)])
       have hat2:=zlv (ST:=ST) hpd;generalize ds[p]=d at k0 HST hme HRL hat2;obtain⟨do_,df,di⟩:=d;dsimp only at k0 hme HRL;clear old0 old1 old2 hat hpr;by_cases hm1:do_= -1
       ·subst hm1
        have HST2:=lhd (show dvs (renL ST ds (p+1))=dvs (renL ST ds p)by
         rw[HST.out,show zlz ST (-1,df,di)=(-1,df,di)from if_pos rfl,zmz hat2])
        clear hme hat2;go_wp2_with fail;go_roundw;case rel=>exact⟨p+1,by omega,by go_num,HB5.out,hz5,by rw[HST2.out];exact HD5.out,HO5.out⟩
        case measure=>simp[intOf];omega
       ·obtain⟨k,hk,hkm⟩:=hme.resolve_left hm1;subst hk;have hm2:((k:Int) != -1)=true:=by rw[bne_iff_ne];omega
        have HIX:=lhd (zgj (.slice asl st.length cs) ST k wr (SlR.of_own HO5.out) hkm (by omega))
        have HST2:=lhd (show renL ST ds (p+1)=(renL ST ds p).set p (((ST.idxOf k:Nat):Int),df,di)by
         rw[HST.out];congr 1)
        clear hm1 hat2;go_wp2_with fail;refine HIX.out.mono ?_;rintro e w6 ⟨rfl,rfl⟩;go_wp2_with fail;go_roundw
        case rel=>exact⟨p+1,by omega,by go_num,HB5.out.setCell (Nat.le_refl _) _,by simpa using hz5,by
         rw[HST2.out,←zd6,←HRL.out];exact HD5.out.set (by rw[zd3,zlx,HLN.out];omega) _,ownsRow_setCell_below HO5.out (show w2.heap.size<_ from Nat.lt_succ_self _) _⟩
        case measure=>simp[intOf];omega
      ·obtain rfl:p=L.length:=by omega
       go_wp2_with fail;refine bodyPost_ret (v:=.tuple #[.slice asl st.length cs,.slice (some ⟨w2.heap.size,0,none⟩) L.length L.length]) (by simp[results,Tryz.results47,go_sem]) rfl ?_;rw[HF2.out];have hdl:DD.length=L.length:=by rw[HDD.out,List.length_map,HLN.out]
       have hrd:zas wr w2.heap.size (dvs DD):=by
        have:=HD5.out;rw[←HLN.out,zlw,←HDD.out]at this;exact this
       have hw2:=HB2.out.size;refine⟨_,_,rfl,zko HO5.out (by omega),?_,HB2.out.trans (HB5.out.mono hw2)⟩;rw[hdl];exact⟨some ⟨w2.heap.size,0,none⟩,L.length,rfl,Nat.le_refl _,by unfold maxLen;omega,fun h=>by simp at h,fun _=>⟨w2.heap.size,0,rfl,fun j u hj=>by rw[Nat.zero_add];exact hrd.cell hj⟩⟩
open Go.RowKit
set_option linter.unusedSimpArgs false
theorem BI.grown {w W V:World} {t u:Tr} {p q:TP} (h:BI w t p u q W) (hvp:q.vp.ownBlock=none) {v:Value} {n:Nat} {xs:List Value} (ho:W.ownsRow (w.heap.size+2) 57 2 v n xs) (hg:W.grownBy V v.ownBlock):BI w t p u q V:=
 {x:=h.x.grown hg h.lt (fun e=>by have:=(zkd ho e.symm).1;omega)
  s:=h.s.kept hg (zj7 h.s ho (by decide))
  v:=h.v.kept hg (zj7 h.v ho (by decide))
  g:=h.g.kept hg (zj7 h.g ho (by decide))
  c:=fun x hx=>(h.c x hx).imp id (fun h0=>h0.kept hg (zj7 h0 ho (by decide)))
  r:=h.r.kept hg (Or.inl hvp)
  m:=h.m
  b:=h.b.grown hg h.b.size (fun k e=>by have:=(zkd ho e).1;omega)
  k:=h.k.grown hg h.lt2 (fun e=>by have:=(zkd ho e.symm).1;omega)
  l:=h.l}
theorem BI.hit {w W:World} {t u:Tr} {p q:TP} (h:BI w t p u q W) (hvp:q.vp.ownBlock=none) {g c n:Nat} {xs:List Value} (ho:W.ownsRow (w.heap.size+2) 57 2 (.slice (some ⟨g,0,none⟩) n c) n xs) (o:Nat) (z:Value):BI w t p u q (W.setCell ⟨g,o,none⟩ z):=by
 have hlo:=zkd ho (g:=g) rfl;exact
 {x:=h.x.other (by show g≠_;omega) _
  s:=ownsRow_setCell_other (a:=⟨g,o,none⟩) h.s (zkf h.s ho (by decide) rfl) _
  v:=ownsRow_setCell_other (a:=⟨g,o,none⟩) h.v (zkf h.v ho (by decide) rfl) _
  g:=ownsRow_setCell_other (a:=⟨g,o,none⟩) h.g (zkf h.g ho (by decide) rfl) _
  c:=fun x hx=>(h.c x hx).imp id (fun h0=>ownsRow_setCell_other (a:=⟨g,o,none⟩) h0 (zkf h0 ho (by decide) rfl) _)
  r:=ownsRow_setCell_other (a:=⟨g,o,none⟩) h.r (by rw[hvp];intro e;cases e) _
  m:=h.m
  b:=h.b.setCell (by show w.heap.size≤g;omega) _
  k:=h.k.other (by show g≠_;omega) _
  l:=h.l}
structure GpI (w:World) (t:Tr) (p:TP) (u:Tr) (q:TP) (acc:List Gp) (v:Value) (W:World):Prop where
 i:BI w t p u q W
 o:W.ownsRow (w.heap.size+2) 57 2 v acc.length (gps acc)
theorem GpI.next {w W V:World} {t u:Tr} {p q:TP} {acc:List Gp} {v:Value} (h:GpI w t p u q acc v W) (hb:Below W.heap.size W V):GpI w t p u q acc v V:=⟨h.i.next hb,zbE h.o hb⟩
theorem zfH (A:List Gp) (h:Gp) (m:Int):(gps (A++ [h])).set (A.length*2+1) (.int .i64 m)=gps (A++ [(h.1,m)]):=by
 rw[zfB,zfB,List.set_append,if_neg (by rw[zfE];omega),zfE,show A.length*2+1-2*A.length=1 by omega];rfl
theorem GpI.hit {w W:World} {t u:Tr} {p q:TP} {A:List Gp} {x:Gp} {g c:Nat} (h:GpI w t p u q (A++ [x]) (.slice (some ⟨g,0,none⟩) (A.length+1) c) W) (hvp:q.vp.ownBlock=none) (m:Int):
 GpI w t p u q (A++ [(x.1,m)]) (.slice (some ⟨g,0,none⟩) (A.length+1) c) (W.setCell ⟨g,A.length*2+1,none⟩ (.int .i64 m)):=by
 have ho:=h.o;have hl:(A++ [x]).length=A.length+1:=by simp
 have hl2:(A++ [(x.1,m)]).length=A.length+1:=by simp
 rw[hl]at ho;refine⟨h.i.hit hvp ho _ _,?_⟩;rw[hl2,←zfH];exact zkk ho _ _
def zaB (w:World) (t:Tr) (p:TP) (u:Tr) (r:Option (List Gp×Int)) (e:Ending) (W:World):Prop:=match r with
 |none=>zay w t p 2 u e W
 |some r=>zay w t p 0 {u with P:=r.1,en:=r.2} e W
theorem zo4 (w W:World) (t u:Tr) (p q:TP) (h:BI w t p u q W) (ht:TrM w t p) (hvp:q.vp.ownBlock=none) (hl:t.P.length≤1000) (hl2:u.G.length≤1000) (hw:∀s∈u.G,s.2.2.length≤100000):
 Calls Tryz.prog 57 #[.pointer (some ⟨w.heap.size,0,none⟩)] W (zaB w t p u (zpc t u.G)):=by
 have HI:=lhd h;have HT:=lhd ht;have c7:=h.x.cell (j:=7) rfl;have c8:=h.x.cell (j:=8) rfl;obtain⟨pa,pc,ep,-,-⟩:=ht.q.shape;rw[ep]at c7;have HEP:=lhd ep;clear h ht ep;by_cases hen:t.en<0∨1099511627776<t.en
 ·have HR:=lhd (show zpc t u.G=none by unfold zpc;rw[if_pos hen]);rw[HR.out];obtain⟨en,hee⟩:∃en,t.en=en:=⟨_,rfl⟩;rw[hee]at c8 hen;by_cases h0:en<0
  ·go_enter Tryz.func57,Tryz.ntmps57;go_wp2_with fail;go_ret;exact⟨rfl,HI.out.b,fun h=>by cases h⟩
  ·have h1:(1099511627776:Int)<en:=by omega
   clear hen;go_enter Tryz.func57,Tryz.ntmps57;go_wp2_with fail;go_ret;exact⟨rfl,HI.out.b,fun h=>by cases h⟩
 ·obtain⟨en0,hee⟩:∃en,t.en=en:=⟨_,rfl⟩;have hen1:0≤en0:=by omega
  have hen2:en0≤1099511627776:=by omega
  have HTF:=lhd (show zpc t u.G=(zfm 0 [] t.en t.P).map fun r=>(r.1,zhv u.G r.2)by unfold zpc;rw[if_neg hen]);rw[hee]at c8;have HEE:=lhd hee;have hz1:¬en0<0:=by omega
  have hz2:¬(1099511627776:Int)<en0:=by omega
  have HO0:=lhd (World.ownsRow_nil W (w.heap.size+2) 57 2);obtain⟨i0,hi,iz0,iz1,iz2⟩:=info_parts (P:=Tryz.prog) zfA;clear hen hee;go_enter Tryz.func57,Tryz.ntmps57;go_wp2_with fail;clear hz1 hz2;go_loopw [29,3,4,5] (fun i e_ b_ v5 wr=>∃(k:Nat) (b en:Int) (acc:List Gp),k≤t.P.length∧i=.int .i64 k∧e_=.int .i64 en∧b_=.int .i64 b∧acc.length≤k∧zfm b acc en (t.P.drop k)=zfm 0 [] t.en t.P∧0≤en∧en≤1099511627776∧GpI w t p u q acc v5 wr) (fun i _ _ _ _=>t.P.length-(intOf i).toNat)
  case atStart=>exact⟨0,0,en0,[],Nat.zero_le _,rfl,rfl,rfl,Nat.zero_le _,by rw[HEE.out];rfl,hen1,hen2,HI.out,HO0.out⟩
  case round=>
   obtain⟨k,b,en,acc,hk,rfl,rfl,rfl,hal,hgo,he1,he2,hc⟩:=hrel;have HGO:=lhd hgo;have HC:=lhd hc;clear hgo hc c7 c8;by_cases hlt:k<t.P.length
   ·have hsq:=(HT.out.q).below HC.out.i.b;rw[HEP.out]at hsq;obtain⟨gb,go_,rfl,hcell⟩:=hsq.gps hlt;have HDR:=lhd (List.drop_eq_getElem_cons hlt);generalize t.P[k]=x at*;obtain⟨g1,g2⟩:=x;have d0:wr.cell? ⟨gb,go_+k*2,none⟩=some (.int .i64 g1):=hcell 0 _ rfl;have d1:wr.cell? ⟨gb,go_+k*2+1,none⟩=some (.int .i64 g2):=hcell 1 _ rfl;have HBX:=lhd (show Below wr.heap.size wr (wr.alloc (.cells #[.int .i64 g1,.int .i64 g2] 57))from(Below.refl _ _).alloc (Nat.le_refl _) _);clear hcell hsq;by_cases h1:g1<b
    ·have b1:decide (g1<b)=true:=by simpa using h1
     have HR:=lhd (show zpc t u.G=none by
      rw[HTF.out,←HGO.out,HDR.out,zfn,if_pos (Or.inl h1)];rfl)
     rw[HR.out];have HI5:=lhd (HC.out.next HBX.out).i;clear HR HGO HDR;go_wp2_with fail;go_ret;exact⟨rfl,HI5.out.b,fun h=>by cases h⟩
    ·have b1:decide (g1<b)=false:=by simpa using h1
     by_cases h2:g1<0
     ·have b2:decide (g1<0)=true:=by simpa using h2
      have HR:=lhd (show zpc t u.G=none by
       rw[HTF.out,←HGO.out,HDR.out,zfn,if_pos (Or.inr (Or.inl h2))];rfl)
      rw[HR.out];have HI5:=lhd (HC.out.next HBX.out).i;clear HR HGO HDR;go_wp2_with fail;go_ret;exact⟨rfl,HI5.out.b,fun h=>by cases h⟩
     ·have b2:decide (g1<0)=false:=by simpa using h2
      by_cases h3:g2≤g1
      ·have b3:decide (g2≤g1)=true:=by simpa using h3
       have HR:=lhd (show zpc t u.G=none by
        rw[HTF.out,←HGO.out,HDR.out,zfn,if_pos (Or.inr (Or.inr (Or.inl h3)))];rfl)
       rw[HR.out];have HI5:=lhd (HC.out.next HBX.out).i;clear HR HGO HDR;go_wp2_with fail;go_ret;exact⟨rfl,HI5.out.b,fun h=>by cases h⟩
      ·have b3:decide (g2≤g1)=false:=by simpa using h3
       by_cases h4:1099511627777<g2
       ·have b4:decide ((1099511627777:Int)<g2)=true:=by simpa using h4
        have HR:=lhd (show zpc t u.G=none by
         rw[HTF.out,←HGO.out,HDR.out,zfn,if_pos (Or.inr (Or.inr (Or.inr h4)))];rfl)
        rw[HR.out];have HI5:=lhd (HC.out.next HBX.out).i;clear HR HGO HDR;go_wp2_with fail;go_ret;exact⟨rfl,HI5.out.b,fun h=>by cases h⟩
       ·have b4:decide ((1099511627777:Int)<g2)=false:=by simpa using h4
        have HG2:=lhd (show zfm g1 (zaD acc (g1,g2)) (max en (g2-1)) (t.P.drop (k+1))=zfm 0 [] t.en t.P by
         rw[←HGO.out,HDR.out,zfn,if_neg (by omega)])
        have HC5:=lhd (HC.out.next HBX.out);have HXF:=lhd (zas.fresh wr #[.int .i64 g1,.int .i64 g2] 57);have hw5:wr.heap.size<(wr.alloc (.cells #[.int .i64 g1,.int .i64 g2] 57)).heap.size:=by simp
        rcases zno acc with rfl|⟨A,⟨h1_,h2_⟩,rfl⟩
        ·obtain⟨ua,uc,rfl,-,-⟩:=(SlR.of_own HC.out.o).shape;have e0:=HXF.out.cell (j:=0) rfl;have e1:=HXF.out.cell (j:=1) rfl;rw[show([]:List Gp).length=0 from rfl]at*;go_wp2_with fail;generalize wr.alloc (.cells #[.int .i64 g1,.int .i64 g2] 57)=w5 at*;go_quiet (fail);have hb6:Below w5.heap.size w5 (w5.drewN nq):=zby (Below.refl _ _) nq;have HC6:=lhd (HC5.out.next hb6);have HX6:=lhd (HXF.out.below hb6 hw5);have hw6:wr.heap.size<(w5.drewN nq).heap.size:=Nat.lt_of_lt_of_le hw5 hb6.size;clear hb6 e0 e1;generalize w5.drewN nq=w6 at*;have e0:=HX6.out.cell (j:=0) rfl;have e1:=HX6.out.cell (j:=1) rfl;have HNW:=lhd (World.news_of_block (w:=w6.alloc (.cells #[.int .i64 g1,.int .i64 g2] 57)) (cs:=#[.int .i64 g1,.int .i64 g2]) (t:=57) (fr:=(0,0)) (by exact heap_alloc_new _ _));have HBA:=lhd (show Below w6.heap.size w6 (w6.alloc (.cells #[.int .i64 g1,.int .i64 g2] 57))from(Below.refl _ _).alloc (Nat.le_refl _) _);have HC7:=lhd (HC6.out.next HBA.out);have HX7:=lhd (HX6.out.below HBA.out hw6);have hlow:=HC6.out.i.lt2;have HLO:=lhd (fun gq (e:Value.ownBlock (.slice ua 0 uc)=some gq)=>(zkd HC.out.o e).2);have hml:([]:List Gp).length≤1000:=by first|(simp;done)|(simp;omega)
         go_wp2_with (at_builtin;refine wpList_append_own_at _ rfl _ _ 25 rfl (w.heap.size+2) 57 i0 (.agg #[.int .i64 0,.int .i64 0]) 2 16 Tryz.underlying25 hi iz0 iz1 iz2 rfl (by decide) _ _ _ rfl HC7.out.o ⟨w6.heap.size,0,none⟩ 1 1 [.int .i64 g1,.int .i64 g2] rfl rfl HNW.out (by simp[Value.oneCell']) (by unfold maxLen;omega) (by omega) (by simp;omega) ?_)
         intro v8 w8 ho8 hg8 _ _;have HC8:=lhd (show GpI w t p u q ([(g1,g2)]) v8 w8 from⟨HC7.out.i.grown hvp HC7.out.o hg8,by have:=ho8;simpa[zfB,gps,gpC] using this⟩);have HX8:=lhd (HX7.out.grown hg8 (Nat.lt_of_lt_of_le hw6 HBA.out.size) (fun e=>by have:=HLO.out _ e.symm;omega));have HG3:=HG2.out;rw[zaG,←zaG (g1,g2),zaG]at HG3;have HG3:=lhd HG3;clear ho8 hg8 e0 e1 HC7 HX7 HC6 HX6;have e1:=HX8.out.cell (j:=1) rfl;go_wp2_with fail;go_roundw;case rel=>exact⟨k+1,g1,max en (g2-1),[(g1,g2)],hlt,by go_num,by go_num,rfl,by first|(simp;done)|(simp;omega),HG3.out,by omega,by omega,HC8.out⟩
         case measure=>simp[intOf];omega
        ·have ho5:=HC5.out.o;have hlA:(A++ [(h1_,h2_)]).length=A.length+1:=by simp
         rw[hlA]at ho5 hal;obtain⟨g,c,rfl,-,hg1,hg2,hat⟩:=zj8 ho5 (by omega);have k1:=hat (A.length*2+1) (.int .i64 h2_) (by rw[zfB,List.getElem?_append_right (by rw[zfE];omega),zfE,show A.length*2+1-2*A.length=1 by omega];rfl);have z1:=zkb ho5 (A.length*2+1);have e0:=HXF.out.cell (j:=0) rfl;have e1:=HXF.out.cell (j:=1) rfl;clear hat ho5;by_cases hh:g1≤h2_
         ·have bh:decide (g1≤h2_)=true:=by simpa using hh
          have HCH:=lhd (fun(n:Nat) (m:Int)=>(show GpI w t p u q (A++ [(h1_,h2_)]) (.slice (some ⟨g,0,none⟩) (A.length+1) c) _ from HC5.out.next (zby (Below.refl _ _) n)).hit (A:=A) hvp m);go_wp2_with fail;generalize wr.alloc (.cells #[.int .i64 g1,.int .i64 g2] 57)=w5 at*;go_quiet (fail);go_wp2_with fail;go_region
          have HC8:=lhd (HCH.out (nq+1) (max h2_ g2));have HX8:=lhd ((HXF.out.below (zby (Below.refl _ _) (nq+1)) hw5).other (a:=⟨g,A.length*2+1,none⟩) (by show g≠wr.heap.size;have:=(zkd HC.out.o (g:=g) rfl).2;omega) (.int .i64 (max h2_ g2)));have HG3:=HG2.out;rw[zaH,if_pos hh]at HG3;have HG3:=lhd HG3;clear e0 e1 k1 z1 HCH;generalize (w5.drewN (nq+1)).setCell ⟨g,A.length*2+1,none⟩ (.int .i64 (max h2_ g2))=w8 at*;have e1:=HX8.out.cell (j:=1) rfl;go_wp2_with fail;go_roundw;case rel=>exact⟨k+1,g1,max en (g2-1),A++ [(h1_,max h2_ g2)],hlt,by go_num,by go_num,rfl,by simp;omega,HG3.out,by omega,by omega,HC8.out⟩
          case measure=>simp[intOf];omega
         ·have bh:decide (g1≤h2_)=false:=by simpa using hh
          go_wp2_with fail;generalize wr.alloc (.cells #[.int .i64 g1,.int .i64 g2] 57)=w5 at*;go_quiet (fail);have hb6:Below w5.heap.size w5 (w5.drewN nq):=zby (Below.refl _ _) nq;have HC6:=lhd (HC5.out.next hb6);have HX6:=lhd (HXF.out.below hb6 hw5);have hw6:wr.heap.size<(w5.drewN nq).heap.size:=Nat.lt_of_lt_of_le hw5 hb6.size;clear hb6 e0 e1;generalize w5.drewN nq=w6 at*;have e0:=HX6.out.cell (j:=0) rfl;have e1:=HX6.out.cell (j:=1) rfl;have HNW:=lhd (World.news_of_block (w:=w6.alloc (.cells #[.int .i64 g1,.int .i64 g2] 57)) (cs:=#[.int .i64 g1,.int .i64 g2]) (t:=57) (fr:=(0,0)) (by exact heap_alloc_new _ _));have HBA:=lhd (show Below w6.heap.size w6 (w6.alloc (.cells #[.int .i64 g1,.int .i64 g2] 57))from(Below.refl _ _).alloc (Nat.le_refl _) _);have HC7:=lhd (HC6.out.next HBA.out);have HX7:=lhd (HX6.out.below HBA.out hw6);have hlow:=HC6.out.i.lt2;have HLO:=lhd (fun gq (e:Value.ownBlock (.slice (some ⟨g,0,none⟩) (A.length+1) c)=some gq)=>(zkd HC.out.o e).2);have hml:((A++ [(h1_,h2_)]):List Gp).length≤1000:=by first|(simp;done)|(simp;omega)
          go_wp2_with (at_builtin;refine wpList_append_own_at _ rfl _ _ 25 rfl (w.heap.size+2) 57 i0 (.agg #[.int .i64 0,.int .i64 0]) 2 16 Tryz.underlying25 hi iz0 iz1 iz2 rfl (by decide) _ _ _ rfl HC7.out.o ⟨w6.heap.size,0,none⟩ 1 1 [.int .i64 g1,.int .i64 g2] rfl rfl HNW.out (by simp[Value.oneCell']) (by unfold maxLen;omega) (by omega) (by simp;omega) ?_)
          intro v8 w8 ho8 hg8 _ _;have HC8:=lhd (show GpI w t p u q (A++ [(h1_,h2_)]++ [(g1,g2)]) v8 w8 from⟨HC7.out.i.grown hvp HC7.out.o hg8,by have:=ho8;simpa[zfB,gps,gpC] using this⟩);have HX8:=lhd (HX7.out.grown hg8 (Nat.lt_of_lt_of_le hw6 HBA.out.size) (fun e=>by have:=HLO.out _ e.symm;omega));have HG3:=HG2.out;rw[zaH,if_neg (show ¬g1≤h2_ by omega)]at HG3;have HG3:=lhd HG3;clear ho8 hg8 e0 e1 HC7 HX7 HC6 HX6;have e1:=HX8.out.cell (j:=1) rfl;go_wp2_with fail;go_roundw;case rel=>exact⟨k+1,g1,max en (g2-1),A++ [(h1_,h2_)]++ [(g1,g2)],hlt,by go_num,by go_num,rfl,by first|(simp;done)|(simp;omega),HG3.out,by omega,by omega,HC8.out⟩
          case measure=>simp[intOf];omega
   ·obtain rfl:k=t.P.length:=by omega
    have HTF2:=lhd (show zpc t u.G=some (acc,zhv u.G en)by
     rw[HTF.out,←HGO.out,List.drop_length];rfl)
    have c15:=HC.out.i.x.cell (j:=15) rfl;obtain⟨ga,gc,eg⟩:=HC.out.i.vgk;have hML:=HC.out.i.ml;obtain⟨n,hn⟩:∃n,q.M.length=n:=⟨_,rfl⟩;have hn2:n≤1000:=by rw[←hn,hML];exact hl2
    have HN:=lhd (show u.G.length=n by rw[←hML];exact hn);rw[eg,hn]at c15;rw[hn]at eg;have HEG:=lhd eg;have HMN:=lhd hn;have HM:=lhd HC.out.i.m;clear hML hn eg hl2 HGO HTF hlt;obtain⟨ua,uc,rfl,-,-⟩:=(SlR.of_own HC.out.o).shape;have hal2:acc.length≤1000:=by omega
    go_wp2_with fail;go_loopw [101,3] (fun i e_ wr2=>∃(k:Nat) (e2:Int),k≤n∧i=.int .i64 k∧e_=.int .i64 e2∧zhv (u.G.drop k) e2=zhv u.G en∧GpI w t p u q acc (.slice ua acc.length uc) wr2) (fun i _ _=>n-(intOf i).toNat)
    case atStart=>exact⟨0,en,Nat.zero_le _,rfl,rfl,rfl,HC.out⟩
    case round=>
     obtain⟨k,e2,hk2,rfl,rfl,hla,hc2⟩:=hrel;have HLA:=lhd hla;have HC2:=lhd hc2;clear hla hc2 c15;by_cases hlt:k<n
     ·have hku:k<u.G.length:=by rw[HN.out];exact hlt
      have hkm:k<q.M.length:=by rw[HMN.out];exact hlt
      have hMk:q.M[k].1=u.G[k]:=by
       have h1:(q.M.map Prod.fst)[k]? =some q.M[k].1:=by rw[List.getElem?_map,List.getElem?_eq_getElem hkm];rfl
       rw[HM.out,List.getElem?_eq_getElem hku]at h1;exact(Option.some.inj h1).symm
      obtain⟨g,c,eg2,hg1,hg2,s0,s1,s2,s3⟩:=HC2.out.i.sg hkm;have eg3:=HEG.out;rw[eg2]at eg3;injection eg3 with eg3 _ eg4;subst eg3 eg4;have hww:=hw _ (List.getElem_mem hku);have HDR:=lhd (List.drop_eq_getElem_cons hku);rw[hMk]at s0 s1 s3;generalize u.G[k]=x at*;obtain⟨kd,wd,cl⟩:=x;dsimp only at s0 s1 s2 s3 hww;generalize q.M[k].2=vx at*;obtain⟨xa,xc,rfl,-,-⟩:=s3.shape;have HBX:=lhd (show Below wr.heap.size wr (wr.alloc (.cells #[.int .i64 kd,.int .i64 wd,.slice xa cl.length xc] 45))from(Below.refl _ _).alloc (Nat.le_refl _) _);have HC3:=lhd (HC2.out.next HBX.out);rcases zno cl with rfl|⟨B,⟨ct,cv⟩,rfl⟩
      ·have HL2:=lhd (show zhv (u.G.drop (k+1)) e2=zhv u.G en by rw[←HLA.out,HDR.out];rfl);rw[show([]:List Ch).length=0 from rfl]at*;clear s3;go_wp2_with fail;go_roundw;case rel=>exact⟨k+1,e2,hlt,by go_num,rfl,HL2.out,HC3.out⟩
       case measure=>simp[intOf];omega
      ·have HL2:=lhd (show zhv (u.G.drop (k+1)) (max e2 ct)=zhv u.G en by rw[←HLA.out,HDR.out];unfold zhv;rw[List.foldl_cons];simp);obtain⟨xb,xo,xcap,ev,-,-,hat⟩:=s3.at (by simp);injection ev with ev evn evc;subst ev evc;clear evn;have hlB:(B++ [(ct,cv)]).length=B.length+1:=by simp
       have d0:wr.cell? ⟨xb,xo+B.length*2,none⟩=some (.int .i64 ct):=by
        refine hat (B.length*2) _ ?_;have:=(zcH (B++ [(ct,cv)]) B.length (by simp)).1;rw[Nat.mul_comm];simpa using this
       rw[hlB]at hww s2 HBX HC3;have hxb:xb<wr.heap.size:=zcn d0;rw[←HBX.out.cell (p:=⟨xb,xo+B.length*2,none⟩) hxb]at d0;clear s3 hat;go_wp2_with fail;go_roundw;case rel=>exact⟨k+1,max e2 ct,hlt,by go_num,by go_num,HL2.out,HC3.out⟩
       case measure=>simp[intOf];omega
     ·obtain rfl:k=n:=by omega
      have hla:=HLA.out;rw[List.drop_of_length_le (by rw[HN.out];exact Nat.le_refl _)]at hla;obtain rfl:e2=zhv u.G en:=hla;have f16:=HC2.out.i.x.free (j:=16) (by simp[trC]);have f17:=HC2.out.i.x.free (j:=17) (by simp[trC]);have c16:=HC2.out.i.x.cell (j:=16) rfl;have c17:=HC2.out.i.x.cell (j:=17) rfl;have hbi:=HC2.out.i;have hF:=hbi.set (j:=16) (by decide) (.slice ua acc.length uc) (u':={u with P:=acc}) (q':={q with vp:=.slice ua acc.length uc}) rfl (zka hbi.s _ _) (zka hbi.v _ _) (zka hbi.g _ _) (fun x hx=>(hbi.c x hx).imp id (fun h=>zka h _ _)) (zka HC2.out.o _ _) hbi.m;have HF:=lhd (hF.put (j:=17) (by decide) (.int .i64 (zhv u.G en)) (u':={u with P:=acc,en:=zhv u.G en}) rfl rfl rfl rfl rfl);clear hbi hF;go_wp2_with fail;go_ret;rw[HTF2.out];exact⟨rfl,HF.out.b,fun _=>⟨_,HF.out⟩⟩
theorem zjg:∀(l:List Vr) (fm:List Int),(numF fm l).2.length≤fm.length+l.length
 | [],fm=>by simp[numF]
 |v::l,fm=>by
  by_cases h:fm.contains v.sg=true
  ·rw[zi7 h];have:=zjg l fm;simp;omega
  ·rw[zi8 h];have:=zjg l (fm++ [v.sg]);simp at this⊢;omega
theorem zj0 {S:List Sc} {V:List Vr} (h:(zj2 S V).2.2.2=0):(∀n∈(zj2 S V).2.2.1,0≤n)∧(zj2 S V).2.2.1.length≤V.length:=by
 unfold zj2 at h⊢;by_cases he:zcw S V=0
 ·rw[if_neg (by simp[he])];dsimp only;unfold vrF;refine⟨fun n hn=>?_,?_⟩
  ·rcases zjk _ _ n hn with h1|⟨v,hv,rfl⟩
   ·cases h1
   ·unfold vr2 at hv;rw[zgO]at hv;obtain⟨y,hy,rfl⟩:=List.mem_map.1 hv
    have hd:zdD S V=true:=by
     rw[zcF]at he;exact he.d
    exact(zdI hd y hy).2.2
  ·have:=zjg (vr2 S V) [];unfold vr2 at this⊢;rw[zgN]at this;simpa[vr1] using this
 ·rw[if_pos he]at h;exact absurd h he
theorem BI.push {w W V:World} {t u:Tr} {p q:TP} (h:BI w t p u q W) {x:Sg} {vx v8:Value} {n:Nat} (ho:V.ownsRow (w.heap.size+2) 45 3 v8 n (sgs q.M++sgs [(x,vx)])) (hn:n=q.M.length+1) (hg:W.grownBy V q.vg.ownBlock)
 (hc:(x,vx)∈p.M):BI w t p {u with G:=u.G++ [x]} {q with vg:=v8,M:=q.M++ [(x,vx)]} (V.setCell ⟨w.heap.size,15,none⟩ v8):=by
 have hx:zas V w.heap.size (trC t p++trC u q):=h.x.grown hg h.lt (fun e=>by have:=(zkd h.g e.symm).1;omega);exact
 {x:=by
   have:=hx.set (j:=15) (by simp[trC]) v8;exact this
  s:=zka (h.s.kept hg (zj7 h.s h.g (by decide))) _ _
  v:=zka (h.v.kept hg (zj7 h.v h.g (by decide))) _ _
  g:=zka (by rw[zmG,List.length_append];subst hn;exact ho) _ _
  c:=fun y hy=>by
   rcases List.mem_append.1 hy with hy|hy
   ·exact(h.c y hy).imp id (fun h0=>zka (h0.kept hg (zj7 h0 h.g (by decide))) _ _)
   ·obtain rfl:=List.mem_singleton.1 hy;exact Or.inl hc
  r:=zka (h.r.kept hg (zj7 h.r h.g (by decide))) _ _
  m:=by rw[List.map_append,h.m];rfl
  b:=(h.b.grown hg h.b.size (fun k e=>by have:=(zkd h.g e).1;omega)).setCell (by simp) _
  k:=(h.k.grown hg h.lt2 (fun e=>by have:=(zkd h.g e.symm).1;omega)).other (a:=⟨w.heap.size,15,none⟩) (by show w.heap.size≠w.heap.size+1;omega) _
  l:=h.l}
theorem zo3 (w W:World) (t u:Tr) (p q:TP) (h:BI w t p u q W) (ht:TrM w t p) (hG:u.G=[]) (hl:t.S.length≤1000∧t.V.length≤1000) (hn:(∀s∈t.S,s.1.length≤100000)∧∀x∈t.V,x.nm.length≤100000)
 (hsg:∀x∈t.V,(Lit.int .i64 x.sg).wf=true):
 Calls Tryz.prog 54 #[.pointer (some ⟨w.heap.size,0,none⟩)] W fun e W'=>zaz w t p q.vp (zdA t) {u with S:=(zj2 t.S t.V).1,V:=(zj2 t.S t.V).2.1,G:=sig1 t} e W':=by
 have HI:=lhd h;have HT:=lhd ht;have hwz:=h.lt;have hwz2:=h.lt2;have hbs:=h.b.size;have HOR:=lhd (fun(V:World) (hb:Below w.heap.size w V)=>zfN p.vs p.vv t.S t.V V ((ht.s).below hb) (ht.v.below hb) hl hn hsg);have HON:=lhd (fun h=>zj0 (S:=t.S) (V:=t.V) h);have HDE:=lhd (show zdA t=if(zj2 t.S t.V).2.2.2≠0 then(zj2 t.S t.V).2.2.2 else if(zj2 t.S t.V).2.2.1.any (fun n=>decide ((t.G.length:Int)≤n))=true then 1 else if 64<(zj2 t.S t.V).2.2.1.length then 9 else 0 from rfl);have HS1:=lhd (show sig1 t=(zj2 t.S t.V).2.2.1.map (sgI t.G)from rfl);obtain⟨⟨oS,oV,oN,oE⟩,hO⟩:∃r,r=zj2 t.S t.V:=⟨_,rfl⟩;rw[←hO]at HOR HON HDE HS1⊢;dsimp only at HON HDE HS1⊢;obtain⟨sa,sc_,es,-,-⟩:=ht.s.shape;obtain⟨va,vc_,ev,-,-⟩:=ht.v.shape;rw[es,ev]at HOR;have c4:=h.x.cell (j:=4) rfl;have c5:=h.x.cell (j:=5) rfl;rw[es]at c4;rw[ev]at c5;obtain⟨ga,gc,eg,-,-⟩:=ht.g.s.shape;have hGL:=ht.len;have c6:=h.x.cell (j:=6) rfl;rw[eg,hGL]at c6;have HEG:=lhd eg;clear h ht hn hsg es ev hO eg;go_enter Tryz.func54,Tryz.ntmps54;go_wp2_with fail;refine zrt (S:=fun w'=>w'.cell? ⟨w.heap.size,4,none⟩=some (.slice sa t.S.length sc_)∧w'.cell? ⟨w.heap.size,5,none⟩=some (.slice va t.V.length vc_)) (X:=fun _=>false) (by kernel_rfl) ?_;refine zrn (i:=0) (v:=?_) rfl (by kernel_rfl) (by kernel_rfl) (by kernel_rfl) (by kernel_rfl) (fun _ _ _ h=>h) (Or.inl ⟨by rfl,?_⟩) (by go_simp) ?_;rotate_left
 ·intro w hSw;(try dsimp only at hSw)
  go_simp;all_goals with_reducible rfl
 simp only[tkS];refine zrn (i:=1) (v:=?_) rfl (by kernel_rfl) (by kernel_rfl) (by kernel_rfl) (by kernel_rfl) (fun _ _ _ h=>h) (Or.inl ⟨by rfl,?_⟩) (by go_simp) ?_;rotate_left
 ·intro w hSw;(try dsimp only at hSw)
  go_simp;all_goals with_reducible rfl
 simp only[tkS];refine zrn (i:=2) (v:=?_) rfl (by kernel_rfl) (by kernel_rfl) (by kernel_rfl) (by kernel_rfl) (fun _ _ _ h=>h) (Or.inl ⟨by rfl,?_⟩) (by go_simp) ?_;rotate_left
 ·intro w hSw;(try dsimp only at hSw)
  go_simp;all_goals with_reducible rfl
 simp only[tkS];refine zrn (i:=3) (v:=?_) rfl (by kernel_rfl) (by kernel_rfl) (by kernel_rfl) (by kernel_rfl) (fun _ _ _ h=>h) (Or.inl ⟨by rfl,?_⟩) (by go_simp) ?_;rotate_left
 ·intro w hSw;(try dsimp only at hSw)
  go_simp;all_goals with_reducible rfl
 simp only[tkS];refine zrn (i:=4) (v:=?_) rfl (by kernel_rfl) (by kernel_rfl) (by kernel_rfl) (by kernel_rfl) (fun _ _ _ h=>h) (Or.inl ⟨by rfl,?_⟩) (by go_simp) ?_;rotate_left
 ·intro w hSw;(try dsimp only at hSw)
  go_simp;all_goals with_reducible rfl
 simp only[tkS];refine zrn (i:=5) (v:=?_) rfl (by kernel_rfl) (by kernel_rfl) (by kernel_rfl) (by kernel_rfl) (fun _ _ _ h=>h) (Or.inl ⟨by rfl,?_⟩) (by go_simp) ?_;rotate_left
 ·intro w hSw;(try dsimp only at hSw)
  go_simp;all_goals with_reducible rfl
 simp only[tkS];refine zrn (i:=6) (v:=?_) rfl (by kernel_rfl) (by kernel_rfl) (by kernel_rfl) (by kernel_rfl) (fun _ _ _ h=>h) (Or.inl ⟨by rfl,?_⟩) (by go_simp) ?_;rotate_left
 ·intro w hSw;(try dsimp only at hSw)
  go_simp;all_goals with_reducible rfl
 simp only[tkS];refine zrn (i:=7) (v:=?_) rfl (by kernel_rfl) (by kernel_rfl) (by kernel_rfl) (by kernel_rfl) (fun _ _ _ h=>h) (Or.inl ⟨by rfl,?_⟩) (by go_simp) ?_;rotate_left
 ·intro w hSw;(try dsimp only at hSw)
  go_simp;all_goals with_reducible rfl
 simp only[tkS];refine zrn (i:=8) (v:=?_) rfl (by kernel_rfl) (by kernel_rfl) (by kernel_rfl) (by kernel_rfl) (fun _ _ _ h=>h) (Or.inl ⟨by rfl,?_⟩) (by go_simp) ?_;rotate_left
 ·intro w hSw;(try dsimp only at hSw)
  go_simp;all_goals with_reducible rfl
 simp only[tkS];refine zrn (i:=9) (v:=?_) rfl (by kernel_rfl) (by kernel_rfl) (by kernel_rfl) (by kernel_rfl) (fun _ _ _ h=>h) (Or.inl ⟨by rfl,?_⟩) (by go_simp) ?_;rotate_left
 ·intro w hSw;(try dsimp only at hSw)
  go_simp;all_goals with_reducible rfl
 simp only[tkS];refine zrm (i:=10) (by kernel_rfl) rfl (fun K hK=>?_);go_simp;refine(HOR.out W.drew (HI.out.b.drew)).mono ?_;rintro e w1 ⟨v1,v2,v3,rfl,ho1,ho2,ho3,hb1⟩;dsimp only at ho1 ho2 ho3⊢;have HI1:=lhd (HI.out.drew.next hb1);obtain⟨a1,k1,rfl,-,-⟩:=(SlR.of_own ho1).shape;obtain⟨a2,k2,rfl,-,-⟩:=(SlR.of_own ho2).shape;obtain⟨a3,k3,rfl,-,-⟩:=(SlR.of_own ho3).shape;have hsz:w.heap.size+2≤W.drew.heap.size:=hwz2;have HO1:=lhd (zko ho1 hsz);have HO2:=lhd (zko ho2 hsz);have HO3:=lhd (zko ho3 hsz);have c4:=(hb1.cell (p:=⟨w.heap.size,4,none⟩) (by show w.heap.size<_;omega)).trans c4;have c5:=(hb1.cell (p:=⟨w.heap.size,5,none⟩) (by show w.heap.size<_;omega)).trans c5;clear ho1 ho2 ho3 hb1;refine hK.out _ _ (fun _=>⟨c4,c5⟩) ?_;clear hK;try simp only[tkS]
 refine zrm (i:=11) (by kernel_rfl) rfl (fun K hK=>?_);go_simp;refine hK.out _ _ (fun _=>⟨c4,c5⟩) ?_;clear hK;try simp only[tkS]
 refine zrn (i:=12) (v:=?_) rfl (by kernel_rfl) (by kernel_rfl) (by kernel_rfl) (by kernel_rfl) (fun _ _ _ h=>h) (Or.inl ⟨by rfl,?_⟩) (by go_simp) ?_;rotate_left
 ·intro w hSw;(try dsimp only at hSw)
  go_simp;all_goals with_reducible rfl
 simp only[tkS];refine zrn (i:=13) (v:=?_) rfl (by kernel_rfl) (by kernel_rfl) (by kernel_rfl) (by kernel_rfl) (fun _ _ _ h=>h) (Or.inl ⟨by rfl,?_⟩) (by go_simp) ?_;rotate_left
 ·intro w hSw;(try dsimp only at hSw)
  go_simp;all_goals with_reducible rfl
 simp only[tkS];refine zrn (i:=14) (v:=?_) rfl (by kernel_rfl) (by kernel_rfl) (by kernel_rfl) (by kernel_rfl) (fun _ _ _ h=>h) (Or.inl ⟨by rfl,?_⟩) (by go_simp) ?_;rotate_left
 ·intro w hSw;(try dsimp only at hSw)
  go_simp;all_goals with_reducible rfl
 simp only[tkS];refine zrn (i:=15) (v:=?_) rfl (by kernel_rfl) (by kernel_rfl) (by kernel_rfl) (by kernel_rfl) (fun _ _ _ h=>h) (Or.inl ⟨by rfl,?_⟩) (by go_simp) ?_;rotate_left
 ·intro w hSw;(try dsimp only at hSw)
  go_simp;all_goals with_reducible rfl
 simp only[tkS];refine zrm (i:=16) (by kernel_rfl) rfl (fun K hK=>?_);go_simp;refine hK.out _ _ (fun _=>⟨c4,c5⟩) ?_;clear hK;try simp only[tkS]
 refine zrm (i:=17) (by kernel_rfl) rfl (fun K hK=>?_);go_simp;refine hK.out _ _ (fun _=>⟨c4,c5⟩) ?_;clear hK;try simp only[tkS]
 refine zrm (i:=18) (by kernel_rfl) rfl (fun K hK=>?_);go_simp;refine hK.out _ _ (fun _=>⟨c4,c5⟩) ?_;clear hK;try simp only[tkS]
 refine zrm (i:=19) (by kernel_rfl) rfl (fun K hK=>?_);go_simp;refine hK.out _ _ (fun _=>⟨c4,c5⟩) ?_;clear hK;try simp only[tkS]
 refine⟨by kernel_rfl,?_⟩;clear c4 c5 c6;by_cases hE:oE=0
 ·subst hE;obtain⟨hn0,hnl⟩:=HON.out rfl;have hN1:oN.length≤1000:=by omega
  have HN0:=lhd hn0;have hde:=HDE.out;rw[if_neg (by simp)]at hde;have HDE2:=lhd hde;have c6:=HI1.out.x.cell (j:=6) rfl;rw[HEG.out,hGL]at c6;have HB1:=lhd (Below.refl w1.heap.size w1);clear hde hn0 HDE HON HOR;go_wp2_with fail;go_loopw [32] (fun i wr=>∃k:Nat,k≤oN.length∧i=.int .i64 k∧(oN.take k).any (fun n=>decide ((t.G.length:Int)≤n))=false∧Below w1.heap.size w1 wr) (fun i _=>oN.length-(intOf i).toNat)
  case atStart=>exact⟨0,Nat.zero_le _,rfl,rfl,HB1.out⟩
  case round=>
   obtain⟨k,hk,rfl,han,hb⟩:=hrel;have HAN:=lhd han;have HB:=lhd hb;have HI2:=lhd (HI1.out.next hb);have HO32:=lhd (zbE HO3.out hb);have HO12:=lhd (zbE HO1.out hb);have HO22:=lhd (zbE HO2.out hb);clear han hb c6;by_cases hlt:k<oN.length
   ·obtain⟨b3,o3,cap3,e3,-,-,hat⟩:=(SlR.of_own HO32.out).at (by omega);injection e3 with e3 _ e4;subst e3 e4;have d0:wr.cell? ⟨b3,o3+k,none⟩=some (.int .i64 oN[k]):=hat k _ (by simp[ints,hlt])
    have HTK:=lhd (show(oN.take (k+1)).any (fun n=>decide ((t.G.length:Int)≤n))=((oN.take k).any (fun n=>decide ((t.G.length:Int)≤n))||decide ((t.G.length:Int)≤oN[k]))by
     rw[List.take_succ_eq_append_getElem hlt,List.any_append];simp)
    have HMM:=lhd (List.getElem_mem hlt);have c6:=HI2.out.x.cell (j:=6) rfl;rw[HEG.out,hGL]at c6;clear hat;generalize oN[k]=x at*;by_cases hx:(t.G.length:Int)≤x
    ·have bx:decide ((t.G.length:Int)≤x)=true:=by simpa using hx
     have hde:=HDE2.out;rw[if_pos (by rw[List.any_eq_true];exact⟨x,HMM.out,bx⟩)]at hde;have HR:=lhd hde;clear hde;go_wp2_with fail;go_ret;exact⟨zlF HR.out.symm,HI2.out.b,fun h=>by rw[HR.out]at h;cases h⟩
    ·have bx:decide ((t.G.length:Int)≤x)=false:=by simpa using hx
     have HAN2:=lhd (show(oN.take (k+1)).any (fun n=>decide ((t.G.length:Int)≤n))=false by rw[HTK.out,HAN.out,bx];rfl);go_wp2_with fail;go_roundw;case rel=>exact⟨k+1,hlt,by go_num,HAN2.out,HB.out⟩
     case measure=>simp[intOf];omega
   ·obtain rfl:k=oN.length:=by omega
    have hde:=HDE2.out;have han:=HAN.out;rw[List.take_length]at han;rw[if_neg (by rw[han];simp)]at hde
    have HAN3:=lhd (show ∀x∈oN,x<(t.G.length:Int)from fun x hx=>by
     rw[List.any_eq_false]at han;have:=han x hx;simpa using this)
    by_cases h64:64<oN.length
    ·rw[if_pos h64]at hde;have HR:=lhd hde;have b64:(64:Int)<(oN.length:Int):=by omega
     clear hde han;go_wp2_with fail;go_ret;exact⟨zlF HR.out.symm,HI2.out.b,fun h=>by rw[HR.out]at h;cases h⟩
    ·rw[if_neg h64]at hde;have HR:=lhd hde;have b64:¬(64:Int)<(oN.length:Int):=by omega
     clear hde han hlt;have f13:=HI2.out.x.free (j:=13) (by simp[trC]);have f14:=HI2.out.x.free (j:=14) (by simp[trC]);have c13:=HI2.out.x.cell (j:=13) rfl;have c14:=HI2.out.x.cell (j:=14) rfl;have hbi:=HI2.out;have hF:=hbi.set (j:=13) (by decide) (.slice a1 oS.length k1) (u':={u with S:=oS}) (q':={q with vs:=.slice a1 oS.length k1}) rfl (zka HO12.out _ _) (zka hbi.v _ _) (zka hbi.g _ _) (fun x hx=>(hbi.c x hx).imp id (fun h=>zka h _ _)) (zka hbi.r _ _) hbi.m;have hF2:=hF.set (j:=14) (by decide) (.slice a2 oV.length k2) (u':={u with S:=oS,V:=oV}) (q':={q with vs:=.slice a1 oS.length k1,vv:=.slice a2 oV.length k2}) rfl (zka hF.s _ _) (zka (zka HO22.out _ _) _ _) (zka hF.g _ _) (fun x hx=>(hF.c x hx).imp id (fun h=>zka h _ _)) (zka hF.r _ _) hF.m;have HF:=lhd hF2;have HO33:=lhd (zka (zka HO32.out 13 (.slice a1 oS.length k1)) 14 (.slice a2 oV.length k2));clear hbi hF hF2;go_wp2_with fail;clear c13 c14 f13 f14;generalize (wr.setCell ⟨w.heap.size,13,none⟩ (.slice a1 oS.length k1)).setCell ⟨w.heap.size,14,none⟩ (.slice a2 oV.length k2)=w3 at*;have HM0:=lhd (show q.M=[]by have:=HI1.out.m;rw[hG]at this;exact List.map_eq_nil_iff.1 this);obtain⟨i0,hi,iz0,iz1,iz2⟩:=info_parts (P:=Tryz.prog) zmE;have HBW0:=lhd (show BI w t p {u with S:=oS,V:=oV,G:=[].map (sgI t.G)} {q with vs:=.slice a1 oS.length k1,vv:=.slice a2 oV.length k2} w3 by have:=HF.out;rw[hG]at this;exact this);go_loopw [60] (fun i wq=>∃(k:Nat) (q':TP),k≤oN.length∧i=.int .i64 k∧BI w t p {u with S:=oS,V:=oV,G:=(oN.take k).map (sgI t.G)} q' wq∧q'.vp=q.vp∧wq.ownsRow (w.heap.size+2) 3 1 (.slice a3 oN.length k3) oN.length (ints oN)) (fun i _=>oN.length-(intOf i).toNat)
     case atStart=>exact⟨0,_,Nat.zero_le _,rfl,HBW0.out,rfl,HO33.out⟩
     case round=>
      obtain⟨k,q',hk,rfl,hbi,hvp,hon⟩:=hrel;have HVP:=lhd hvp;clear hvp;have HI5:=lhd hbi;have HN5:=lhd hon;clear hbi hon;by_cases hlt:k<oN.length
      ·obtain⟨b3,c3,e3,-,-,-,hat⟩:=zj8 HN5.out (by omega);injection e3 with e3 _ e4;subst e3 e4;have d0:wr.cell? ⟨b3,k,none⟩=some (.int .i64 oN[k]):=hat k _ (by simp[ints,hlt]);have hx1:=HN0.out _ (List.getElem_mem hlt);have hx2:=HAN3.out _ (List.getElem_mem hlt)
       have HTK:=lhd (show(oN.take (k+1)).map (sgI t.G)=(oN.take k).map (sgI t.G)++ [sgI t.G oN[k]]by
        rw[List.take_succ_eq_append_getElem hlt,List.map_append];rfl)
       generalize oN[k]=x at*;obtain⟨m,rfl⟩:∃m:Nat,x=m:=⟨x.toNat,by omega⟩;have hm:m<p.M.length:=by rw[hGL];omega
       have hsgs:=HT.out.g.below HI5.out.b;rw[HEG.out]at hsgs;obtain⟨gb,go_,eg5,s0,s1,s2,s3⟩:=hsgs.at hm;have hsw:=HT.out.g.m _ (List.getElem_mem hm);have hmem:=List.getElem_mem hm
       have HSI:=lhd (show sgI t.G (m:Int)=p.M[m].1 by
        unfold sgI;rw[←HT.out.m,Int.toNat_natCast];simp[List.getD,hm])
       have hgbz:gb<wr.heap.size:=zcn s0;subst eg5
       have hgbl:gb<w.heap.size:=by
        obtain⟨b',o',e',t0,-⟩:=(show Sigs w (.slice (some ⟨gb,go_,none⟩) p.M.length gc) p.M by have:=HT.out.g;rwa [HEG.out]at this).at hm;injection e' with e';injection e' with e1 _ _;subst e1;exact zcn t0
       have c15:=HI5.out.x.cell (j:=15) rfl;have f15:=HI5.out.x.free (j:=15) (by simp[trC]);have c6:=HI5.out.x.cell (j:=6) rfl;rw[HEG.out,hGL]at c6;obtain⟨ua,uc,eug⟩:=HI5.out.vgk;rw[eug]at c15;have HEU:=lhd eug;have hum:q'.M.length≤1000:=by rw[HI5.out.ml];simp;omega
       generalize p.M[m]=y at*;obtain⟨⟨kd,wd,cl⟩,vx⟩:=y;dsimp only at s0 s1 s2 s3 hsw;obtain⟨xa,xc,rfl,-,-⟩:=hsw.shape;have HSW:=lhd hmem;have hlow:=HI5.out.lt;have hlow2:=HI5.out.lt2;clear hat hsgs s3 hsw eug hmem;go_wp2_with fail;refine zrt (S:=fun w'=>w'.cell? ⟨w.heap.size,15,none⟩=some (.slice ua q'.M.length uc)∧w'.cell? ⟨w.heap.size,6,none⟩=some (.slice (some ⟨gb,go_,none⟩) t.G.length gc)∧w'.cell? ⟨gb,go_+m*3,none⟩=some (.int .i64 kd)∧w'.cell? ⟨gb,go_+m*3+1,none⟩=some (.int .i64 wd)∧w'.cell? ⟨gb,go_+m*3+2,none⟩=some (.slice xa cl.length xc)) (X:=fun j=>decide (16≤j)) (by kernel_rfl) ?_;have HI5d:=lhd HI5.out.drew;have HN5d:=lhd HN5.out.drew;have c15:=(World.cell?_drewN wr 1 _).trans c15;have c6:=(World.cell?_drewN wr 1 _).trans c6;have s0:=(World.cell?_drewN wr 1 _).trans s0;have s1:=(World.cell?_drewN wr 1 _).trans s1;have s2:=(World.cell?_drewN wr 1 _).trans s2;rw[←World.drew_is_drewN]at c15 c6 s0 s1 s2;have hgbz:=(show gb<wr.drew.heap.size from hgbz);have hlow:=(show w.heap.size<wr.drew.heap.size from hlow);have hlow2:=(show w.heap.size+1<wr.drew.heap.size from hlow2);generalize wr.drew=wz at*;refine zrn (i:=0) (v:=?_) rfl (by kernel_rfl) (by kernel_rfl) (by kernel_rfl) (by kernel_rfl) (fun _ _ _ h=>h) (Or.inl ⟨by rfl,?_⟩) (by go_simp) ?_;rotate_left
       ·intro w hSw;(try dsimp only at hSw)
        go_simp;all_goals with_reducible rfl
       simp only[tkS];refine zrn (i:=1) (v:=?_) rfl (by kernel_rfl) (by kernel_rfl) (by kernel_rfl) (by kernel_rfl) (fun _ _ _ h=>h) (Or.inl ⟨by rfl,?_⟩) (by go_simp) ?_;rotate_left
       ·intro w hSw;(try dsimp only at hSw)
        go_simp;all_goals with_reducible rfl
       simp only[tkS];refine zrn (i:=2) (v:=?_) rfl (by kernel_rfl) (by kernel_rfl) (by kernel_rfl) (by kernel_rfl) (fun _ _ _ h=>h) (Or.inl ⟨by rfl,?_⟩) (by go_simp) ?_;rotate_left
       ·intro w hSw;(try dsimp only at hSw)
        go_simp;all_goals with_reducible rfl
       simp only[tkS];refine zrn (i:=3) (v:=?_) rfl (by kernel_rfl) (by kernel_rfl) (by kernel_rfl) (by kernel_rfl) (fun _ _ _ h=>h) (Or.inl ⟨by rfl,?_⟩) (by go_simp) ?_;rotate_left
       ·intro w hSw;(try dsimp only at hSw)
        go_simp;all_goals with_reducible rfl
       simp only[tkS];refine zrn (i:=4) (v:=?_) rfl (by kernel_rfl) (by kernel_rfl) (by kernel_rfl) (by kernel_rfl) (fun _ _ _ h=>h) (Or.inl ⟨by rfl,?_⟩) (by go_simp) ?_;rotate_left
       ·intro w hSw;(try dsimp only at hSw)
        go_simp;all_goals with_reducible rfl
       simp only[tkS];refine zrn (i:=5) (v:=?_) rfl (by kernel_rfl) (by kernel_rfl) (by kernel_rfl) (by kernel_rfl) (fun _ _ _ h=>h) (Or.inl ⟨by rfl,?_⟩) (by go_simp) ?_;rotate_left
       ·intro w hSw;(try dsimp only at hSw)
        go_simp;all_goals with_reducible rfl
       simp only[tkS];refine zrn (i:=6) (v:=?_) rfl (by kernel_rfl) (by kernel_rfl) (by kernel_rfl) (by kernel_rfl) (fun _ _ _ h=>h) (Or.inl ⟨by rfl,?_⟩) (by go_simp) ?_;rotate_left
       ·intro w hSw;(try dsimp only at hSw)
        go_simp;all_goals with_reducible rfl
       simp only[tkS];refine zrn (i:=7) (v:=?_) rfl (by kernel_rfl) (by kernel_rfl) (by kernel_rfl) (by kernel_rfl) (fun _ _ _ h=>h) (Or.inl ⟨by rfl,?_⟩) (by go_simp) ?_;rotate_left
       ·intro w hSw;(try dsimp only at hSw)
        go_simp;all_goals with_reducible rfl
       simp only[tkS];refine zrn (i:=8) (v:=?_) rfl (by kernel_rfl) (by kernel_rfl) (by kernel_rfl) (by kernel_rfl) (fun _ _ _ h=>h) (Or.inl ⟨by rfl,?_⟩) (by go_simp) ?_;rotate_left
       ·intro w hSw;(try dsimp only at hSw)
        go_simp;all_goals with_reducible rfl
       simp only[tkS];refine zrn (i:=9) (v:=?_) rfl (by kernel_rfl) (by kernel_rfl) (by kernel_rfl) (by kernel_rfl) (fun _ _ _ h=>h) (Or.inl ⟨by rfl,?_⟩) (by go_simp) ?_;rotate_left
       ·intro w hSw;(try dsimp only at hSw)
        go_simp;all_goals with_reducible rfl
       simp only[tkS];refine zrn (i:=10) (v:=?_) rfl (by kernel_rfl) (by kernel_rfl) (by kernel_rfl) (by kernel_rfl) (fun _ _ _ h=>h) (Or.inl ⟨by rfl,?_⟩) (by go_simp) ?_;rotate_left
       ·intro w hSw;(try dsimp only at hSw)
        go_simp;all_goals with_reducible rfl
       simp only[tkS];refine zrn (i:=11) (v:=?_) rfl (by kernel_rfl) (by kernel_rfl) (by kernel_rfl) (by kernel_rfl) (fun _ _ _ h=>h) (Or.inl ⟨by rfl,?_⟩) (by go_simp) ?_;rotate_left
       ·intro w hSw;(try dsimp only at hSw)
        go_simp;all_goals with_reducible rfl
       simp only[tkS];refine zrn (i:=12) (v:=?_) rfl (by kernel_rfl) (by kernel_rfl) (by kernel_rfl) (by kernel_rfl) (fun _ _ _ h=>h) (Or.inl ⟨by rfl,?_⟩) (by go_simp) ?_;rotate_left
       ·intro w hSw;(try dsimp only at hSw)
        go_simp;all_goals with_reducible rfl
       simp only[tkS];refine zrn (i:=13) (v:=?_) rfl (by kernel_rfl) (by kernel_rfl) (by kernel_rfl) (by kernel_rfl) (fun _ _ _ h=>h) (Or.inl ⟨by rfl,?_⟩) (by go_simp) ?_;rotate_left
       ·intro w hSw;(try dsimp only at hSw)
        go_simp;all_goals with_reducible rfl
       simp only[tkS];refine zrm (i:=14) (by kernel_rfl) rfl (fun K hK=>?_);go_simp;have HIA:=lhd (HI5d.out.next (show Below wz.heap.size wz (wz.alloc (.cells #[.int .i64 kd,.int .i64 wd,.slice xa cl.length xc] 45))from(Below.refl _ _).alloc (Nat.le_refl _) _));have HNA:=lhd (zbE HN5d.out (show Below wz.heap.size wz (wz.alloc (.cells #[.int .i64 kd,.int .i64 wd,.slice xa cl.length xc] 45))from(Below.refl _ _).alloc (Nat.le_refl _) _));have hog:=HIA.out.g;rw[HEU.out]at hog;have HOG:=lhd hog;clear hog;refine hK.out _ _ (fun _=>by go_simp) ?_;clear hK;try simp only[tkS]
       refine zrm (i:=15) (by kernel_rfl) rfl (fun K hK=>?_);refine step_append_lies _ (by rfl) _ _ _ (by rfl) (w.heap.size+2) 45 i0 _ 3 40 Tryz.underlying24 hi iz0 iz1 iz2 rfl (by omega) (.slice ua q'.M.length uc) q'.M.length (sgs q'.M) (by rfl) (by exact HOG.out) ⟨wz.heap.size,0,none⟩ 1 1 [.int .i64 kd,.int .i64 wd,.slice xa cl.length xc] (by rfl) (by rfl) (World.news_of_block (cs:=#[.int .i64 kd,.int .i64 wd,.slice xa cl.length xc]) (t:=45) (fr:=(0,0)) (by exact heap_alloc_new _ _)) (by simp[Value.oneCell']) (by omega) (by unfold maxLen;omega) (by omega) (by simp;omega) (wz.heap.size+1) (by simp) ?_;intro gg cap9 w9 ho9 hg9 hat hlt9
       have hnb:∀b,b≤w.heap.size→some b≠(Value.slice ua q'.M.length uc).ownBlock:=fun b hb e=>by
        have:=(zkd HOG.out e.symm).1;omega
       have hza:wz.heap.size≤(wz.alloc (.cells #[.int .i64 kd,.int .i64 wd,.slice xa cl.length xc] 45)).heap.size:=by simp
       have r15:=(hg9.cell_far ⟨w.heap.size,15,none⟩ (Nat.lt_of_lt_of_le hlow hza) (hnb _ (Nat.le_refl _))).trans (HIA.out.x.cell (j:=15) rfl);rw[HEU.out]at r15;have r6:=(hg9.cell_far ⟨w.heap.size,6,none⟩ (Nat.lt_of_lt_of_le hlow hza) (hnb _ (Nat.le_refl _))).trans (HIA.out.x.cell (j:=6) rfl);rw[HEG.out,hGL]at r6;have hba:Below wz.heap.size wz (wz.alloc (.cells #[.int .i64 kd,.int .i64 wd,.slice xa cl.length xc] 45)):=(Below.refl _ _).alloc (Nat.le_refl _) _;have q0:=(hg9.cell_far ⟨gb,go_+m*3,none⟩ (Nat.lt_of_lt_of_le hgbz hza) (hnb _ (Nat.le_of_lt hgbl))).trans ((hba.cell (p:=⟨gb,go_+m*3,none⟩) hgbz).trans s0);have q1:=(hg9.cell_far ⟨gb,go_+m*3+1,none⟩ (Nat.lt_of_lt_of_le hgbz hza) (hnb _ (Nat.le_of_lt hgbl))).trans ((hba.cell (p:=⟨gb,go_+m*3+1,none⟩) hgbz).trans s1);have q2:=(hg9.cell_far ⟨gb,go_+m*3+2,none⟩ (Nat.lt_of_lt_of_le hgbz hza) (hnb _ (Nat.le_of_lt hgbl))).trans ((hba.cell (p:=⟨gb,go_+m*3+2,none⟩) hgbz).trans s2);have g15:=(hg9.frozen_far ⟨w.heap.size,15,none⟩ (Nat.lt_of_lt_of_le hlow hza) (hnb _ (Nat.le_refl _))).trans (HIA.out.x.free (j:=15) (by simp[trC]));have HNF:=lhd (zka (HNA.out.kept hg9 (zj7 HNA.out HOG.out (by decide))) 15 (.slice (some ⟨gg,0,none⟩) (q'.M.length+1) cap9));have HFIN:=lhd (HIA.out.push (x:=(kd,wd,cl)) (vx:=.slice xa cl.length xc) ho9 rfl (by rw[HEU.out];exact hg9) HSW.out);clear ho9 hg9 hat hlt9 hba hza hnb c15 c6 s0 s1 s2;refine hK.out _ _ (fun _=>⟨r15,r6,q0,q1,q2⟩) ?_;clear hK;try simp only[tkS]
       refine zrl (i:=16) (v:=?_) rfl (by kernel_rfl) (by kernel_rfl) (by kernel_rfl) rfl (fun _ _ _ h=>h) (Or.inl ⟨by rfl,?_⟩) ?_;rotate_left
       ·intro w hSw;go_simp;all_goals with_reducible rfl
       simp only[tkS];refine zrl (i:=17) (v:=?_) rfl (by kernel_rfl) (by kernel_rfl) (by kernel_rfl) rfl (fun _ _ _ h=>h) (Or.inl ⟨by rfl,?_⟩) ?_;rotate_left
       ·intro w hSw;go_simp;all_goals with_reducible rfl
       simp only[tkS];refine zrl (i:=18) (v:=?_) rfl (by kernel_rfl) (by kernel_rfl) (by kernel_rfl) rfl (fun _ _ _ h=>h) (Or.inl ⟨by rfl,?_⟩) ?_;rotate_left
       ·intro w hSw;go_simp;all_goals with_reducible rfl
       simp only[tkS];refine zrm (i:=19) (by kernel_rfl) rfl (fun K hK=>?_);go_simp;refine hK.out _ _ (fun h=>absurd h (by decide)) ?_;clear hK;try simp only[tkS]
       refine⟨by kernel_rfl,?_⟩;clear r15 r6 q0 q1 q2 g15;go_wp2_with fail;go_roundw;case rel=>exact⟨k+1,{q' with vg:=.slice (some ⟨gg,0,none⟩) (q'.M.length+1) cap9,M:=q'.M++ [((kd,wd,cl),.slice xa cl.length xc)]},hlt,by go_num,by rw[HTK.out,HSI.out];exact HFIN.out,HVP.out,HNF.out⟩
       case measure=>simp[intOf];omega
      ·obtain rfl:k=oN.length:=by omega
       have hfin:=HI5.out;rw[List.take_length,←HS1.out]at hfin;have HFN:=lhd hfin;clear hfin;go_wp2_with fail;go_ret;exact⟨zlF HR.out.symm,HFN.out.b,fun _=>⟨q',HFN.out,HVP.out⟩⟩
 ·have bE:(oE==0)=false:=by simpa using hE
  have hde:=HDE.out;rw[if_pos hE]at hde;have HR:=lhd hde;clear hde;go_wp2_with fail;go_ret;exact⟨zlF HR.out.symm,HI1.out.b,fun h=>absurd (HR.out.symm.trans h) hE⟩
end Go.Proofs.YtbiadennhnokhaaGreatDoor
