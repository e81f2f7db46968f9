import Derived.Test.YtcdekelomkcahaaGreatDoorZ00
import Derived.Test.YtcdekelomkcahaaGreatDoorZ24
import Derived.Test.YtcdekelomkcahaaGreatDoorZ31
import Derived.Test.YtcdekelomkcahaaGreatDoorZ38
set_option maxRecDepth 100000
set_option maxHeartbeats 16000000
namespace Go.Proofs.YtcdekelomkcahaaGreatDoor
open Go.RowKit
set_option linter.unusedSimpArgs false
structure VB (w0:World) (s:List Bs) (V:List Vr) (vo vk:Value) (W:World):Prop where
 k:W.ownsRow w0.heap.size 9 1 vk s.length (strs s)
 o:W.ownsRow w0.heap.size 48 7 vo V.length (vrs V)
 b:Below w0.heap.size w0 W
section
variable {w0 W W' : World} {s : List Bs} {V : List Vr} {vo vk v' : Value}
theorem VB.later (h:VB w0 s V vo vk W) (hb:Below W.heap.size W W'):VB w0 s V vo vk W':=⟨zjb h.k hb,zjb h.o hb,zd5 h.b hb⟩
theorem VB.key (h:VB w0 s V vo vk W) {c:Bs} (ho:W'.ownsRow w0.heap.size 9 1 v' (s.length+1) (strs s++ [.string (bsB c)])) (hg:W.grownBy W' vk.ownBlock):VB w0 (s++ [c]) V vo v' W':=
 ⟨by rw[List.length_append,show strs (s++ [c])=strs s++ [.string (bsB c)]by simp[strs,strV]];exact ho,h.o.kept hg (zjl h.o h.k (by decide)),h.b.grown hg h.b.size (fun q hq=>(h.k.lt q hq).1)⟩
theorem VB.var (h:VB w0 s V vo vk W) {y:Vr} (ho:W'.ownsRow w0.heap.size 48 7 v' (V.length+1) (vrs V++vrC y)) (hg:W.grownBy W' vo.ownBlock):VB w0 s (V++ [y]) v' vk W':=
 ⟨h.k.kept hg (zjl h.k h.o (by decide)),by rw[zpz,List.length_append];exact ho,h.b.grown hg h.b.size (fun q hq=>(h.o.lt q hq).1)⟩
theorem VB.store (h:VB w0 s V vo vk W) {b':Nat} (hb:w0.heap.size≤b') (h1:vo.ownBlock≠some b') (h2:vk.ownBlock≠some b') (j:Nat) (u:Value):VB w0 s V vo vk (W.setCell ⟨b',j,none⟩ u):=
 ⟨ownsRow_setCell_other (a:=⟨b',j,none⟩) h.k h2 u,ownsRow_setCell_other (a:=⟨b',j,none⟩) h.o h1 u,h.b.setCell (p:=⟨b',j,none⟩) hb u⟩
end
theorem zr9 (v:Value) (D:List Dcl) (w:World) (hs:SlR w v D.length (dcls D)) (hl:D.length≤1000):
 Calls Tryz.prog 25 #[v] w fun e w'=>∃v',e=.returned v'∧w'.ownsRow w.heap.size 48 7 v' D.length (vrs (zoY D []))∧Below w.heap.size w w':=by
 obtain⟨a,cap,rfl,hc,hm⟩:=hs.shape;obtain⟨i0,hi,iz0,iz1,iz2⟩:=info_parts (P:=Tryz.prog) zpl;obtain⟨j0,hj,jz0,jz1,jz2⟩:=info_parts (P:=Tryz.prog) zno;have HS:=lhd hs;have HLL:=lhd hl;clear hs
 have HV0:=lhd (show VB w [] [] (.slice (some ⟨w.heap.size,0,none⟩) 0 0) (.slice (some ⟨w.heap.size+1,0,none⟩) 0 0) ((w.alloc (.cells #[] 48)).alloc (.cells #[] 9))from by
  have h1:(w.alloc (.cells #[] 48)).ownsRow w.heap.size 48 7 (.slice (some ⟨w.heap.size,0,none⟩) 0 0) 0 []:=World.ownsRow_lit w #[] 0 (Nat.le_refl _) (by simp[maxLen]) (by simp);have h2:((w.alloc (.cells #[] 48)).alloc (.cells #[] 9)).ownsRow w.heap.size 9 1 (.slice (some ⟨(w.alloc (.cells #[] 48)).heap.size,0,none⟩) 0 0) 0 []:=World.ownsRow_lit _ #[] 0 (by simp) (by simp[maxLen]) (by simp);rw[World.size_alloc]at h2;exact⟨h2,h1.alloc _,((Below.refl _ _).alloc (Nat.le_refl _) _).alloc (by simp) _⟩)
 go_enter Tryz.func25,Tryz.ntmps25;go_wp2_with fail;generalize (w.alloc (.cells #[] 48)).alloc (.cells #[] 9)=w0 at*;go_loopw [3,4,5] (fun vo vk i wr=>∃k:Nat,k≤D.length∧i=.int .i64 k∧VB w (zmr (D.take k) []) (zoY (D.take k) []) vo vk wr) (fun _ _ i _=>D.length-(intOf i).toNat)
 case atStart=>exact⟨0,Nat.zero_le _,rfl,HV0.out⟩
 case round=>
  obtain⟨k,hk,rfl,hvb⟩:=hrel;have HVB:=lhd hvb;obtain⟨aO,cO,hso,-,-⟩:=(SlR.of_own hvb.o).shape;obtain⟨aK,cK,hsk,-,-⟩:=(SlR.of_own hvb.k).shape;clear hvb HV0;by_cases hlt:k<D.length
  ·obtain⟨b,o,rfl,hcl⟩:=(HS.out.below HVB.out.b).dcls hlt;have HTK:=lhd (show D.take (k+1)=D.take k++ [D[k]]from List.take_succ_eq_append_getElem hlt);have HLV:=lhd (show(zoY (D.take k) []).length=k by rw[zo0,List.length_take];omega)
   have HLK:=lhd (show(zmr (D.take k) []).length≤k by
    have:=zmy (D.take k);rw[List.length_take]at this;omega)
   rw[HLV.out]at hso;generalize D[k]=x at hcl HTK;generalize D.take k=P at HTK HLV HLK HVB hsk;obtain⟨ns,hns⟩:∃ns,ns=(zmr P []).length:=⟨_,rfl⟩;rw[←hns]at hsk;have HNS:=lhd hns;subst hso hsk;clear hns;obtain⟨n0,n1,n2,n3,n4,n5,n6,n7,n8,n9⟩:=x;have d0:wr.cell? ⟨b,o+k*10,none⟩=some (.string (bsB n0)):=hcl 0 _ rfl;have d1:wr.cell? ⟨b,o+k*10+1,none⟩=some (.int .i64 n1):=hcl 1 _ rfl;have d2:wr.cell? ⟨b,o+k*10+2,none⟩=some (.int .i64 n2):=hcl 2 _ rfl;have d3:wr.cell? ⟨b,o+k*10+3,none⟩=some (.int .i64 n3):=hcl 3 _ rfl;have d4:wr.cell? ⟨b,o+k*10+4,none⟩=some (.bool n4):=hcl 4 _ rfl;have d5:wr.cell? ⟨b,o+k*10+5,none⟩=some (.int .i64 n5):=hcl 5 _ rfl;have d6:wr.cell? ⟨b,o+k*10+6,none⟩=some (.int .i64 n6):=hcl 6 _ rfl;have d7:wr.cell? ⟨b,o+k*10+7,none⟩=some (.string (bsB n7)):=hcl 7 _ rfl;have hw:IntKind.i64.wrap ((k:Int)+1)=(k:Int)+1:=IntWalk.i64_in _ (by omega);have q1:(0:Int)≤(k:Int):=by omega
   have q2:(k:Int)<(D.length:Int):=by omega
   have hb1:Below wr.heap.size wr (wr.alloc (.cells #[.string (bsB n0),.int .i64 n1,.int .i64 n2,.int .i64 n3,.bool n4,.int .i64 n5,.int .i64 n6] 48)):=(Below.refl _ _).alloc (Nat.le_refl _) _;have HX:=lhd (zaq.fresh wr #[.string (bsB n0),.int .i64 n1,.int .i64 n2,.int .i64 n3,.bool n4,.int .i64 n5,.int .i64 n6] 48);have HBK:=lhd (heap_alloc_new wr (.cells #[.string (bsB n0),.int .i64 n1,.int .i64 n2,.int .i64 n3,.bool n4,.int .i64 n5,.int .i64 n6] 48));have HV1:=lhd (HVB.out.later hb1);have HZ:=lhd (show wr.heap.size<(wr.alloc (.cells #[.string (bsB n0),.int .i64 n1,.int .i64 n2,.int .i64 n3,.bool n4,.int .i64 n5,.int .i64 n6] 48)).heap.size by simp);have HZW:=lhd HVB.out.b.size;have HNO:=lhd (show(Value.slice aO k cO).ownBlock≠some wr.heap.size from fun e=>by have:=(HVB.out.o.lt _ e).2;omega);have HNK:=lhd (show(Value.slice aK ns cK).ownBlock≠some wr.heap.size from fun e=>by have:=(HVB.out.k.lt _ e).2;omega);have e7:(wr.alloc (.cells #[.string (bsB n0),.int .i64 n1,.int .i64 n2,.int .i64 n3,.bool n4,.int .i64 n5,.int .i64 n6] 48)).cell? ⟨b,o+k*10+7,none⟩=some (.string (bsB n7)):=(hb1.cell (p:=⟨b,o+k*10+7,none⟩) (zbA d7)).trans d7;clear hcl hb1;go_upto_region 7 with fail;generalize wr.alloc (.cells #[.string (bsB n0),.int .i64 n1,.int .i64 n2,.int .i64 n3,.bool n4,.int .i64 n5,.int .i64 n6] 48)=w1 at*;generalize wr.heap.size=bx at*;clear d0 d1 d2 d3 d4 d5 d6 d7;have hix:=zsh (.slice aK ns cK) (zmr P []) n7 w1 (SlR.of_own HV1.out.k) (by have:=HLK.out;omega);by_cases hmem:n7∈zmr P []
   ·rw[if_pos hmem]at hix;obtain⟨q,hq⟩:∃q:Nat,q=(zmr P []).idxOf n7:=⟨_,rfl⟩;rw[←hq]at hix;have HQ:=lhd (show zmr (P++ [⟨n0,n1,n2,n3,n4,n5,n6,n7,n8,n9⟩]) []=zmr P []by rw[zmD];exact if_pos hmem);have HQQ:=lhd hq;have HIX:=lhd hix;have hq0:¬(q:Int)<0:=by omega
    clear hmem hq hix;go_wp2_with fail;refine HIX.out.mono ?_;rintro e w' ⟨rfl,rfl⟩;clear e7;go_upto_region 11 with fail;have y3:=(HX).out.cell (j:=3) rfl;have f3:=(HX).out.free (j:=3) (by simp);have HVS:=lhd ((HV1).out.store (by have:=HZW.out;omega) HNO.out HNK.out 3 (.int .i64 (q:Nat)));have HYS:=lhd (show zaq ((w1).setCell ⟨bx,3,none⟩ (.int .i64 (q:Nat))) bx [.string (bsB n0),.int .i64 n1,.int .i64 n2,.int .i64 (q:Nat),.bool n4,.int .i64 n5,.int .i64 n6]from(HX).out.set (by simp) (.int .i64 (q:Nat)));go_upto_region 12 with fail;generalize (w1).setCell ⟨bx,3,none⟩ (.int .i64 (q:Nat))=w5 at*;clear y3 f3;have y0:=HYS.out.cell (j:=0) rfl;have y1:=HYS.out.cell (j:=1) rfl;have y2:=HYS.out.cell (j:=2) rfl;have y3:=HYS.out.cell (j:=3) rfl;have y4:=HYS.out.cell (j:=4) rfl;have y5:=HYS.out.cell (j:=5) rfl;have y6:=HYS.out.cell (j:=6) rfl;have hba:Below w5.heap.size w5 (w5.alloc (.cells #[.string (bsB n0),.int .i64 n1,.int .i64 n2,.int .i64 (q:Nat),.bool n4,.int .i64 n5,.int .i64 n6] 48)):=(Below.refl _ _).alloc (Nat.le_refl _) _;have HVA2:=lhd (HVS.out.later hba);have HC2:=lhd (World.news_of_block (w:=w5.alloc (.cells #[.string (bsB n0),.int .i64 n1,.int .i64 n2,.int .i64 (q:Nat),.bool n4,.int .i64 n5,.int .i64 n6] 48)) (cs:=#[.string (bsB n0),.int .i64 n1,.int .i64 n2,.int .i64 (q:Nat),.bool n4,.int .i64 n5,.int .i64 n6]) (t:=48) (fr:=(0,0)) (by exact heap_alloc_new _ _));have hszw:w.heap.size≤(w5.alloc (.cells #[.string (bsB n0),.int .i64 n1,.int .i64 n2,.int .i64 (q:Nat),.bool n4,.int .i64 n5,.int .i64 n6] 48)).heap.size:=HVA2.out.b.size;have HRO:=lhd HVA2.out.o;clear hba;go_wp2_with (at_builtin;refine wpList_append_own _ rfl _ _ 40 rfl w.heap.size 48 i0 (.agg #[.string ⟨#[]⟩,.int .i64 0,.int .i64 0,.int .i64 0,.bool false,.int .i64 0,.int .i64 0]) 7 64 Tryz.underlying40 hi iz0 iz1 iz2 rfl (by decide) _ _ _ rfl HRO.out ⟨w5.heap.size,0,none⟩ 1 1 [.string (bsB n0),.int .i64 n1,.int .i64 n2,.int .i64 (q:Nat),.bool n4,.int .i64 n5,.int .i64 n6] rfl rfl HC2.out (by simp[Value.oneCell']) (by rw[HLV.out];unfold maxLen;omega) (by rw[HLV.out];omega) (by omega) ?_)
    intro v' w6 ho6 hg6 _;have HV6:=lhd (HVA2.out.var (y:=vrD ⟨n0,n1,n2,n3,n4,n5,n6,n7,n8,n9⟩ (q:Nat)) ho6 hg6);clear ho6 hg6 y0 y1 y2 y3 y4 y5 y6 hszw;go_wp2_with fail;go_roundw;case measure=>simp[intOf];omega
    case rel=>
     refine⟨k+1,hlt,by go_num,?_⟩;rw[HTK.out,zpa,HQ.out,←HQQ.out];exact HV6.out
   ·rw[if_neg hmem]at hix;have HIX:=lhd hix;have HQ:=lhd (show zmr (P++ [⟨n0,n1,n2,n3,n4,n5,n6,n7,n8,n9⟩]) []=zmr P []++ [n7]by rw[zmD];exact if_neg hmem);obtain⟨q,hq⟩:∃q:Nat,q=ns:=⟨_,rfl⟩
    have HQQ:=lhd (show q=(zmr P []++ [n7]).idxOf n7 by
     rw[List.idxOf_append,if_neg hmem,hq,HNS.out];simp)
    subst hq;clear hmem hix;have hqk:q≤k:=by have:=HNS.out;have:=HLK.out;omega
    have hbk:Below w1.heap.size w1 (w1.alloc (.cells #[.string (bsB n7)] 9)):=(Below.refl _ _).alloc (Nat.le_refl _) _;have HVK:=lhd (HV1.out.later hbk);have HCK:=lhd (World.news_of_block (w:=w1.alloc (.cells #[.string (bsB n7)] 9)) (cs:=#[.string (bsB n7)]) (t:=9) (fr:=(0,0)) (by exact heap_alloc_new _ _));have HXK:=lhd (HX.out.below hbk HZ.out);have HBK2:=lhd ((hbk.block bx HZ.out).trans HBK.out);have HROK:=lhd (show(w1.alloc (.cells #[.string (bsB n7)] 9)).ownsRow w.heap.size 9 1 (.slice aK q cK) q (strs (zmr P []))by have:=HVK.out.k;rw[←HNS.out]at this;exact this);have hszk:w.heap.size≤(w1.alloc (.cells #[.string (bsB n7)] 9)).heap.size:=HVK.out.b.size;have HZK:=lhd (show bx<(w1.alloc (.cells #[.string (bsB n7)] 9)).heap.size from Nat.lt_of_lt_of_le HZ.out hbk.size);clear hbk;go_wp2_with fail;refine HIX.out.mono ?_;rintro e w' ⟨rfl,rfl⟩;go_wp2_with (at_builtin;refine wpList_append_own _ rfl _ _ 65 rfl w.heap.size 9 j0 (.string ⟨#[]⟩) 1 16 Tryz.underlying65 hj jz0 jz1 jz2 rfl (by decide) _ _ _ rfl HROK.out ⟨w1.heap.size,0,none⟩ 1 1 [.string (bsB n7)] rfl rfl HCK.out (by simp[Value.oneCell']) (by unfold maxLen;omega) (by omega) (by omega) ?_)
    intro vK w4 ho4 hg4 _;have HV4:=lhd (HVK.out.key (c:=n7) (by rw[←HNS.out];exact ho4) hg4);have HX4:=lhd (HXK.out.grown hg4 HZK.out (fun e=>HNK.out e.symm))
    have HNK4:=lhd (show vK.ownBlock≠some bx from fun e=>by
     have hb4:=(hg4.block bx HZK.out (fun e=>HNK.out e.symm)).trans HBK2.out;rcases ho4.2 with⟨rfl,-⟩|⟨g,cp,cur,rfl,-,hgb,-⟩
     ·cases e
     ·injection e with e;subst e;rw[hb4]at hgb;injection hgb with hgb;injection hgb with _ h5 _;exact absurd h5 (by decide))
    obtain⟨aK4,cK4,rfl,-,-⟩:=(SlR.of_own ho4).shape;clear ho4 hg4 hszk hqk e7;go_upto_region 11 with fail;have y3:=(HX4).out.cell (j:=3) rfl;have f3:=(HX4).out.free (j:=3) (by simp);have HVS:=lhd ((HV4).out.store (by have:=HZW.out;omega) HNO.out HNK4.out 3 (.int .i64 (q:Nat)));have HYS:=lhd (show zaq ((w4).setCell ⟨bx,3,none⟩ (.int .i64 (q:Nat))) bx [.string (bsB n0),.int .i64 n1,.int .i64 n2,.int .i64 (q:Nat),.bool n4,.int .i64 n5,.int .i64 n6]from(HX4).out.set (by simp) (.int .i64 (q:Nat)));go_upto_region 12 with fail;generalize (w4).setCell ⟨bx,3,none⟩ (.int .i64 (q:Nat))=w5 at*;clear y3 f3;have y0:=HYS.out.cell (j:=0) rfl;have y1:=HYS.out.cell (j:=1) rfl;have y2:=HYS.out.cell (j:=2) rfl;have y3:=HYS.out.cell (j:=3) rfl;have y4:=HYS.out.cell (j:=4) rfl;have y5:=HYS.out.cell (j:=5) rfl;have y6:=HYS.out.cell (j:=6) rfl;have hba:Below w5.heap.size w5 (w5.alloc (.cells #[.string (bsB n0),.int .i64 n1,.int .i64 n2,.int .i64 (q:Nat),.bool n4,.int .i64 n5,.int .i64 n6] 48)):=(Below.refl _ _).alloc (Nat.le_refl _) _;have HVA2:=lhd (HVS.out.later hba);have HC2:=lhd (World.news_of_block (w:=w5.alloc (.cells #[.string (bsB n0),.int .i64 n1,.int .i64 n2,.int .i64 (q:Nat),.bool n4,.int .i64 n5,.int .i64 n6] 48)) (cs:=#[.string (bsB n0),.int .i64 n1,.int .i64 n2,.int .i64 (q:Nat),.bool n4,.int .i64 n5,.int .i64 n6]) (t:=48) (fr:=(0,0)) (by exact heap_alloc_new _ _));have hszw:w.heap.size≤(w5.alloc (.cells #[.string (bsB n0),.int .i64 n1,.int .i64 n2,.int .i64 (q:Nat),.bool n4,.int .i64 n5,.int .i64 n6] 48)).heap.size:=HVA2.out.b.size;have HRO:=lhd HVA2.out.o;clear hba;go_wp2_with (at_builtin;refine wpList_append_own _ rfl _ _ 40 rfl w.heap.size 48 i0 (.agg #[.string ⟨#[]⟩,.int .i64 0,.int .i64 0,.int .i64 0,.bool false,.int .i64 0,.int .i64 0]) 7 64 Tryz.underlying40 hi iz0 iz1 iz2 rfl (by decide) _ _ _ rfl HRO.out ⟨w5.heap.size,0,none⟩ 1 1 [.string (bsB n0),.int .i64 n1,.int .i64 n2,.int .i64 (q:Nat),.bool n4,.int .i64 n5,.int .i64 n6] rfl rfl HC2.out (by simp[Value.oneCell']) (by rw[HLV.out];unfold maxLen;omega) (by rw[HLV.out];omega) (by omega) ?_)
    intro v' w6 ho6 hg6 _;have HV6:=lhd (HVA2.out.var (y:=vrD ⟨n0,n1,n2,n3,n4,n5,n6,n7,n8,n9⟩ (q:Nat)) ho6 hg6);clear ho6 hg6 y0 y1 y2 y3 y4 y5 y6 hszw;go_wp2_with fail;go_roundw;case measure=>simp[intOf];omega
    case rel=>
     refine⟨k+1,hlt,by go_num,?_⟩;rw[HTK.out,zpa,HQ.out,←HQQ.out];exact HV6.out
  ·obtain rfl:k=D.length:=by omega
   rw[List.take_length]at HVB;clear hlt;have hro:=HVB.out.o;rw[zo0]at hro;have HRO:=lhd hro;rw[List.take_length,zo0]at hso;subst hso;clear hro;go_wp2_with fail;go_ret;exact⟨_,rfl,HRO.out,HVB.out.b⟩
open Go.RowKit
set_option linter.unusedSimpArgs false
theorem zsW (c:UInt8) (t:Bs):zpZ (c::t)=(!decide (c=36)&&(c::t).all prn):=by
 unfold zpZ;simp
theorem zsu (s:Bs) (w:World) (hm:s.length≤100000):Calls Tryz.prog 161 #[.string (bsB s)] w fun e w'=>e=.returned (.bool (zpZ s))∧w=w':=by
 obtain⟨R,hR⟩:∃R,R=zpZ s:=⟨_,rfl⟩;rw[←hR];have HRR:=lhd hR;have hz:=zqU s;have HL:=lhd (zbh s);clear hR;have HS:=lhd hz;obtain⟨x,hx⟩:∃x,x=bsB s:=⟨_,rfl⟩;rw[←hx]at hz HL⊢;have HX:=lhd hx;clear hx;go_enter Tryz.func161,Tryz.ntmps161;go_wp2_with fail;go_loopw [3] (fun i wr=>∃k:Nat,k≤x.size∧i=.int .i64 k∧(x.data.toList.take k).all prn=true∧w=wr) (fun i _=>x.size-(intOf i).toNat)
 case atStart=>exact⟨0,Nat.zero_le _,rfl,rfl,rfl⟩
 case round=>
  obtain⟨k,hk,rfl,hall,rfl⟩:=hrel;have HA:=lhd hall;clear hall;by_cases hlt:k<x.size
  ·have hlt2:(k:Int)<(x.size:Int):=by omega
   have HT:=lhd (zaG (p:=prn) hlt);have HN:=lhd (fun h=>zaF (p:=prn) hlt h);have HP:=lhd (zsq (x[k]'hlt) w);have hw1:=zrz k (by omega);cases hp:prn (x[k]'hlt)
   ·have HR:=lhd (show R=false by
     rw[HRR.out];have h1:=HN.out hp;rw[HL.out]at h1;cases s with
     |nil=>rfl
     |cons c t=>rw[zsW,h1,Bool.and_false])
    rw[hp]at HP;clear hp;go_wp2_with fail;refine HP.out.mono ?_;rintro e w1 ⟨rfl,rfl⟩;go_wp2_with fail;go_ret;exact⟨zle HR.out.symm,rfl⟩
   ·have HA2:=lhd (show(x.data.toList.take (k+1)).all prn=true by
     rw[HT.out,HA.out,hp];rfl)
    rw[hp]at HP;clear hp;go_wp2_with fail;refine HP.out.mono ?_;rintro e w1 ⟨rfl,rfl⟩;go_wp2_with fail;go_roundw;case rel=>exact⟨k+1,by omega,by go_num,HA2.out,by first|trivial|rfl⟩
    case measure=>simp[intOf];omega
  ·obtain rfl:k=x.size:=by omega
   have hall:s.all prn=true:=by
    have:=HA.out;rwa [List.take_of_length_le (by simp),HL.out]at this
   cases s with
   |nil=>
    have HR:=lhd (show R=false by rw[HRR.out];rfl);have hx:=HX.out;obtain rfl:x=⟨#[]⟩:=hx;clear hall hz;go_wp2_with fail;go_ret;exact⟨zle HR.out.symm,rfl⟩
   |cons c t=>
    have h0:0<x.size:=by rw[hz];simp
    have hte:=znN (s:=x) (by omega);have htn:¬x.toList=[]:=by intro h;rw[h]at hte;cases hte
    have hne:¬x=(⟨#[]⟩:ByteArray):=by rintro rfl;exact absurd h0 (by decide)
    have hix:x[0]'h0=c:=by
     have:=HX.out;subst this;rfl
    have e36:=zn8 c 36 (by decide);by_cases hc:c=36
    ·have HR:=lhd (show R=false by rw[HRR.out,zsW,decide_eq_true hc];rfl);have b3:((c.toNat:Int)==36)=true:=by rw[show(36:Int)=((36:Nat):Int)from rfl,e36];simp[hc]
     have b5:((c.toNat:Int) !=36)=false:=by rw[bne,b3];rfl
     clear hall hz e36 hc;go_wp2_with fail;go_ret;exact⟨zle (by first|exact HR.out.symm|exact b5.trans HR.out.symm),rfl⟩
    ·have HR:=lhd (show R=true by rw[HRR.out,zsW,decide_eq_false hc,hall];rfl);have b3:((c.toNat:Int)==36)=false:=by rw[show(36:Int)=((36:Nat):Int)from rfl,e36];simpa using hc
     have b5:((c.toNat:Int) !=36)=true:=by rw[bne,b3];rfl
     clear hall hz e36 hc;go_wp2_with fail;go_ret;exact⟨zle (by first|exact HR.out.symm|exact b5.trans HR.out.symm),rfl⟩
theorem zrG {W:World} {B e size n:Nat} {v:Value} {xs:List Value} (h:W.ownsRow B e size v n xs) (hn:0<n):∃g cap,v=.slice (some ⟨g,0,none⟩) n cap∧zaq W g xs∧v.ownBlock=some g:=by
 obtain⟨m,rfl⟩:∃m,n=m+1:=⟨n-1,by omega⟩;obtain⟨g,cap,rfl⟩:=zju h;exact⟨g,cap,rfl,zjn h,rfl⟩
theorem zsF (c:UInt8) (t cur:Bs):spl (c::t) cur=if c=32 then cur::spl t []else spl t (cur++ [c]):=by rw[spl]
theorem zqP (a b:Bs):bsB a++bsB b=bsB (a++b):=by
 apply ByteArray.ext;simp[bsB]
theorem zqS {s:Bs} {k:Nat} (hk:k<s.length):(bsB s).extract k (k+1)=bsB [s[k]]:=by
 apply ByteArray.ext;rw[ByteArray.data_extract];apply Array.ext
 ·simp[bsB];omega
 ·intro i h1 h2;have:i=0:=by simp[bsB]at h2;omega
  subst this;simp[bsB]
structure SpI (w:World) (s:Bs) (k:Nat) (v:Value) (W:World) (P:List Bs) (cur:Bs):Prop where
 o:W.ownsRow w.heap.size 9 1 v (P.length+1) (strs (P++ [cur]))
 b:Below w.heap.size w W
 e:spl s []=P++spl (s.drop k) cur
 l:P.length≤k
 c:cur.length≤k
theorem SpI.drew {w W:World} {s:Bs} {k:Nat} {v:Value} {P:List Bs} {cur:Bs} (h:SpI w s k v W P cur):SpI w s k v W.drew P cur:=⟨h.o.drew,h.b.drew,h.e,h.l,h.c⟩
theorem SpI.start (w:World) (s:Bs):SpI w s 0 (.slice (some ⟨w.heap.size,0,none⟩) 1 1) (w.alloc (.cells #[.string ⟨#[]⟩] 9)) [] []:=
 ⟨World.ownsRow_lit w #[.string ⟨#[]⟩] 1 (Nat.le_refl _) (by unfold maxLen;omega) rfl,(Below.refl _ _).alloc (Nat.le_refl _) _,by simp,Nat.le_refl _,Nat.le_refl _⟩
theorem SpI.sep {w W W':World} {s:Bs} {k:Nat} {v v':Value} {P:List Bs} {cur:Bs} (h:SpI w s k v W P cur) (hk:k<s.length) (hc:s[k]=32) {o:Obj} (hg:(W.alloc o).grownBy W' v.ownBlock)
 (ho:W'.ownsRow w.heap.size 9 1 v' (P.length+1+1) (strs (P++ [cur])++ [.string ⟨#[]⟩])):SpI w s (k+1) v' W' (P++ [cur]) []:=by
 refine⟨?_,?_,?_,?_,Nat.zero_le _⟩
 ·have e1:strs (P++ [cur])++ [.string ⟨#[]⟩]=strs (P++ [cur]++ [[]]):=by simp[strs,strV];rfl
  rw[e1]at ho;simpa using ho
 ·exact(h.b.alloc h.b.size _).grown hg (by have:=h.b.size;simp;omega) (fun q hq=>(h.o.lt q hq).1)
 ·rw[h.e,List.drop_eq_getElem_cons hk,zsF,if_pos hc];simp
 ·simp;have:=h.l;omega
theorem SpI.add {w W:World} {s:Bs} {k g cap:Nat} {P:List Bs} {cur:Bs} (h:SpI w s k (.slice (some ⟨g,0,none⟩) (P.length+1) cap) W P cur) (hk:k<s.length) (hc:s[k]≠32):
 SpI w s (k+1) (.slice (some ⟨g,0,none⟩) (P.length+1) cap) (W.setCell ⟨g,P.length,none⟩ (.string (bsB cur++bsB [s[k]]))) P (cur++ [s[k]]):=by
 refine⟨?_,?_,?_,?_,by have:=h.c;simp;omega⟩
 ·have h1:=h.o.stored P.length (.string (bsB cur++bsB [s[k]]))
  have e1:(strs (P++ [cur])).set P.length (.string (bsB cur++bsB [s[k]]))=strs (P++ [cur++ [s[k]]]):=by
   rw[zqP];simp[strs,strV]
  rw[e1]at h1;exact h1.1
 ·exact h.b.setCell (h.o.lt g rfl).1 _
 ·rw[h.e,List.drop_eq_getElem_cons hk,zsF,if_neg hc]
 ·have:=h.l;omega
theorem zr6 (s:Bs) (w:World) (hm:s.length≤100000):Calls Tryz.prog 160 #[.string (bsB s)] w fun e w'=>∃v,e=.returned v∧w'.ownsRow w.heap.size 9 1 v (spl s []).length (strs (spl s []))∧Below w.heap.size w w':=by
 obtain⟨i0,hi0,iz0,iz1,iz2⟩:=info_parts (P:=Tryz.prog) zno;have hz:=zqU s;go_enter Tryz.func160,Tryz.ntmps160;go_wp2_with fail;go_loopw [3,4] (fun v i wr=>∃k:Nat,k≤s.length∧i=.int .i64 k∧∃P cur,SpI w s k v wr P cur) (fun _ i _=>s.length-(intOf i).toNat)
 case atStart=>exact⟨0,Nat.zero_le _,rfl,_,_,SpI.start w s⟩
 case round=>
  obtain⟨k,hk,rfl,P,cur,hI⟩:=hrel;have hPk:=hI.l;by_cases hlt:k<s.length
  ·have hlt2:k<(bsB s).size:=by rw[hz];exact hlt
   have hlt3:(k:Int)<((bsB s).size:Int):=by omega
   have hw1:=zrz k (by omega);have hix:(bsB s)[k]'hlt2=s[k]:=by simp[bsB];rfl
   have e32:=zn8 s[k] 32 (by decide);obtain⟨g,cap,rfl⟩:=zju hI.o;by_cases hc:s[k]=32
   ·have b3:((s[k].toNat:Int)==32)=true:=by rw[show(32:Int)=((32:Nat):Int)from rfl,e32];simp[hc]
    have HI:=lhd hI;have HSEP:=lhd (fun v' W' o hg ho=>hI.sep (v':=v') (W':=W') (o:=o) hlt hc hg ho);clear e32 hI hc;go_wp2_with (at_builtin;refine wpList_append_own _ rfl _ _ 65 rfl w.heap.size 9 i0 (.string ⟨#[]⟩) 1 16 Tryz.underlying65 hi0 iz0 iz1 iz2 rfl (by decide) _ _ _ rfl (World.ownsRow.alloc (by exact HI.out.o) _) ⟨wr.heap.size,0,none⟩ 1 1 [.string ⟨#[]⟩] rfl rfl (World.news_of_block (cs:=#[.string ⟨#[]⟩]) (t:=9) (fr:=(0,0)) (by exact heap_alloc_new wr _)) (by simp[Value.oneCell']) (by unfold maxLen;omega) (by omega) (by have:=HI.out.b.size;simp;omega) ?_)
    intro v7 w7 ho7 hg7 _;have HS2:=lhd (HSEP.out v7 w7 _ hg7 ho7);clear ho7 hg7 HSEP HI;go_wp2_with fail;go_roundw;case rel=>exact⟨k+1,hlt,by go_num,_,_,HS2.out⟩
    case measure=>simp[intOf];omega
   ·have b3:((s[k].toNat:Int)==32)=false:=by rw[show(32:Int)=((32:Nat):Int)from rfl,e32];simpa using hc
    have hld:=hI.o.cellAt P.length (by omega);rw[show(strs (P++ [cur]))[P.length]? =some (.string (bsB cur))by simp[strs,strV]]at hld;have hfr:=hI.o.frozenAt P.length;have HADD:=lhd (hI.add hlt hc);have hex:=zqS hlt;have hcat:¬9223372036854775807<(bsB cur).size+(bsB [s[k]]).size:=by have:=hI.c;rw[zqU,zqU,List.length_singleton];omega
    have hi1:(0:Int)≤(k:Int)+1:=by omega
    have hi2:(k:Int)+1≤(s.length:Int):=by omega
    have hi3:(k:Int)≤(k:Int)+1:=by omega
    obtain⟨n,hn⟩:∃n,P.length+1=n:=⟨_,rfl⟩;have hw2:IntKind.i64.wrap ((n:Int)-1)=(P.length:Int):=by rw[←hn,show(((P.length+1:Nat):Int)-1)=(P.length:Int)by omega];exact IntWalk.i64_in _ (by omega)
    rw[hn]at HADD⊢;have hpn:P.length<n:=by omega
    have HLD:=lhd hld;clear e32 hI hc hn hld;go_upto_region 7 with fail;refine zs2 (S:=fun w'=>w'.cell? ⟨g,P.length,none⟩=some (.string (bsB cur))) (X:=fun j=>decide (17≤j)) (by kernel_rfl) ?_;have HS:=HLD;refine zs0 (i:=0) (v:=?_) rfl (by kernel_rfl) (by kernel_rfl) (by kernel_rfl) (by kernel_rfl) (fun _ _ _ h=>h) (Or.inl ⟨by rfl,?_⟩) HS.out ?_;rotate_left
    ·intro w hSw;(try dsimp only at hSw)
     go_simp;all_goals with_reducible rfl
    simp only[tkS];refine zs0 (i:=1) (v:=?_) rfl (by kernel_rfl) (by kernel_rfl) (by kernel_rfl) (by kernel_rfl) (fun _ _ _ h=>h) (Or.inl ⟨by rfl,?_⟩) HS.out ?_;rotate_left
    ·intro w hSw;(try dsimp only at hSw)
     go_simp;all_goals with_reducible rfl
    simp only[tkS];refine zs0 (i:=2) (v:=?_) rfl (by kernel_rfl) (by kernel_rfl) (by kernel_rfl) (by kernel_rfl) (fun _ _ _ h=>h) (Or.inl ⟨by rfl,?_⟩) HS.out ?_;rotate_left
    ·intro w hSw;(try dsimp only at hSw)
     go_simp;all_goals with_reducible rfl
    simp only[tkS];refine zs0 (i:=3) (v:=?_) rfl (by kernel_rfl) (by kernel_rfl) (by kernel_rfl) (by kernel_rfl) (fun _ _ _ h=>h) (Or.inl ⟨by rfl,?_⟩) HS.out ?_;rotate_left
    ·intro w hSw;(try dsimp only at hSw)
     go_simp;all_goals with_reducible rfl
    simp only[tkS];refine zs0 (i:=4) (v:=?_) rfl (by kernel_rfl) (by kernel_rfl) (by kernel_rfl) (by kernel_rfl) (fun _ _ _ h=>h) (Or.inl ⟨by rfl,?_⟩) HS.out ?_;rotate_left
    ·intro w hSw;(try dsimp only at hSw)
     go_simp;all_goals with_reducible rfl
    simp only[tkS];refine zs0 (i:=5) (v:=?_) rfl (by kernel_rfl) (by kernel_rfl) (by kernel_rfl) (by kernel_rfl) (fun _ _ _ h=>h) (Or.inl ⟨by rfl,?_⟩) HS.out ?_;rotate_left
    ·intro w hSw;(try dsimp only at hSw)
     go_simp;all_goals with_reducible rfl
    simp only[tkS];refine zs0 (i:=6) (v:=?_) rfl (by kernel_rfl) (by kernel_rfl) (by kernel_rfl) (by kernel_rfl) (fun _ _ _ h=>h) (Or.inl ⟨by rfl,?_⟩) HS.out ?_;rotate_left
    ·intro w hSw;(try dsimp only at hSw)
     go_simp;all_goals with_reducible rfl
    simp only[tkS];refine zs0 (i:=7) (v:=?_) rfl (by kernel_rfl) (by kernel_rfl) (by kernel_rfl) (by kernel_rfl) (fun _ _ _ h=>h) (Or.inl ⟨by rfl,?_⟩) HS.out ?_;rotate_left
    ·intro w hSw;(try dsimp only at hSw)
     go_simp;all_goals with_reducible rfl
    simp only[tkS];refine zs0 (i:=8) (v:=?_) rfl (by kernel_rfl) (by kernel_rfl) (by kernel_rfl) (by kernel_rfl) (fun _ _ _ h=>h) (Or.inl ⟨by rfl,?_⟩) HS.out ?_;rotate_left
    ·intro w hSw;(try dsimp only at hSw)
     go_simp;all_goals with_reducible rfl
    simp only[tkS];refine zs0 (i:=9) (v:=?_) rfl (by kernel_rfl) (by kernel_rfl) (by kernel_rfl) (by kernel_rfl) (fun _ _ _ h=>h) (Or.inl ⟨by rfl,?_⟩) HS.out ?_;rotate_left
    ·intro w hSw;(try dsimp only at hSw)
     go_simp;all_goals with_reducible rfl
    simp only[tkS];refine zs0 (i:=10) (v:=?_) rfl (by kernel_rfl) (by kernel_rfl) (by kernel_rfl) (by kernel_rfl) (fun _ _ _ h=>h) (Or.inl ⟨by rfl,?_⟩) HS.out ?_;rotate_left
    ·intro w hSw;(try dsimp only at hSw)
     go_simp;all_goals with_reducible rfl
    simp only[tkS];refine zs0 (i:=11) (v:=?_) rfl (by kernel_rfl) (by kernel_rfl) (by kernel_rfl) (by kernel_rfl) (fun _ _ _ h=>h) (Or.inl ⟨by rfl,?_⟩) HS.out ?_;rotate_left
    ·intro w hSw;(try dsimp only at hSw)
     go_simp;all_goals with_reducible rfl
    simp only[tkS];refine zs0 (i:=12) (v:=?_) rfl (by kernel_rfl) (by kernel_rfl) (by kernel_rfl) (by kernel_rfl) (fun _ _ _ h=>h) (Or.inl ⟨by rfl,?_⟩) HS.out ?_;rotate_left
    ·intro w hSw;(try dsimp only at hSw)
     go_simp;all_goals with_reducible rfl
    simp only[tkS];refine zs0 (i:=13) (v:=?_) rfl (by kernel_rfl) (by kernel_rfl) (by kernel_rfl) (by kernel_rfl) (fun _ _ _ h=>h) (Or.inl ⟨by rfl,?_⟩) HS.out ?_;rotate_left
    ·intro w hSw;(try dsimp only at hSw)
     go_simp;all_goals with_reducible rfl
    simp only[tkS];refine zs0 (i:=14) (v:=?_) rfl (by kernel_rfl) (by kernel_rfl) (by kernel_rfl) (by kernel_rfl) (fun _ _ _ h=>h) (Or.inl ⟨by rfl,?_⟩) HS.out ?_;rotate_left
    ·intro w hSw;(try dsimp only at hSw)
     go_simp;all_goals with_reducible rfl
    simp only[tkS];refine zs0 (i:=15) (v:=?_) rfl (by kernel_rfl) (by kernel_rfl) (by kernel_rfl) (by kernel_rfl) (fun _ _ _ h=>h) (Or.inl ⟨by rfl,?_⟩) HS.out ?_;rotate_left
    ·intro w hSw;(try dsimp only at hSw)
     go_simp;split
     ·exfalso
      have h9:=hcat;omega
     all_goals with_reducible rfl
    simp only[tkS];refine zs0 (i:=16) (v:=?_) rfl (by kernel_rfl) (by kernel_rfl) (by kernel_rfl) (by kernel_rfl) (fun _ _ _ h=>h) (Or.inl ⟨by rfl,?_⟩) HS.out ?_;rotate_left
    ·intro w hSw;(try dsimp only at hSw)
     go_simp;all_goals with_reducible rfl
    simp only[tkS];refine zsZ (i:=17) (by kernel_rfl) rfl (fun K hK=>?_);have c17:=HLD.out;go_simp;refine hK.out _ _ (fun h=>by simp at h) ?_;clear hK;try simp only[tkS]
    refine⟨by kernel_rfl,?_⟩;go_wp2_with fail;go_roundw;case rel=>exact⟨k+1,hlt,by go_num,_,_,HADD.out.drew⟩
    case measure=>simp[intOf];omega
  ·obtain rfl:k=s.length:=by omega
   have h1:=hI.e;rw[List.drop_length,show spl [] cur=[cur]from rfl]at h1;have h2:=hI.o;rw[←h1]at h2;have h3:(spl s []).length=P.length+1:=by rw[h1];simp
   rw[←h3]at h2;have HO:=lhd h2;have HB:=lhd hI.b;clear h1 h2 h3 hI;go_wp2_with fail;go_ret;exact⟨_,rfl,HO.out,HB.out⟩
def zsU (s:Bs):Bool:=decide (s≠ [])&&(decide (s.length≤200)&&(spl s []).all zpZ)
theorem zsV (s:Bs):(decide (s=[])||zsU s)=zp2 s:=by
 unfold zsU zp2;by_cases h:s=[]
 ·rw[decide_eq_true h];simp
 ·rw[decide_eq_false h,decide_eq_true (show s≠ []from h)];simp only[Bool.false_or,Bool.true_and];rw[Bool.and_comm]
theorem zsb (s:Bs) (w:World) (hm:s.length≤100000):Calls Tryz.prog 129 #[.string (bsB s)] w fun e w'=>(∃a n cap,e=.returned (.slice a n cap)∧decide (0<n)=zsU s)∧Below w.heap.size w w':=by
 have hz:=zqU s;obtain⟨R,hR⟩:∃R,R=zsU s:=⟨_,rfl⟩;rw[←hR];by_cases hs0:s=[]
 ·subst hs0;have HR:=lhd (show R=false by rw[hR];rfl);have hb1:(⟨#[]⟩:ByteArray).toList.isEmpty=true:=by rw[ByteArray.toList_eq];rfl
  clear hR;show Calls Tryz.prog 129 #[.string ⟨#[]⟩] w fun e w'=>(∃a n cap,e=.returned (.slice a n cap)∧decide (0<n)=R)∧Below w.heap.size w w';go_enter Tryz.func129,Tryz.ntmps129;go_wp2_with fail;go_ret;exact⟨⟨_,_,_,rfl,by rw[HR.out];rfl⟩,Below.refl _ _⟩
 ·have hne:(bsB s).toList.isEmpty=false:=znN (by rw[zqU];exact fun h=>hs0 (List.length_eq_zero_iff.1 h));have htn:¬(bsB s).toList=[]:=by intro h;rw[h]at hne;cases hne
  have hxn:¬bsB s=(⟨#[]⟩:ByteArray):=fun h=>htn (by rw[h,ByteArray.toList_eq])
  have hR:R=(decide (s.length≤200)&&(spl s []).all zpZ):=by
   rw[hR];unfold zsU;rw[decide_eq_true hs0,Bool.true_and]
  by_cases h2:s.length≤200
  rotate_left
  ·have HR:=lhd (show R=false by rw[hR,decide_eq_false h2,Bool.false_and]);have b2:(200:Int)<(s.length:Int):=by omega
   clear hR h2 hs0;generalize bsB s=x at*;go_enter Tryz.func129,Tryz.ntmps129;go_wp2_with fail;go_ret;exact⟨⟨_,_,_,rfl,by rw[HR.out];rfl⟩,Below.refl _ _⟩
  have b2:¬(200:Int)<(s.length:Int):=by omega
  rw[decide_eq_true h2,Bool.true_and]at hR;have HSP:=lhd (zr6 s w hm);have HLE:=lhd (fun y hy=>zmT s [] y hy);have hcz:(spl s []).length≤s.length+1:=by rw[zmU];have:=List.count_le_length (a:=(32:UInt8)) (l:=s);omega
  have hpz:0<(spl s []).length:=by rw[zmU];omega
  clear hs0;generalize spl s []=L at*;have HRR:=lhd hR;clear hR;generalize bsB s=x at*;go_enter Tryz.func129,Tryz.ntmps129;go_wp2_with fail;refine HSP.out.mono ?_;rintro e w1 ⟨v,rfl,ho,hb⟩;have HO:=lhd ho;have HB:=lhd hb;obtain⟨a,cap,rfl,-,-⟩:=(SlR.of_own ho).shape;clear ho hb HSP;go_wp2_with fail;go_loopw [4] (fun i wr=>∃k:Nat,k≤L.length∧i=.int .i64 k∧(L.take k).all zpZ=true∧w1=wr) (fun i _=>L.length-(intOf i).toNat)
  case atStart=>exact⟨0,Nat.zero_le _,rfl,rfl,rfl⟩
  case round=>
   obtain⟨k,hk,rfl,hal,rfl⟩:=hrel;have HA:=lhd hal;clear hal;by_cases hlt:k<L.length
   ·obtain⟨g,cap',hv,hr,-⟩:=zrG HO.out (by omega);injection hv with e1 _ e3;subst e1 e3;have d0:w1.cell? ⟨g,k,none⟩=some (.string (bsB L[k])):=hr.cell (by simp[strs,strV,hlt]);have hle:=HLE.out L[k] (List.getElem_mem hlt);have HW:=lhd (zsu L[k] w1 (by simp at hle;omega));have hw1:=zrz k (by omega);by_cases hw:zpZ L[k]=true
    ·rw[hw]at HW
     have HA2:=lhd (show(L.take (k+1)).all zpZ=true by
      rw[List.take_succ_eq_append_getElem hlt,List.all_append,HA.out];simp[hw])
     clear hw hle hr;generalize L[k]=y at*;go_wp2_with fail;refine HW.out.mono ?_;rintro e w2 ⟨rfl,rfl⟩;go_wp2_with fail;go_roundw;case rel=>exact⟨k+1,hlt,by go_num,HA2.out,by first|trivial|rfl⟩
     case measure=>simp[intOf];omega
    ·have hwf:zpZ L[k]=false:=by simpa using hw
     rw[hwf]at HW
     have HR:=lhd (show R=false by
      rw[HRR.out,←Bool.not_eq_true];intro h;exact hw (List.all_eq_true.1 h _ (List.getElem_mem hlt)))
     clear hw hwf hle hr;generalize L[k]=y at*;go_wp2_with fail;refine HW.out.mono ?_;rintro e w2 ⟨rfl,rfl⟩;go_wp2_with fail;go_ret;exact⟨⟨_,_,_,rfl,by rw[HR.out];rfl⟩,HB.out⟩
   ·obtain rfl:k=L.length:=by omega
    have HR:=lhd (show R=true by rw[HRR.out];have:=HA.out;rwa [List.take_length]at this);have HP:=lhd hpz;go_wp2_with fail;go_ret;exact⟨⟨_,_,_,rfl,by rw[HR.out,decide_eq_true HP.out]⟩,HB.out⟩
theorem zr8 (s:Bs) (w:World) (hm:s.length≤100000):Calls Tryz.prog 76 #[.string (bsB s)] w fun e w'=>e=.returned (.bool (zp2 s))∧Below w.heap.size w w':=by
 obtain⟨R,hR⟩:∃R,R=zp2 s:=⟨_,rfl⟩;rw[←hR];rw[←zsV]at hR;have HW:=lhd (zsb s w hm);by_cases hs0:s=[]
 ·subst hs0;have HR:=lhd (show R=true by rw[hR];rfl);clear hR HW;show Calls Tryz.prog 76 #[.string ⟨#[]⟩] w fun e w'=>e=.returned (.bool R)∧Below w.heap.size w w';go_enter Tryz.func76,Tryz.ntmps76;go_wp2_with fail;go_ret;exact⟨zle HR.out.symm,Below.refl _ _⟩
 ·have hne:(bsB s).toList.isEmpty=false:=znN (by rw[zqU];exact fun h=>hs0 (List.length_eq_zero_iff.1 h));have htn:¬(bsB s).toList=[]:=by intro h;rw[h]at hne;cases hne
  have hxn:¬bsB s=(⟨#[]⟩:ByteArray):=fun h=>htn (by rw[h,ByteArray.toList_eq]);rw[decide_eq_false hs0,Bool.false_or]at hR;have HR:=lhd hR;clear hR hs0;generalize zsU s=q at*;generalize bsB s=x at*;go_enter Tryz.func76,Tryz.ntmps76;go_wp2_with fail;refine HW.out.mono ?_;rintro e w2 ⟨⟨a,n,cap,rfl,hn⟩,hb⟩;have HB:=lhd hb;have HN:=lhd (show R=decide (0<n)by rw[HR.out,←hn]);clear hn hb;go_wp2_with fail;go_ret;exact⟨zle HN.out.symm,HB.out⟩
end Go.Proofs.YtcdekelomkcahaaGreatDoor
