import Derived.Test.YtfppgpamkdkckaaGreatDoorZ00
import Derived.Deep.RegionLawGrows
import Derived.Test.YtfppgpamkdkckaaGreatDoorZ33
import Derived.Test.YtfppgpamkdkckaaGreatDoorZ34
import Derived.Test.YtfppgpamkdkckaaGreatDoorZ35
set_option maxRecDepth 100000
set_option maxHeartbeats 16000000
namespace Go.Proofs.YtfppgpamkdkckaaGreatDoor
open Go.RowKit
set_option linter.unusedSimpArgs false
def srcT (t:Tr):Tr:=if zsv t=true then t else{tr0 with en:= -1}
theorem ztU (B b:Nat) (d0 d1 d2 d3 d4 d5:Value) (l:Bs) (w:World) (h:WrI B b d0 d1 d2 d3 d4 d5 (Lib.byteCells l) w) (h0:l≠ []):
 Calls Tryz.prog 51 #[.pointer (some ⟨b,6,none⟩)] w fun e w'=>e=.returned (.string (bsB l))∧Below B w w':=by
 obtain⟨p,hB,v,hbk,hown⟩:∃p,WrAt B b d0 d1 d2 d3 d4 d5 p (Lib.byteCells l) w:=by
  rcases h with h|h
  ·exact⟨_,h⟩
  ·exact⟨_,h⟩
 have hl0:l.length≠0:=by simpa using h0
 rw[Lib.byteCells_length]at hown
 obtain⟨g,cap,cur,rfl,hbg,hg,hnc,hcm,hcs,htake⟩:∃g cap cur,v=.slice (some ⟨g,0,none⟩) l.length cap∧B≤g∧w.heap[g]? =some (.cells cur 5 (0,0))∧l.length≤cap∧cap≤maxLen∧cur.size=cap*1∧cur.toList.take (l.length*1)=Lib.byteCells l:=by
  rcases hown.2 with⟨_,hz⟩|⟨g,cap,cur,hv,r⟩
  ·exact absurd hz hl0
  ·exact⟨g,cap,cur,hv,r⟩
 have c1:w.drew.cell? ⟨b,7,none⟩=some (.slice (some ⟨g,0,none⟩) l.length cap):=by
  have:w.drew.heap[b]? =some (.cells #[d0,d1,d2,d3,d4,d5,p,.slice (some ⟨g,0,none⟩) l.length cap] 103 (0,0)):=hbk;rw[Lib.cell_of_heap this];rfl
 have hSD:(Builtin.unsafeSliceData_ #[62] 157 #[.slice (some ⟨g,0,none⟩) l.length cap]).run Tryz.prog w.drew=.ok (.pointer (some ⟨g,0,none⟩)) w.drew:=
  Lib.run_unsafeSliceData_row _ _ _ _ _ _ (by omega)
 have hUS:(Builtin.unsafeString_ #[157,3] 9 #[.pointer (some ⟨g,0,none⟩),.int .i64 l.length]).run Tryz.prog w.drew=.ok (.string ⟨l.toArray⟩) (w.drew.freeze ⟨g,0,none⟩ l.length):=by
  refine Lib.run_unsafeString_row w.drew 157 3 9 5 Tryz.underlying157 (by kernel_rfl) g cur.size (by have hg':w.drew.heap[g]? =some (.cells cur 5 (0,0)):=hg;simp[World.shape?,hg']) l h0 (by omega) (by unfold maxLen at hcm;omega) ?_;intro j x hx;have:=hown.cells (g:=g) rfl j (.int .u8 x.toNat) (by simp[Lib.byteCells,hx]);exact this
 have hF:=lhd (Lib.below_freeze (Below.drew (Below.refl B w)) (p:=⟨g,0,none⟩) hbg l.length);clear hown htake;have hmx:Tryz.prog.follows .mixedOrders=true:=by kernel_rfl
 go_enter Tryz.func51,Tryz.ntmps51;go_wp2
 go_region_o
 all_goals (go_wp2;go_ret;exact⟨rfl,hF.out⟩)
theorem zt0 (B b:Nat) (d0 d1 d2 d3 d4 d5:Value) (bs:Bs) (g:Nat) (C:Array Value) (T:TypeId) (L:List Bs) (w:World) (h:WrI B b d0 d1 d2 d3 d4 d5 (Lib.byteCells bs) w) (hg:w.heap[g]? =some (.cells C T (0,0))) (hC:C.toList=strs L) (hL:L.length≤1000) (hz:bs.length+(ziq L).length≤140737488355328) (hBw:B≤w.heap.size):
 Calls Tryz.prog 49 #[.pointer (some ⟨b,0,none⟩),.slice (some ⟨g,0,none⟩) L.length L.length] w fun e w'=>e=.returned (.tuple #[])∧WrI B b d0 d1 d2 d3 d4 d5 (Lib.byteCells (bs++ziq L)) w'∧KW B w w':=by
 obtain⟨i0,hi,iz0,iz1,iz2⟩:=info_parts (P:=Tryz.prog) zpS;have hal:Below w.heap.size w (w.drew.alloc (.cells #[.string ⟨#[36,101,110,100]⟩] 9)):=((Below.refl _ _).drew).alloc (Nat.le_refl _) _
 have HA:=lhd (show ∀(j:Nat) (u:Value),(strs L)[j]? =some u→(w.drew.alloc (.cells #[.string ⟨#[36,101,110,100]⟩] 9)).cell? ((⟨g,0,none⟩:Addr).add j)=some u from by
  rw[←hC];exact World.news_of_block ((hal.block g (Array.getElem?_eq_some_iff.1 hg).1).trans hg))
 have HW:=lhd (h.below hal);have HK:=lhd (KW.of_below hal hBw);have HT:=lhd (show ∀l:List Bs,strs l++ [Value.string ⟨#[36,101,110,100]⟩]=strs (l++ [sEnd])from fun l=>by simp[strs,strV];rfl);have hsl:(strs L).length=L.length:=by simp[strs]
 have hlt:=h.lt;have hzz:(joinL (L++ [sEnd])).length+1=(ziq L).length:=by unfold ziq;simp
 clear h hal hg hC;go_enter Tryz.func49,Tryz.ntmps49;go_wp2_with fail;refine wp_region_held_drew (S:=fun _=>True) (by kernel_rfl) trivial (fun hHeld=>?_);refine tkH 0 hHeld (v:=?_) ?_;simp only[tkS];refine tkH 1 hHeld (v:=?_) ?_;simp only[tkS];refine tkH 2 hHeld (v:=?_) ?_;simp only[tkS];refine tkH 3 hHeld (v:=?_) ?_;simp only[tkS];refine oneH 4 (fun K hK=>?_);go_simp;refine hK.out _ _ trivial (fun hHeld=>?_);clear hK;try simp only[tkS]
 refine oneH 5 (fun K hK=>?_);refine step_append_grows (by rfl) _ _ _ (by rfl) 9 i0 _ 1 16 Tryz.underlying107 hi iz0 iz1 iz2 rfl (by omega) (some ⟨g,0,none⟩) L.length L.length (strs L) (by rfl) (by simp) (by rw[hsl];omega) (by rintro b' hb';injection hb' with hb';subst hb';exact HA.out) ⟨w.heap.size,0,none⟩ 1 1 [.string ⟨#[36,101,110,100]⟩] (by rfl) (by rfl) (World.news_of_block (cs:=#[.string ⟨#[36,101,110,100]⟩]) (t:=9) (fr:=(0,0)) (by exact heap_alloc_new _ _)) (by simp[Value.oneCell']) (by omega) (by unfold maxLen;omega) (by omega) ?_;intro v9 w9 ho9 hg9;have hb9:Below _ _ w9:=(Below.refl _ _).grown hg9 (Nat.le_refl _) (fun k hk=>by cases hk);have hW9:=HW.out.below hb9;have HK9:=lhd (HK.out.trans (KW.of_below hb9 (Nat.le_trans hBw HK.out.b.size)));rw[HT.out]at ho9;have hL9:(L++ [sEnd]).length=L.length+1:=by simp
 have HJ:=lhd (zc9 _ 9 v9 (L++ [sEnd]) w9 (by rw[hL9];exact ho9) (by omega) (by omega));have HW9:=lhd hW9;have hB9:=HK9.out.b.size;clear ho9 hg9 hb9 hW9 hL9;refine hK.out _ _ trivial (fun hHeld=>?_);clear hK;try simp only[tkS]
 refine oneH 6 (fun K hK=>?_);go_simp;refine HJ.out.mono ?_;rintro e w10 ⟨rfl,hb10⟩;have HW10:=lhd (HW9.out.below hb10);have HK10:=lhd (HK9.out.trans (KW.of_below hb10 (by omega)));have hs10:=zbt (joinL (L++ [sEnd]));have hq:¬9223372036854775807<(bsB (joinL (L++ [sEnd]))).size+1:=by omega
 have hq2:¬9223372036854775807<(joinL (L++ [sEnd])).length+1:=by omega
 have hB10:=hb10.size
 have HWS:=lhd (ztV B b d0 d1 d2 d3 d4 d5 _ (bsB (joinL (L++ [sEnd]))++⟨#[10]⟩) w10 HW10.out (by
  rw[ByteArray.size_append,hs10,show(⟨#[10]⟩:ByteArray).size=1 from rfl,Lib.byteCells_length];omega) (by omega))
 have HE:=lhd (show Lib.byteCells bs++Lib.strCells (bsB (joinL (L++ [sEnd]))++⟨#[10]⟩)=Lib.byteCells (bs++ziq L)by
  simp[Lib.byteCells,Lib.strCells,ziq,bsB])
 clear hb10 hzz hs10 hz hBw hlt hB9 hB10 hq2;generalize bsB (joinL (L++ [sEnd]))=zz at*;clear hHeld;go_wp2_with fail;refine hK.out _ _ trivial (fun hHeld=>?_);clear hK;try simp only[tkS]
 refine tkH 7 hHeld (v:=?_) ?_;simp only[tkS];refine oneH 8 (fun K hK=>?_);go_simp;refine HWS.out.mono ?_;rintro e w11 ⟨rfl,h11,k11⟩;rw[HE.out]at h11;have HW11:=lhd h11;have HK11:=lhd (HK10.out.trans k11);clear hHeld h11 k11;go_wp2_with fail;refine hK.out _ _ trivial (fun hHeld=>?_);clear hK;try simp only[tkS]
 refine wpAnyH_done (by kernel_rfl) ?_ _;clear hHeld;go_wp2_with fail;go_end0
 exact⟨rfl,HW11.out,HK11.out⟩
theorem zcp (v:Value) (l:List Sc) (w:World) (hs0:SlR w v l.length (scs l)) (hn:l.length≤1000000):
 Calls Tryz.prog 33 #[v] w fun e w'=>∃v',e=.returned v'∧w'.ownsRow w.heap.size 66 3 v' l.length (scs l)∧Below w.heap.size w w':=by
 obtain⟨a,cap,rfl,hc,hm,hz,hat⟩:=hs0;have hs:SlR w (.slice a l.length cap) l.length (scs l):=⟨a,cap,rfl,hc,hm,hz,hat⟩;cases a with
 |none=>
  have hcap:=hz rfl;subst hcap;have hq:=Lib.run_eql_slice_nil (P:=Tryz.prog) w 27 66 none l.length 0 0 0 Tryz.underlying27;have h0:l.length=0:=by omega
  have HL:=lhd (zoe l h0);have H0:=lhd h0;clear hs hz hat h0;go_enter Tryz.func33,Tryz.ntmps33;go_wp2_with fail;go_ret;exact⟨_,rfl,by rw[HL.out,H0.out];exact World.ownsRow_nil _ _ _ _,Below.refl _ _⟩
 |some ad=>
  have hq:=Lib.run_eql_slice_nil (P:=Tryz.prog) w 27 66 (some ad) l.length cap 0 0 Tryz.underlying27;obtain⟨i0,hi,iz0,iz1,iz2⟩:=info_parts (P:=Tryz.prog) znM;have hbw:Below w.heap.size w (w.alloc (.cells #[] 66)):=(Below.refl _ _).alloc (Nat.le_refl _) _;have HN:=lhd ((hs.below hbw).news (zoe l));have hown:(w.alloc (.cells #[] 66)).ownsRow w.heap.size 66 3 (.slice (some ⟨w.heap.size,0,none⟩) 0 0) 0 []:=World.ownsRow_lit w #[] 0 (Nat.le_refl _) (by simp[maxLen]) (by simp);have HOWN:=lhd hown;clear hs hz hat hbw hown;go_enter Tryz.func33,Tryz.ntmps33;go_wp2_with (at_builtin;refine wpList_append_own _ rfl _ _ 27 rfl w.heap.size 66 i0 (.agg #[.string ⟨#[]⟩,.int .i64 0,.int .i64 0]) 3 32 Tryz.underlying27 hi iz0 iz1 iz2 rfl (by decide) _ _ _ rfl HOWN.out ad l.length cap (scs l) rfl (by rw[zod];omega) HN.out (zof l) (by unfold maxLen;omega) (by omega) (by simp) ?_)
  intro v' w' ho hg _;have HO:=lhd ho;have HG:=lhd hg;clear ho hg;go_wp2_with fail;go_ret;exact⟨_,rfl,by have:=HO.out;simpa using this,((Below.refl _ _).alloc (Nat.le_refl _) _).grown HG.out (by simp) (by intro k hk;simp[Value.ownBlock]at hk;omega)⟩
def dclE (t:Tr) (v:Vr):Dcl:=⟨v.nm,v.ty,v.sc,0,v.rg,v.mb,v.lb,zcG v.sg,(t.G.getD v.sg.toNat (0,0,[])).1,(t.G.getD v.sg.toNat (0,0,[])).2.1⟩
def decE (t:Tr):DD:=if zsv t=true then⟨t.sc,t.dt,t.vn,t.cm,t.S,t.V.map (dclE t)⟩else⟨0,[],[],[],[],[]⟩
theorem zbW {W:World} {b j:Nat} {C:Array Value} {T:TypeId} {fr:Nat×Nat} {u:Value} (h:W.heap[b]? =some (.cells C T fr)):(W.setCell ⟨b,j,none⟩ u).heap[b]? =some (.cells (C.setIfInBounds j u) T fr):=by
 have hlt:=(Array.getElem?_eq_some_iff.1 h).1;show(W.heap.modify b _)[b]? =_;rw[Array.getElem?_modify,if_pos rfl,h];rfl
abbrev st6 (W:World) (b:Nat) (u0 u1 u2 u3 u4 u5:Value):World:=(((((W.setCell ⟨b,0,none⟩ u0).setCell ⟨b,1,none⟩ u1).setCell ⟨b,2,none⟩ u2).setCell ⟨b,3,none⟩ u3).setCell ⟨b,4,none⟩ u4).setCell ⟨b,5,none⟩ u5
theorem zpH {W:World} {b:Nat} {T:TypeId} {z0 z1 z2 z3 z4 z5:Value} (h:W.heap[b]? =some (.cells #[z0,z1,z2,z3,z4,z5] T (0,0))) (u0 u1 u2 u3 u4 u5:Value):(st6 W b u0 u1 u2 u3 u4 u5).heap[b]? =some (.cells #[u0,u1,u2,u3,u4,u5] T (0,0)):=by
 have:=zbW (j:=5) (u:=u5) (zbW (j:=4) (u:=u4) (zbW (j:=3) (u:=u3) (zbW (j:=2) (u:=u2) (zbW (j:=1) (u:=u1) (zbW (j:=0) (u:=u0) h)))));exact this
theorem zpG {B b:Nat} {w0 W:World} (h:Below B w0 W) (hb:B≤b) (u0 u1 u2 u3 u4 u5:Value):Below B w0 (st6 W b u0 u1 u2 u3 u4 u5):=
 (((((h.setCell (p:=⟨b,0,none⟩) hb u0).setCell (p:=⟨b,1,none⟩) hb u1).setCell (p:=⟨b,2,none⟩) hb u2).setCell (p:=⟨b,3,none⟩) hb u3).setCell (p:=⟨b,4,none⟩) hb u4).setCell (p:=⟨b,5,none⟩) hb u5
theorem zpI {W:World} {b c:Nat} (h:c≠b) (u0 u1 u2 u3 u4 u5:Value):(st6 W b u0 u1 u2 u3 u4 u5).heap[c]? =W.heap[c]? :=by
 unfold st6;rw[Below.heap_setCell _ _ _ _ h,Below.heap_setCell _ _ _ _ h,Below.heap_setCell _ _ _ _ h,Below.heap_setCell _ _ _ _ h,Below.heap_setCell _ _ _ _ h,Below.heap_setCell _ _ _ _ h]
theorem zlv {W V:World} {B e size n b:Nat} {v:Value} {xs:List Value} {C:Array Value} {T:TypeId} (h:W.ownsRow B e size v n xs) (hb:W.heap[b]? =some (.cells C T (0,0))) (hT:e≠T) (hV:∀c,c≠b→V.heap[c]? =W.heap[c]?):V.ownsRow B e size v n xs:=by
 obtain⟨h1,h2⟩:=h;refine⟨h1,?_⟩;rcases h2 with h2|⟨g,cap,cur,e0,hg0,hg,hr⟩
 ·exact .inl h2
 ·refine .inr ⟨g,cap,cur,e0,hg0,?_,hr⟩
  rw[hV g (fun q=>by
   subst q;rw[hg]at hb;injection hb with hb;injection hb with _ h5 _;exact hT h5)]
  exact hg
theorem zoE {t:Tr} (h:ValidT t) {v:Vr} (hv:v∈t.V):0≤v.sg∧v.sg.toNat<t.G.length:=by
 obtain⟨-,-,hd,-⟩:=zce.1 h.c;have h0:=(zd2 hd v hv).2.2;have ho:=h.o;unfold zll at ho;rw[if_neg (fun q=>q h.c)]at ho;injection ho with h1 ho;injection ho with h2 ho;injection ho with h3 ho;have hw:v∈(vrF t.S t.V).1:=by rw[h2];exact hv
 obtain⟨v',-,-,hw2,hw3⟩:=zs0 hw;have:=(List.getElem?_eq_some_iff.1 hw3).1;rw[h3,znm]at this;exact⟨h0,this⟩
abbrev st10 (W:World) (b:Nat) (u0 u1 u2 u3 u4 u5 u6 u7 u8 u9:Value):World:=(((((((((W.setCell ⟨b,0,none⟩ u0).setCell ⟨b,1,none⟩ u1).setCell ⟨b,2,none⟩ u2).setCell ⟨b,3,none⟩ u3).setCell ⟨b,4,none⟩ u4).setCell ⟨b,5,none⟩ u5).setCell ⟨b,6,none⟩ u6).setCell ⟨b,7,none⟩ u7).setCell ⟨b,8,none⟩ u8).setCell ⟨b,9,none⟩ u9
theorem zpF {W:World} {b:Nat} {T:TypeId} {z0 z1 z2 z3 z4 z5 z6 z7 z8 z9:Value} (h:W.heap[b]? =some (.cells #[z0,z1,z2,z3,z4,z5,z6,z7,z8,z9] T (0,0))) (u0 u1 u2 u3 u4 u5 u6 u7 u8 u9:Value):(st10 W b u0 u1 u2 u3 u4 u5 u6 u7 u8 u9).heap[b]? =some (.cells #[u0,u1,u2,u3,u4,u5,u6,u7,u8,u9] T (0,0)):=by
 have h0:(W.setCell ⟨b,0,none⟩ u0).heap[b]? =some (.cells #[u0,z1,z2,z3,z4,z5,z6,z7,z8,z9] T (0,0)):=zbW h;have h1:((W.setCell ⟨b,0,none⟩ u0).setCell ⟨b,1,none⟩ u1).heap[b]? =some (.cells #[u0,u1,z2,z3,z4,z5,z6,z7,z8,z9] T (0,0)):=zbW h0;have h2:(((W.setCell ⟨b,0,none⟩ u0).setCell ⟨b,1,none⟩ u1).setCell ⟨b,2,none⟩ u2).heap[b]? =some (.cells #[u0,u1,u2,z3,z4,z5,z6,z7,z8,z9] T (0,0)):=zbW h1;have h3:((((W.setCell ⟨b,0,none⟩ u0).setCell ⟨b,1,none⟩ u1).setCell ⟨b,2,none⟩ u2).setCell ⟨b,3,none⟩ u3).heap[b]? =some (.cells #[u0,u1,u2,u3,z4,z5,z6,z7,z8,z9] T (0,0)):=zbW h2;have h4:(((((W.setCell ⟨b,0,none⟩ u0).setCell ⟨b,1,none⟩ u1).setCell ⟨b,2,none⟩ u2).setCell ⟨b,3,none⟩ u3).setCell ⟨b,4,none⟩ u4).heap[b]? =some (.cells #[u0,u1,u2,u3,u4,z5,z6,z7,z8,z9] T (0,0)):=zbW h3;have h5:((((((W.setCell ⟨b,0,none⟩ u0).setCell ⟨b,1,none⟩ u1).setCell ⟨b,2,none⟩ u2).setCell ⟨b,3,none⟩ u3).setCell ⟨b,4,none⟩ u4).setCell ⟨b,5,none⟩ u5).heap[b]? =some (.cells #[u0,u1,u2,u3,u4,u5,z6,z7,z8,z9] T (0,0)):=zbW h4;have h6:(((((((W.setCell ⟨b,0,none⟩ u0).setCell ⟨b,1,none⟩ u1).setCell ⟨b,2,none⟩ u2).setCell ⟨b,3,none⟩ u3).setCell ⟨b,4,none⟩ u4).setCell ⟨b,5,none⟩ u5).setCell ⟨b,6,none⟩ u6).heap[b]? =some (.cells #[u0,u1,u2,u3,u4,u5,u6,z7,z8,z9] T (0,0)):=zbW h5;have h7:((((((((W.setCell ⟨b,0,none⟩ u0).setCell ⟨b,1,none⟩ u1).setCell ⟨b,2,none⟩ u2).setCell ⟨b,3,none⟩ u3).setCell ⟨b,4,none⟩ u4).setCell ⟨b,5,none⟩ u5).setCell ⟨b,6,none⟩ u6).setCell ⟨b,7,none⟩ u7).heap[b]? =some (.cells #[u0,u1,u2,u3,u4,u5,u6,u7,z8,z9] T (0,0)):=zbW h6;have h8:(((((((((W.setCell ⟨b,0,none⟩ u0).setCell ⟨b,1,none⟩ u1).setCell ⟨b,2,none⟩ u2).setCell ⟨b,3,none⟩ u3).setCell ⟨b,4,none⟩ u4).setCell ⟨b,5,none⟩ u5).setCell ⟨b,6,none⟩ u6).setCell ⟨b,7,none⟩ u7).setCell ⟨b,8,none⟩ u8).heap[b]? =some (.cells #[u0,u1,u2,u3,u4,u5,u6,u7,u8,z9] T (0,0)):=zbW h7;have h9:((((((((((W.setCell ⟨b,0,none⟩ u0).setCell ⟨b,1,none⟩ u1).setCell ⟨b,2,none⟩ u2).setCell ⟨b,3,none⟩ u3).setCell ⟨b,4,none⟩ u4).setCell ⟨b,5,none⟩ u5).setCell ⟨b,6,none⟩ u6).setCell ⟨b,7,none⟩ u7).setCell ⟨b,8,none⟩ u8).setCell ⟨b,9,none⟩ u9).heap[b]? =some (.cells #[u0,u1,u2,u3,u4,u5,u6,u7,u8,u9] T (0,0)):=zbW h8;exact h9
theorem zpE {B b:Nat} {w0 W:World} (h:Below B w0 W) (hb:B≤b) (u0 u1 u2 u3 u4 u5 u6 u7 u8 u9:Value):Below B w0 (st10 W b u0 u1 u2 u3 u4 u5 u6 u7 u8 u9):=
 (((((((((h.setCell (p:=⟨b,0,none⟩) hb u0).setCell (p:=⟨b,1,none⟩) hb u1).setCell (p:=⟨b,2,none⟩) hb u2).setCell (p:=⟨b,3,none⟩) hb u3).setCell (p:=⟨b,4,none⟩) hb u4).setCell (p:=⟨b,5,none⟩) hb u5).setCell (p:=⟨b,6,none⟩) hb u6).setCell (p:=⟨b,7,none⟩) hb u7).setCell (p:=⟨b,8,none⟩) hb u8).setCell (p:=⟨b,9,none⟩) hb u9
theorem ztl {k n:Int} {v:Bs} (h:vv k n (bsB v)=true):v.length≤128:=by
 rcases ztj (zto h)with rfl|rfl|rfl|rfl
 ·exact(zbh.1 h).2.2.1
 ·unfold vv at h;rw[Bool.and_eq_true,if_neg (by decide),if_pos rfl]at h;have h2:=h.2;unfold zdH at h2;split at h2
  ·cases h2
  ·rename_i m hm
   unfold znT at hm;split at hm
   ·cases hm
   ·rename_i h64
    rw[zbt]at h64;omega
 ·unfold vv at h;rw[Bool.and_eq_true,if_neg (by decide),if_neg (by decide),if_pos rfl,decide_eq_true_iff,zbt]at h;omega
 ·unfold vv at h;rw[Bool.and_eq_true,if_neg (by decide),if_neg (by decide),if_neg (by decide)]at h;have h2:=h.2;unfold nilB at h2;rw[decide_eq_true_iff,zbt]at h2;omega
theorem zfH (k:Int) (v:Bs):(fmtV k v).length≤4*v.length+1:=by
 unfold fmtV;split
 ·have:=zoM v;omega
 ·split
  ·omega
  ·split
   ·have:=zmN v;omega
   ·simp
theorem zcJ {id:Bs} (h:codeOk id=true):id.length≤8:=by
 unfold codeOk at h;simp only[Bool.and_eq_true,decide_eq_true_iff]at h;exact h.1.1.2
theorem zct (k n:Int) (v id:Bs):(cmdL cv k n v id).length≤600:=by
 unfold cmdL;split
 ·rename_i h
  simp only[Bool.and_eq_true]at h;have h1:=ztl (show vv k n (bsB v)=true from h.1.2);have h2:=zcJ h.2;have h3:(cv.fmt k n v).length≤4*v.length+1:=zfH k v;split
  ·rw[List.length_append];omega
  ·simp only[List.length_append,List.length_cons];omega
 ·simp
theorem zix {n:Nat}:∀{L:List Bs},(∀x∈L,x.length≤n)→(ziu L).length≤(n+1)*L.length
 | [],_=>by simp[ziu]
 |x::L,h=>by
  have h1:=h x (by simp);have h2:=zix (L:=L) fun y hy=>h y (by simp[hy]);rw[ziw,List.length_append,List.length_cons,Nat.mul_add];have:(zir x).length=x.length+1:=by simp[zir]
  omega
theorem zkH:∀(l:List Dc) (done:List Bs),(zkG cv done l).length≤l.length∧∀x∈zkG cv done l,x.length≤600
 | [],_=>⟨Nat.le_refl _,by simp[zkG]⟩
 |y::t,done=>by
  obtain⟨a1,a2⟩:=zkH t (y.1::done);obtain⟨b1,b2⟩:=zkH t done;unfold zkG;split
  ·split
   ·refine⟨by simp only[List.length_cons];omega,fun x hx=>?_⟩;rcases List.mem_cons.1 hx with rfl|hx
    ·exact zct _ _ _ _
    ·exact a2 x hx
   ·exact⟨by simp only[List.length_cons];omega,a2⟩
  ·exact⟨by simp only[List.length_cons];omega,b2⟩
theorem zmZ (K:Bs→Option Dc) (l:List Dc) {r:Rc} (h:r.1=0→0≤r.2.1∧r.2.1≤1099511627776):(zmY cv K l r).length≤l.length+2∧∀x∈zmY cv K l r,x.length≤600:=by
 unfold zmY;split
 ·rename_i h0
  obtain⟨h1,h2⟩:=h h0;refine⟨by simp,fun x hx=>?_⟩;rw[List.mem_singleton]at hx;subst hx;obtain⟨u,hu⟩:∃u:Nat,r.2.1=(u:Int):=⟨r.2.1.toNat,by omega⟩;rw[hu,show Lib.itoa (u:Int)=Lib.decDigits u by rw[Lib.itoa,if_neg (by omega),Int.toNat_natCast],List.length_cons,Lib.decDigits_length]
  have:=zje 12 u (by
   have:(10:Nat)^(12+1)=10000000000000:=by decide
   omega)
  omega
 ·split
  ·refine⟨by simp,fun x hx=>?_⟩;rw[List.mem_singleton]at hx;subst hx;unfold cmdK;split
   ·simp
   ·exact zct _ _ _ _
  ·split
   ·obtain⟨a1,a2⟩:=zkH l [];refine⟨by simp only[List.length_append,List.length_cons,List.length_nil];omega,fun x hx=>?_⟩;rcases List.mem_append.1 hx with hx|hx
    ·rcases List.mem_cons.1 hx with rfl|hx
     ·decide
     ·exact a2 x hx
    ·rw[List.mem_singleton]at hx;subst hx;decide
   ·split
    ·refine⟨by simp,fun x hx=>?_⟩;rw[List.mem_singleton]at hx;subst hx;decide
    ·refine⟨by simp,fun x hx=>?_⟩;rw[List.mem_singleton]at hx;subst hx;decide
theorem zfD (K:Bs→Option Dc) (l:List Dc):∀(rs:List Rc) (o:Bool),(∀r∈rs,r.1=0→0≤r.2.1∧r.2.1≤1099511627776)→
 (zfC cv K l o rs).length≤(l.length+3)*rs.length+1∧∀x∈zfC cv K l o rs,x.length≤600
 | [],o,_=>by
   unfold zfC;split
   ·refine⟨by simp,fun x hx=>?_⟩;rw[List.mem_singleton]at hx;subst hx;decide
   ·exact⟨by simp,by simp⟩
 |r::t,o,h=>by
  obtain⟨a1,a2⟩:=zfD K l t (zk6 r o) fun x hx=>h x (by simp[hx]);obtain⟨b1,b2⟩:=zmZ K l (h r (by simp))
  have hc:(if o=true∧r.1≠1 then [sEnd]else []).length≤1∧∀x∈(if o=true∧r.1≠1 then [sEnd]else []),x.length≤600:=by
   split
   ·refine⟨by simp,fun x hx=>?_⟩;rw[List.mem_singleton]at hx;subst hx;decide
   ·exact⟨by simp,by simp⟩
  obtain⟨c1,c2⟩:=hc;unfold zfC;refine⟨?_,fun x hx=>?_⟩
  ·rw[List.length_append,List.length_append,List.length_cons,Nat.mul_add];omega
  ·rcases List.mem_append.1 hx with hx|hx
   ·rcases List.mem_append.1 hx with hx|hx
    ·exact c2 x hx
    ·exact b2 x hx
   ·exact a2 x hx
theorem zsH {V:Vals} {K:Bs→Option Dc}:∀{rs:List Rc} {x:Int} {b:Bool},zsz V K x b rs=true→0≤x→∀r∈rs,r.1=0→0≤r.2.1∧r.2.1≤1099511627776
 | [],_,_,_,_=>by simp
 |(k,t,c,v)::tl,x,b,h,hx=>by
  intro r hr h0;rcases List.mem_cons.1 hr with rfl|hr
  ·rcases zsE h hx with⟨-,h1,h2,-⟩|⟨h1,-⟩|⟨h1,-⟩|⟨h1,-⟩|⟨h1,-⟩
   ·exact⟨h1,h2⟩
   all_goals
    dsimp only at h0;omega
  ·rcases zsE h hx with⟨-,h1,-,h2⟩|⟨-,-,h2⟩|⟨-,_,h2⟩|⟨-,_,h2⟩|⟨-,h2⟩
   ·exact zsH h2 h1 r hr h0
   all_goals exact zsH h2 hx r hr h0
theorem zfN (l:List Dc) (rs:List Rc) (hl:l.length≤1000) (hr:rs.length≤1000000):(zfM cv l rs).length≤140737488351232:=by
 unfold zfM;split
 ·rename_i h
  obtain⟨a1,a2⟩:=zfD (knL cv l) l rs false (zsH h (Int.le_refl _));have a3:=zix a2;have a4:(l.length+3)*rs.length≤1003*1000000:=Nat.mul_le_mul (by omega) hr;omega
 ·simp
def Bx (W:World) (b:Nat) (C:Array Value):Prop:=zan W b C.toList∧b<W.heap.size
theorem Bx.step {W W':World} {b:Nat} {C:Array Value} (h:Bx W b C) (hb:Below W.heap.size W W'):Bx W' b C:=⟨h.1.below hb h.2,Nat.lt_of_lt_of_le h.2 hb.size⟩
theorem Bx.new (W:World) (C:Array Value) (T:TypeId):Bx (W.alloc (.cells C T)) W.heap.size C:=⟨zan.fresh W C T,by simp⟩
theorem za7 (W:World) (C:Array Value) (T:TypeId):Below W.heap.size W (W.alloc (.cells C T)):=(Below.refl _ _).alloc (Nat.le_refl _) _
theorem Bx.nine {W:World} {b:Nat} {u0 u1 u2 u3 u4 u5 u6 u7 u8:Value} (h:Bx W b #[u0,u1,u2,u3,u4,u5,u6,u7,u8]):W.cell? ⟨b,0,none⟩=some u0∧W.cell? ⟨b,1,none⟩=some u1∧W.cell? ⟨b,2,none⟩=some u2∧W.cell? ⟨b,3,none⟩=some u3∧W.cell? ⟨b,4,none⟩=some u4∧W.cell? ⟨b,5,none⟩=some u5∧W.cell? ⟨b,6,none⟩=some u6∧W.cell? ⟨b,7,none⟩=some u7∧W.cell? ⟨b,8,none⟩=some u8:=
 ⟨h.1.cell (j:=0) rfl,h.1.cell (j:=1) rfl,h.1.cell (j:=2) rfl,h.1.cell (j:=3) rfl,h.1.cell (j:=4) rfl,h.1.cell (j:=5) rfl,h.1.cell (j:=6) rfl,h.1.cell (j:=7) rfl,h.1.cell (j:=8) rfl⟩
theorem TrM.next {W W':World} {t:Tr} {p:TP} (h:TrM W t p) (hb:Below W.heap.size W W'):TrM W' t p:=h.below hb
theorem SrcB.of {t:Tr} (h:zsx t):SrcB t:=by
 have hv:=zsy h;have:=hv.t.lo;have:=hv.t.hi;exact⟨fun s hs=>(zqa (hv.s s hs)).1,by omega⟩
theorem SrcB.src (t:Tr):SrcB (srcT t):=by
 unfold srcT;split
 ·rename_i h;exact SrcB.of (zsw.1 h)
 ·exact⟨fun s hs=>(by cases hs),by decide⟩
end Go.Proofs.YtfppgpamkdkckaaGreatDoor
