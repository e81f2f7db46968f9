import Derived.Test.YtcdekelomkcahaaGreatDoorZ00
import Derived.Test.YtcdekelomkcahaaGreatDoorZ33
set_option maxRecDepth 100000
set_option maxHeartbeats 16000000
namespace Go.Proofs.YtcdekelomkcahaaGreatDoor
open Go.RowKit
set_option linter.unusedSimpArgs false
theorem zjd {w:World} {B e size n:Nat} {v:Value} {xs:List Value} (h:w.ownsRow B e size v n xs) (hn:0<n):
 ∃g c,v=.slice (some ⟨g,0,none⟩) n c∧n≤c∧B≤g∧g<w.heap.size∧∀j u,xs[j]? =some u→w.cell? ⟨g,j,none⟩=some u:=by
 rcases h.2 with⟨-,h0⟩|⟨g,cap,cur,e0,hb,hh,hc,-⟩
 ·omega
 refine⟨g,cap,e0,hc,hb,(Array.getElem?_eq_some_iff.1 hh).1,fun j u hj=>?_⟩;obtain⟨a',c',ev,-,-,-,h4⟩:=SlR.of_own h;obtain⟨b',o',rfl,hat⟩:=h4 hn;rw[e0]at ev;injection ev with ev _ _;injection ev with ev;injection ev with ev1 ev2 _;subst ev1 ev2;have:=hat j u hj;rwa [Nat.zero_add]at this
theorem zkD (w:World):Calls Tryz.prog 138 #[.slice none 0 0] w fun e w'=>e=.returned (.tuple #[.string ⟨#[]⟩,.int .i64 0])∧Below w.heap.size w w':=by
 go_enter Tryz.func138,Tryz.ntmps138;go_wp2_with fail;go_loopw [9] (fun i wr=>i=.int .i64 0∧wr=w) (fun _ _=>1)
 case atStart=>exact⟨rfl,rfl⟩
 case round=>
  obtain⟨rfl,rfl⟩:=hrel;go_wp2_with fail;refine(Tryz.strings_Join_none none 0 ⟨#[32]⟩ wr).mono ?_;rintro e w1 ⟨rfl,rfl⟩;go_wp2_with fail;exact bodyPost_ret (v:=.tuple #[.string ⟨#[]⟩,.int .i64 0]) (by simp[results,Tryz.results138,go_sem]) rfl ⟨rfl,Below.refl _ _⟩
theorem zdv (B T:Nat) (v:Value) (L:List Bs) (w:World) (ho:w.ownsRow B T 1 v L.length (strs L)) (hL:L.length≤100000) (hx:∀x∈L,x.length≤2000000) (hz:(zgc L).length≤2000000):
 Calls Tryz.prog 138 #[v] w fun e w'=>e=.returned (.tuple #[.string (bsB (zgg L).1),.int .i64 (zgg L).2])∧Below w.heap.size w w':=by
 rcases Nat.eq_zero_or_pos L.length with h0|h0
 ·obtain rfl:L=[]:=List.length_eq_zero_iff.1 h0;rcases ho.2 with⟨rfl,-⟩|⟨g,cap,cur,rfl,hb,hg,hc,hm,hs,hcells⟩
  ·exact zkD w
  ·have hq:=zkC g cap [] w (fun j x h=>by cases h) (Array.getElem?_eq_some_iff.1 hg).1 (by simp) (by simp) (fun x hx=>by cases hx) (by decide);exact hq
 ·obtain⟨g,c,rfl,hc,-,hg,hcell⟩:=zjd ho h0
  have hq:=zkC g c (L.map bsB) w (fun j x h=>hcell j _ (by
   rw[List.getElem?_map]at h;obtain⟨y,hy,rfl⟩:=Option.map_eq_some_iff.1 h;simp[strs,strV,hy])) hg (by rw[List.length_map];omega) (by rw[List.length_map];exact hc) (fun x hx2=>by
   obtain⟨y,hy,rfl⟩:=List.mem_map.1 hx2;rw[zbk];exact hx y hy) (by rw[zhe,←zgi];exact hz)
  rw[List.length_map,(zgj L).1,(zgj L).2]at hq;exact hq
theorem SMap.cells {P:Program} {K:TypeId} {w w':World} {b n:Nat} {f:BsM→Option Value} (h:SMap P K w b n f) (hg:w.grownBy w' (some b)) {a:Addr} {v:Value} (hc:w.cell? a=some v):w'.cell? a=w.cell? a:=by
 refine World.cell?_of_block (w:=w) (hg.block a.block (World.block_lt_of_cell? (h:=hc)) fun e=>?_);injection e with e;unfold World.cell? at hc;rw[e]at hc;split at hc
 ·rename_i C T fr he
  exact h.no_cells he
 ·cases hc
theorem zqC (w:World):(zeroValue 4).run Tryz.prog w=.ok (.bool false) w:=by kernel_rfl
theorem zdG {w:World} {b n:Nat} {f:BsM→Option Value} (h:SMap Tryz.prog 9 w b n f) {x:Bs} (hc:x.length≤1000):
 (Instr.lookup 86 (.map (some b)) (.string (bsB x)) false).run Tryz.prog w=.ok ((f x).getD (.bool false)) w:=by
 have:=h.look1 (t:=86) Tryz.underlying9 Tryz.underlying86 (zqC w) (bsB x) (by rw[zbk];unfold maxLen;omega);rw[zbh]at this;exact this
theorem znF (s:DS):tN s<maxLen:=by
 unfold tN maxLen;cases s.dtd<;>cases s.vnd<;>cases s.cmd<;>decide
theorem znC {s:DS} (h:s.dtd=false):tF s zlw=none:=by
 unfold tF;rw[if_neg];rintro(⟨e,h2⟩|⟨e,h2⟩|⟨e,h2⟩)<;>first|exact absurd e (by decide)|(rw[h]at h2;cases h2)
theorem znA (s:DS):(tF s zlw).getD (.bool false)=.bool s.dtd:=by
 cases h:s.dtd with
 |false=>rw[znC h];rfl
 |true=>
  unfold tF;rw[if_pos (by simp[h])];rfl
theorem znD {s:DS} (h:s.vnd=false):tF s zlF=none:=by
 unfold tF;rw[if_neg];rintro(⟨e,h2⟩|⟨e,h2⟩|⟨e,h2⟩)<;>first|exact absurd e (by decide)|(rw[h]at h2;cases h2)
theorem znE (s:DS):(tF s zlF).getD (.bool false)=.bool s.vnd:=by
 cases h:s.vnd with
 |false=>rw[znD h];rfl
 |true=>
  unfold tF;rw[if_pos (by simp[h])];rfl
theorem znB {s:DS} (h:s.cmd=false):tF s zlv=none:=by
 unfold tF;rw[if_neg];rintro(⟨e,h2⟩|⟨e,h2⟩|⟨e,h2⟩)<;>first|exact absurd e (by decide)|(rw[h]at h2;cases h2)
theorem zny (s:DS):(tF s zlv).getD (.bool false)=.bool s.cmd:=by
 cases h:s.cmd with
 |false=>rw[znB h];rfl
 |true=>
  unfold tF;rw[if_pos (by simp[h])];rfl
theorem zdr (c:DC) (s:DS) (vS vD vr:Value) (pt tq:Nat) (w:Wd) (a:Option Addr) (cap:Nat) (cw:List Wd) (W:World) (h:DPar c s vS vD vr W) (hw:w.1=zlw) (hpt:W.cell? ⟨pt,0,none⟩=some (.pointer (some ⟨c.B,0,none⟩))) (hto:W.cell? ⟨tq,0,none⟩=some (.pointer (some ⟨c.B,1,none⟩)))
 (hs:SlR W (.slice a cw.length cap) cw.length (wds cw)) (hL:cw.length≤100000) (hx:∀x∈txt cw,x.length≤2000000) (hzj:(zgc (txt cw)).length≤2000000) (hl:s.wrong.length≤1000000):
 Calls Tryz.prog 137 #[wdV w,.slice a cw.length cap,.pointer (some ⟨pt,0,none⟩),.pointer (some ⟨tq,0,none⟩)] W (zad c (zcG s w cw)):=by
 obtain⟨tx,o1,o2,o3⟩:=w;obtain rfl:tx=zlw:=hw;have HPT:=lhd (zbA hpt);have HTO:=lhd (zbA hto);have HS:=lhd (hs.below ((Below.refl W.heap.size W).alloc (Nat.le_refl _) (.cells #[.string (bsB zlw),.int .i64 o1,.int .i64 o2,.int .i64 o3] 58)));have p1:=zbz hpt (.cells #[.string (bsB zlw),.int .i64 o1,.int .i64 o2,.int .i64 o3] 58);have p2:=zbz hto (.cells #[.string (bsB zlw),.int .i64 o1,.int .i64 o2,.int .i64 o3] 58);clear hs hpt hto;have HLO:=lhd h.lo;have hal:Below W.heap.size W (W.alloc (.cells #[.string (bsB zlw),.int .i64 o1,.int .i64 o2,.int .i64 o3] 58)):=(Below.refl _ _).alloc (Nat.le_refl _) _;have hx:=zaq.fresh W #[.string (bsB zlw),.int .i64 o1,.int .i64 o2,.int .i64 o3] 58;have hz:W.heap.size<(W.alloc (.cells #[.string (bsB zlw),.int .i64 o1,.int .i64 o2,.int .i64 o3] 58)).heap.size:=by simp
 have H:=lhd (h.later hal);generalize hw1:W.alloc (.cells #[.string (bsB zlw),.int .i64 o1,.int .i64 o2,.int .i64 o3] 58)=w1 at*;have x0:=hx.cell (j:=0) rfl;have x1:=hx.cell (j:=1) rfl;have x2:=hx.cell (j:=2) rfl;have x3:=hx.cell (j:=3) rfl;clear h hal hx;have hz1:=hz;clear hz;go_enter Tryz.func137,Tryz.ntmps137;go_wp2_with fail;refine(zdw _ cw w1 HS.out hL).mono ?_;rintro e w2 ⟨v,rfl,ho,hb2⟩;have hjn:=zdv _ _ v (txt cw) w2 (by rw[zn2];exact ho) (by rw[zn2];exact hL) hx hzj;have HB2:=lhd hb2;clear ho hb2 hx hzj;obtain⟨J,hJ⟩:∃J,J=zgg (txt cw):=⟨_,rfl⟩;rw[←hJ]at hjn;obtain⟨js,je⟩:=J;have HJ:=lhd hjn;clear hjn;go_wp2_with fail;refine HJ.out.mono ?_;rintro e w3 ⟨rfl,hb3⟩;dsimp only;have HB3:=lhd (zd5 HB2.out hb3);have H3:=lhd (H.out.later HB3.out);have p1:=(HB3.out.cell (p:=⟨pt,0,none⟩) (by show pt<_;have:=HPT.out;omega)).trans p1;have p2:=(HB3.out.cell (p:=⟨tq,0,none⟩) (by show tq<_;have:=HTO.out;omega)).trans p2;have x0:=(HB3.out.cell (p:=⟨W.heap.size,0,none⟩) hz1).trans x0;have x1:=(HB3.out.cell (p:=⟨W.heap.size,1,none⟩) hz1).trans x1;have x2:=(HB3.out.cell (p:=⟨W.heap.size,2,none⟩) hz1).trans x2;have x3:=(HB3.out.cell (p:=⟨W.heap.size,3,none⟩) hz1).trans x3;by_cases h1:je=0
 ·subst h1;have hlk:=zdG H3.out.t.s.drew (x:=zlw) (by decide);have c6:=H3.out.row.cell (j:=6) rfl;rw[znA]at hlk;by_cases h2:s.dtd=true
  ·have HR:=lhd (show s=zcG s (zlw,o1,o2,o3) cw by unfold zcG;rw[←hJ,if_neg (by simp),if_pos h2]);rw[h2]at hlk;have H9:=lhd (H3.out.later (Below.refl _ _).drew);clear h2 hJ;go_wp2_with fail;go_region
   go_wp2_with fail;go_end0
   exact⟨rfl,_,_,_,HR.out▸H9.out⟩
  ·have h2:s.dtd=false:=by simpa using h2
   have HR:=lhd (show({s with dt:=js,dtd:=true}:DS)=zcG s (zlw,o1,o2,o3) cw by unfold zcG;rw[←hJ,if_neg (by simp),if_neg (by rw[h2];simp)]);rw[h2]at hlk;have c1:=H3.out.row.cell (j:=1) rfl;have f1:=H3.out.row.free (j:=1) (by simp[zdR]);have H4:=lhd (H3.out.set (s':={s with dt:=js}) 1 (.string (bsB js)) rfl rfl rfl rfl ⟨rfl,rfl,rfl⟩);obtain⟨we,r4,h4,q4⟩:=zav.put (t:=86) (H4.out.t.drew.drew) Tryz.underlying9 Tryz.underlying86 (znF _) (bsB zlw) (by rw[zbk];decide) (by rw[zbh];exact znC h2) (.bool true);have H9:=lhd (DPar.date (H3.out.later (Below.refl _ _).drew.drew) js h2 (by rw[zbh]at h4;exact h4) q4)
   have hpb:pt≠c.B:=fun e=>by
    have h0:=H3.out.row.cell (j:=0) rfl;rw[e,h0]at p1;cases p1
   have hxb:W.heap.size≠c.B:=by have:=HLO.out.2;omega
   have HY:=lhd (show(w3.setCell ⟨c.B,1,none⟩ (.string (bsB js))).drew.cell? ⟨pt,0,none⟩=some (.pointer (some ⟨c.B,0,none⟩))∧(w3.setCell ⟨c.B,1,none⟩ (.string (bsB js))).drew.cell? ⟨W.heap.size,0,none⟩=some (.string (bsB zlw))∧(w3.setCell ⟨c.B,1,none⟩ (.string (bsB js))).drew.cell? ⟨c.B,6,none⟩=some (.map (some c.tb))from
    ⟨(World.cell?_setCell_far _ _ _ _ (Ne.symm hpb)).trans p1,(World.cell?_setCell_far _ _ _ _ (Ne.symm hxb)).trans x0,H4.out.row.cell (j:=6) rfl⟩)
   have HY9:=lhd (show we.cell? ⟨pt,0,none⟩=some (.pointer (some ⟨c.B,0,none⟩))∧we.cell? ⟨W.heap.size,0,none⟩=some (.string (bsB zlw))∧we.cell? ⟨c.B,6,none⟩=some (.map (some c.tb))from
    ⟨(H4.out.t.s.drew.drew.cells q4 HY.out.1).trans HY.out.1,(H4.out.t.s.drew.drew.cells q4 HY.out.2.1).trans HY.out.2.1,H9.out.row.cell (j:=6) rfl⟩)
   clear h2 hJ h4 q4 hpb hxb;go_wp2_with fail;go_region
   go_wp2_with fail;clear p1 p2 x0 x1 x2 x3 c6 c1 f1 hlk;generalize (w3.setCell ⟨c.B,1,none⟩ (.string (bsB js))).drew=w5 at*;refine wp_region_held_drew (S:=fun w'=>w'.cell? ⟨pt,0,none⟩=some (.pointer (some ⟨c.B,0,none⟩))∧w'.cell? ⟨W.heap.size,0,none⟩=some (.string (bsB zlw))∧w'.cell? ⟨c.B,6,none⟩=some (.map (some c.tb))) (by kernel_rfl) HY.out (fun hHeld=>?_);refine tkH 0 hHeld (v:=?_) ?_ ?_;rotate_left
   ·intro w h;(try dsimp only at h);go_simp;all_goals with_reducible rfl
   simp only[tkS];refine tkH 1 hHeld (v:=?_) ?_ ?_;rotate_left
   ·intro w h;(try dsimp only at h);go_simp;all_goals with_reducible rfl
   simp only[tkS];refine tkH 2 hHeld (v:=?_) ?_ ?_;rotate_left
   ·intro w h;(try dsimp only at h);go_simp;all_goals with_reducible rfl
   simp only[tkS];refine tkH 3 hHeld (v:=?_) ?_ ?_;rotate_left
   ·intro w h;(try dsimp only at h);go_simp;all_goals with_reducible rfl
   simp only[tkS];refine tkH 4 hHeld (v:=?_) ?_ ?_;rotate_left
   ·intro w h;(try dsimp only at h);go_simp;all_goals with_reducible rfl
   simp only[tkS];refine tkH 5 hHeld (v:=?_) ?_ ?_;rotate_left
   ·intro w h;(try dsimp only at h);go_simp;all_goals with_reducible rfl
   simp only[tkS];refine oneH 6 (fun K hK=>?_);go_simp;refine hK.out _ _ HY9.out (fun hHeld=>?_);clear hK;try simp only[tkS]
   refine wpAnyH_done (by kernel_rfl) ?_ _;clear hHeld;go_wp2_with fail;go_end0
   exact⟨rfl,_,_,_,HR.out▸H9.out⟩
 ·have hb:(je==0)=false:=by rw[beq_eq_false_iff_ne];exact h1
  have HR:=lhd (show s.prob je (zlw,o1,o2,o3)=zcG s (zlw,o1,o2,o3) cw by unfold zcG;rw[←hJ,if_pos h1]);clear h1 hJ;go_wp2_with fail;refine(zdz c _ _ _ _ je (zlw,o1,o2,o3) _ H3.out hl).mono ?_;rintro e w9 ⟨rfl,vS9,vD9,vr9,h9⟩;have H9:=lhd h9;clear h9;go_wp2_with fail;go_end0
  exact⟨rfl,_,_,_,HR.out▸H9.out⟩
theorem zdN (c:DC) (s:DS) (vS vD vr:Value) (pt tq:Nat) (w:Wd) (a:Option Addr) (cap:Nat) (cw:List Wd) (W:World) (h:DPar c s vS vD vr W) (hw:w.1=zlF) (hpt:W.cell? ⟨pt,0,none⟩=some (.pointer (some ⟨c.B,0,none⟩))) (hto:W.cell? ⟨tq,0,none⟩=some (.pointer (some ⟨c.B,2,none⟩)))
 (hs:SlR W (.slice a cw.length cap) cw.length (wds cw)) (hL:cw.length≤100000) (hx:∀x∈txt cw,x.length≤2000000) (hzj:(zgc (txt cw)).length≤2000000) (hl:s.wrong.length≤1000000):
 Calls Tryz.prog 137 #[wdV w,.slice a cw.length cap,.pointer (some ⟨pt,0,none⟩),.pointer (some ⟨tq,0,none⟩)] W (zad c (zpc s w cw)):=by
 obtain⟨tx,o1,o2,o3⟩:=w;obtain rfl:tx=zlF:=hw;have HPT:=lhd (zbA hpt);have HTO:=lhd (zbA hto);have HS:=lhd (hs.below ((Below.refl W.heap.size W).alloc (Nat.le_refl _) (.cells #[.string (bsB zlF),.int .i64 o1,.int .i64 o2,.int .i64 o3] 58)));have p1:=zbz hpt (.cells #[.string (bsB zlF),.int .i64 o1,.int .i64 o2,.int .i64 o3] 58);have p2:=zbz hto (.cells #[.string (bsB zlF),.int .i64 o1,.int .i64 o2,.int .i64 o3] 58);clear hs hpt hto;have HLO:=lhd h.lo;have hal:Below W.heap.size W (W.alloc (.cells #[.string (bsB zlF),.int .i64 o1,.int .i64 o2,.int .i64 o3] 58)):=(Below.refl _ _).alloc (Nat.le_refl _) _;have hx:=zaq.fresh W #[.string (bsB zlF),.int .i64 o1,.int .i64 o2,.int .i64 o3] 58;have hz:W.heap.size<(W.alloc (.cells #[.string (bsB zlF),.int .i64 o1,.int .i64 o2,.int .i64 o3] 58)).heap.size:=by simp
 have H:=lhd (h.later hal);generalize hw1:W.alloc (.cells #[.string (bsB zlF),.int .i64 o1,.int .i64 o2,.int .i64 o3] 58)=w1 at*;have x0:=hx.cell (j:=0) rfl;have x1:=hx.cell (j:=1) rfl;have x2:=hx.cell (j:=2) rfl;have x3:=hx.cell (j:=3) rfl;clear h hal hx;have hz1:=hz;clear hz;go_enter Tryz.func137,Tryz.ntmps137;go_wp2_with fail;refine(zdw _ cw w1 HS.out hL).mono ?_;rintro e w2 ⟨v,rfl,ho,hb2⟩;have hjn:=zdv _ _ v (txt cw) w2 (by rw[zn2];exact ho) (by rw[zn2];exact hL) hx hzj;have HB2:=lhd hb2;clear ho hb2 hx hzj;obtain⟨J,hJ⟩:∃J,J=zgg (txt cw):=⟨_,rfl⟩;rw[←hJ]at hjn;obtain⟨js,je⟩:=J;have HJ:=lhd hjn;clear hjn;go_wp2_with fail;refine HJ.out.mono ?_;rintro e w3 ⟨rfl,hb3⟩;dsimp only;have HB3:=lhd (zd5 HB2.out hb3);have H3:=lhd (H.out.later HB3.out);have p1:=(HB3.out.cell (p:=⟨pt,0,none⟩) (by show pt<_;have:=HPT.out;omega)).trans p1;have p2:=(HB3.out.cell (p:=⟨tq,0,none⟩) (by show tq<_;have:=HTO.out;omega)).trans p2;have x0:=(HB3.out.cell (p:=⟨W.heap.size,0,none⟩) hz1).trans x0;have x1:=(HB3.out.cell (p:=⟨W.heap.size,1,none⟩) hz1).trans x1;have x2:=(HB3.out.cell (p:=⟨W.heap.size,2,none⟩) hz1).trans x2;have x3:=(HB3.out.cell (p:=⟨W.heap.size,3,none⟩) hz1).trans x3;by_cases h1:je=0
 ·subst h1;have hlk:=zdG H3.out.t.s.drew (x:=zlF) (by decide);have c6:=H3.out.row.cell (j:=6) rfl;rw[znE]at hlk;by_cases h2:s.vnd=true
  ·have HR:=lhd (show s=zpc s (zlF,o1,o2,o3) cw by unfold zpc;rw[←hJ,if_neg (by simp),if_pos h2]);rw[h2]at hlk;have H9:=lhd (H3.out.later (Below.refl _ _).drew);clear h2 hJ;go_wp2_with fail;go_region
   go_wp2_with fail;go_end0
   exact⟨rfl,_,_,_,HR.out▸H9.out⟩
  ·have h2:s.vnd=false:=by simpa using h2
   have HR:=lhd (show({s with vn:=js,vnd:=true}:DS)=zpc s (zlF,o1,o2,o3) cw by unfold zpc;rw[←hJ,if_neg (by simp),if_neg (by rw[h2];simp)]);rw[h2]at hlk;have c2:=H3.out.row.cell (j:=2) rfl;have f2:=H3.out.row.free (j:=2) (by simp[zdR]);have H4:=lhd (H3.out.set (s':={s with vn:=js}) 2 (.string (bsB js)) rfl rfl rfl rfl ⟨rfl,rfl,rfl⟩);obtain⟨we,r4,h4,q4⟩:=zav.put (t:=86) (H4.out.t.drew.drew) Tryz.underlying9 Tryz.underlying86 (znF _) (bsB zlF) (by rw[zbk];decide) (by rw[zbh];exact znD h2) (.bool true);have H9:=lhd (DPar.vers (H3.out.later (Below.refl _ _).drew.drew) js h2 (by rw[zbh]at h4;exact h4) q4)
   have hpb:pt≠c.B:=fun e=>by
    have h0:=H3.out.row.cell (j:=0) rfl;rw[e,h0]at p1;cases p1
   have hxb:W.heap.size≠c.B:=by have:=HLO.out.2;omega
   have HY:=lhd (show(w3.setCell ⟨c.B,2,none⟩ (.string (bsB js))).drew.cell? ⟨pt,0,none⟩=some (.pointer (some ⟨c.B,0,none⟩))∧(w3.setCell ⟨c.B,2,none⟩ (.string (bsB js))).drew.cell? ⟨W.heap.size,0,none⟩=some (.string (bsB zlF))∧(w3.setCell ⟨c.B,2,none⟩ (.string (bsB js))).drew.cell? ⟨c.B,6,none⟩=some (.map (some c.tb))from
    ⟨(World.cell?_setCell_far _ _ _ _ (Ne.symm hpb)).trans p1,(World.cell?_setCell_far _ _ _ _ (Ne.symm hxb)).trans x0,H4.out.row.cell (j:=6) rfl⟩)
   have HY9:=lhd (show we.cell? ⟨pt,0,none⟩=some (.pointer (some ⟨c.B,0,none⟩))∧we.cell? ⟨W.heap.size,0,none⟩=some (.string (bsB zlF))∧we.cell? ⟨c.B,6,none⟩=some (.map (some c.tb))from
    ⟨(H4.out.t.s.drew.drew.cells q4 HY.out.1).trans HY.out.1,(H4.out.t.s.drew.drew.cells q4 HY.out.2.1).trans HY.out.2.1,H9.out.row.cell (j:=6) rfl⟩)
   clear h2 hJ h4 q4 hpb hxb;go_wp2_with fail;go_region
   go_wp2_with fail;clear p1 p2 x0 x1 x2 x3 c6 c2 f2 hlk;generalize (w3.setCell ⟨c.B,2,none⟩ (.string (bsB js))).drew=w5 at*;refine wp_region_held_drew (S:=fun w'=>w'.cell? ⟨pt,0,none⟩=some (.pointer (some ⟨c.B,0,none⟩))∧w'.cell? ⟨W.heap.size,0,none⟩=some (.string (bsB zlF))∧w'.cell? ⟨c.B,6,none⟩=some (.map (some c.tb))) (by kernel_rfl) HY.out (fun hHeld=>?_);refine tkH 0 hHeld (v:=?_) ?_ ?_;rotate_left
   ·intro w h;(try dsimp only at h);go_simp;all_goals with_reducible rfl
   simp only[tkS];refine tkH 1 hHeld (v:=?_) ?_ ?_;rotate_left
   ·intro w h;(try dsimp only at h);go_simp;all_goals with_reducible rfl
   simp only[tkS];refine tkH 2 hHeld (v:=?_) ?_ ?_;rotate_left
   ·intro w h;(try dsimp only at h);go_simp;all_goals with_reducible rfl
   simp only[tkS];refine tkH 3 hHeld (v:=?_) ?_ ?_;rotate_left
   ·intro w h;(try dsimp only at h);go_simp;all_goals with_reducible rfl
   simp only[tkS];refine tkH 4 hHeld (v:=?_) ?_ ?_;rotate_left
   ·intro w h;(try dsimp only at h);go_simp;all_goals with_reducible rfl
   simp only[tkS];refine tkH 5 hHeld (v:=?_) ?_ ?_;rotate_left
   ·intro w h;(try dsimp only at h);go_simp;all_goals with_reducible rfl
   simp only[tkS];refine oneH 6 (fun K hK=>?_);go_simp;refine hK.out _ _ HY9.out (fun hHeld=>?_);clear hK;try simp only[tkS]
   refine wpAnyH_done (by kernel_rfl) ?_ _;clear hHeld;go_wp2_with fail;go_end0
   exact⟨rfl,_,_,_,HR.out▸H9.out⟩
 ·have hb:(je==0)=false:=by rw[beq_eq_false_iff_ne];exact h1
  have HR:=lhd (show s.prob je (zlF,o1,o2,o3)=zpc s (zlF,o1,o2,o3) cw by unfold zpc;rw[←hJ,if_pos h1]);clear h1 hJ;go_wp2_with fail;refine(zdz c _ _ _ _ je (zlF,o1,o2,o3) _ H3.out hl).mono ?_;rintro e w9 ⟨rfl,vS9,vD9,vr9,h9⟩;have H9:=lhd h9;clear h9;go_wp2_with fail;go_end0
  exact⟨rfl,_,_,_,HR.out▸H9.out⟩
theorem zdp (c:DC) (s:DS) (vS vD vr:Value) (pt tq:Nat) (w:Wd) (a:Option Addr) (cap:Nat) (cw:List Wd) (W:World) (h:DPar c s vS vD vr W) (hw:w.1=zlv) (hpt:W.cell? ⟨pt,0,none⟩=some (.pointer (some ⟨c.B,0,none⟩))) (hto:W.cell? ⟨tq,0,none⟩=some (.pointer (some ⟨c.B,3,none⟩)))
 (hs:SlR W (.slice a cw.length cap) cw.length (wds cw)) (hL:cw.length≤100000) (hx:∀x∈txt cw,x.length≤2000000) (hzj:(zgc (txt cw)).length≤2000000) (hl:s.wrong.length≤1000000):
 Calls Tryz.prog 137 #[wdV w,.slice a cw.length cap,.pointer (some ⟨pt,0,none⟩),.pointer (some ⟨tq,0,none⟩)] W (zad c (zb9 s w cw)):=by
 obtain⟨tx,o1,o2,o3⟩:=w;obtain rfl:tx=zlv:=hw;have HPT:=lhd (zbA hpt);have HTO:=lhd (zbA hto);have HS:=lhd (hs.below ((Below.refl W.heap.size W).alloc (Nat.le_refl _) (.cells #[.string (bsB zlv),.int .i64 o1,.int .i64 o2,.int .i64 o3] 58)));have p1:=zbz hpt (.cells #[.string (bsB zlv),.int .i64 o1,.int .i64 o2,.int .i64 o3] 58);have p2:=zbz hto (.cells #[.string (bsB zlv),.int .i64 o1,.int .i64 o2,.int .i64 o3] 58);clear hs hpt hto;have HLO:=lhd h.lo;have hal:Below W.heap.size W (W.alloc (.cells #[.string (bsB zlv),.int .i64 o1,.int .i64 o2,.int .i64 o3] 58)):=(Below.refl _ _).alloc (Nat.le_refl _) _;have hx:=zaq.fresh W #[.string (bsB zlv),.int .i64 o1,.int .i64 o2,.int .i64 o3] 58;have hz:W.heap.size<(W.alloc (.cells #[.string (bsB zlv),.int .i64 o1,.int .i64 o2,.int .i64 o3] 58)).heap.size:=by simp
 have H:=lhd (h.later hal);generalize hw1:W.alloc (.cells #[.string (bsB zlv),.int .i64 o1,.int .i64 o2,.int .i64 o3] 58)=w1 at*;have x0:=hx.cell (j:=0) rfl;have x1:=hx.cell (j:=1) rfl;have x2:=hx.cell (j:=2) rfl;have x3:=hx.cell (j:=3) rfl;clear h hal hx;have hz1:=hz;clear hz;go_enter Tryz.func137,Tryz.ntmps137;go_wp2_with fail;refine(zdw _ cw w1 HS.out hL).mono ?_;rintro e w2 ⟨v,rfl,ho,hb2⟩;have hjn:=zdv _ _ v (txt cw) w2 (by rw[zn2];exact ho) (by rw[zn2];exact hL) hx hzj;have HB2:=lhd hb2;clear ho hb2 hx hzj;obtain⟨J,hJ⟩:∃J,J=zgg (txt cw):=⟨_,rfl⟩;rw[←hJ]at hjn;obtain⟨js,je⟩:=J;have HJ:=lhd hjn;clear hjn;go_wp2_with fail;refine HJ.out.mono ?_;rintro e w3 ⟨rfl,hb3⟩;dsimp only;have HB3:=lhd (zd5 HB2.out hb3);have H3:=lhd (H.out.later HB3.out);have p1:=(HB3.out.cell (p:=⟨pt,0,none⟩) (by show pt<_;have:=HPT.out;omega)).trans p1;have p2:=(HB3.out.cell (p:=⟨tq,0,none⟩) (by show tq<_;have:=HTO.out;omega)).trans p2;have x0:=(HB3.out.cell (p:=⟨W.heap.size,0,none⟩) hz1).trans x0;have x1:=(HB3.out.cell (p:=⟨W.heap.size,1,none⟩) hz1).trans x1;have x2:=(HB3.out.cell (p:=⟨W.heap.size,2,none⟩) hz1).trans x2;have x3:=(HB3.out.cell (p:=⟨W.heap.size,3,none⟩) hz1).trans x3;by_cases h1:je=0
 ·subst h1;have hlk:=zdG H3.out.t.s.drew (x:=zlv) (by decide);have c6:=H3.out.row.cell (j:=6) rfl;rw[zny]at hlk;by_cases h2:s.cmd=true
  ·have HR:=lhd (show s=zb9 s (zlv,o1,o2,o3) cw by unfold zb9;rw[←hJ,if_neg (by simp),if_pos h2]);rw[h2]at hlk;have H9:=lhd (H3.out.later (Below.refl _ _).drew);clear h2 hJ;go_wp2_with fail;go_region
   go_wp2_with fail;go_end0
   exact⟨rfl,_,_,_,HR.out▸H9.out⟩
  ·have h2:s.cmd=false:=by simpa using h2
   have HR:=lhd (show({s with cm:=js,cmd:=true}:DS)=zb9 s (zlv,o1,o2,o3) cw by unfold zb9;rw[←hJ,if_neg (by simp),if_neg (by rw[h2];simp)]);rw[h2]at hlk;have c3:=H3.out.row.cell (j:=3) rfl;have f3:=H3.out.row.free (j:=3) (by simp[zdR]);have H4:=lhd (H3.out.set (s':={s with cm:=js}) 3 (.string (bsB js)) rfl rfl rfl rfl ⟨rfl,rfl,rfl⟩);obtain⟨we,r4,h4,q4⟩:=zav.put (t:=86) (H4.out.t.drew.drew) Tryz.underlying9 Tryz.underlying86 (znF _) (bsB zlv) (by rw[zbk];decide) (by rw[zbh];exact znB h2) (.bool true);have H9:=lhd (DPar.comm (H3.out.later (Below.refl _ _).drew.drew) js h2 (by rw[zbh]at h4;exact h4) q4)
   have hpb:pt≠c.B:=fun e=>by
    have h0:=H3.out.row.cell (j:=0) rfl;rw[e,h0]at p1;cases p1
   have hxb:W.heap.size≠c.B:=by have:=HLO.out.2;omega
   have HY:=lhd (show(w3.setCell ⟨c.B,3,none⟩ (.string (bsB js))).drew.cell? ⟨pt,0,none⟩=some (.pointer (some ⟨c.B,0,none⟩))∧(w3.setCell ⟨c.B,3,none⟩ (.string (bsB js))).drew.cell? ⟨W.heap.size,0,none⟩=some (.string (bsB zlv))∧(w3.setCell ⟨c.B,3,none⟩ (.string (bsB js))).drew.cell? ⟨c.B,6,none⟩=some (.map (some c.tb))from
    ⟨(World.cell?_setCell_far _ _ _ _ (Ne.symm hpb)).trans p1,(World.cell?_setCell_far _ _ _ _ (Ne.symm hxb)).trans x0,H4.out.row.cell (j:=6) rfl⟩)
   have HY9:=lhd (show we.cell? ⟨pt,0,none⟩=some (.pointer (some ⟨c.B,0,none⟩))∧we.cell? ⟨W.heap.size,0,none⟩=some (.string (bsB zlv))∧we.cell? ⟨c.B,6,none⟩=some (.map (some c.tb))from
    ⟨(H4.out.t.s.drew.drew.cells q4 HY.out.1).trans HY.out.1,(H4.out.t.s.drew.drew.cells q4 HY.out.2.1).trans HY.out.2.1,H9.out.row.cell (j:=6) rfl⟩)
   clear h2 hJ h4 q4 hpb hxb;go_wp2_with fail;go_region
   go_wp2_with fail;clear p1 p2 x0 x1 x2 x3 c6 c3 f3 hlk;generalize (w3.setCell ⟨c.B,3,none⟩ (.string (bsB js))).drew=w5 at*;refine wp_region_held_drew (S:=fun w'=>w'.cell? ⟨pt,0,none⟩=some (.pointer (some ⟨c.B,0,none⟩))∧w'.cell? ⟨W.heap.size,0,none⟩=some (.string (bsB zlv))∧w'.cell? ⟨c.B,6,none⟩=some (.map (some c.tb))) (by kernel_rfl) HY.out (fun hHeld=>?_);refine tkH 0 hHeld (v:=?_) ?_ ?_;rotate_left
   ·intro w h;(try dsimp only at h);go_simp;all_goals with_reducible rfl
   simp only[tkS];refine tkH 1 hHeld (v:=?_) ?_ ?_;rotate_left
   ·intro w h;(try dsimp only at h);go_simp;all_goals with_reducible rfl
   simp only[tkS];refine tkH 2 hHeld (v:=?_) ?_ ?_;rotate_left
   ·intro w h;(try dsimp only at h);go_simp;all_goals with_reducible rfl
   simp only[tkS];refine tkH 3 hHeld (v:=?_) ?_ ?_;rotate_left
   ·intro w h;(try dsimp only at h);go_simp;all_goals with_reducible rfl
   simp only[tkS];refine tkH 4 hHeld (v:=?_) ?_ ?_;rotate_left
   ·intro w h;(try dsimp only at h);go_simp;all_goals with_reducible rfl
   simp only[tkS];refine tkH 5 hHeld (v:=?_) ?_ ?_;rotate_left
   ·intro w h;(try dsimp only at h);go_simp;all_goals with_reducible rfl
   simp only[tkS];refine oneH 6 (fun K hK=>?_);go_simp;refine hK.out _ _ HY9.out (fun hHeld=>?_);clear hK;try simp only[tkS]
   refine wpAnyH_done (by kernel_rfl) ?_ _;clear hHeld;go_wp2_with fail;go_end0
   exact⟨rfl,_,_,_,HR.out▸H9.out⟩
 ·have hb:(je==0)=false:=by rw[beq_eq_false_iff_ne];exact h1
  have HR:=lhd (show s.prob je (zlv,o1,o2,o3)=zb9 s (zlv,o1,o2,o3) cw by unfold zb9;rw[←hJ,if_pos h1]);clear h1 hJ;go_wp2_with fail;refine(zdz c _ _ _ _ je (zlv,o1,o2,o3) _ H3.out hl).mono ?_;rintro e w9 ⟨rfl,vS9,vD9,vr9,h9⟩;have H9:=lhd h9;clear h9;go_wp2_with fail;go_end0
  exact⟨rfl,_,_,_,HR.out▸H9.out⟩
theorem zcc (B T:Nat) (v:Value) (L:List Bs) (w:World) (ho:w.ownsRow B T 1 v L.length (strs L)) (hL:L.length≤100000) (hz:(zgc L).length≤140737488355328):
 Calls Tryz.prog 72 #[v,.string ⟨#[32]⟩] w fun e w'=>e=.returned (.string (bsB (zgc L)))∧Below w.heap.size w w':=by
 rcases Nat.eq_zero_or_pos L.length with h0|h0
 ·obtain rfl:L=[]:=List.length_eq_zero_iff.1 h0;obtain⟨a,cap,rfl,-,-⟩:=(SlR.of_own ho).shape;refine(Tryz.strings_Join_none a cap ⟨#[32]⟩ w).mono ?_;rintro e w1 ⟨rfl,rfl⟩;exact⟨rfl,Below.refl _ _⟩
 ·obtain⟨g,c,rfl,hc,-,hg,hcell⟩:=zjd ho h0
  have hq:=Tryz.strings_Join g 0 c (L.map bsB) ⟨#[32]⟩ w (fun j x h=>by
   rw[Nat.zero_add];refine hcell j _ ?_;rw[List.getElem?_map]at h;obtain⟨y,hy,rfl⟩:=Option.map_eq_some_iff.1 h;simp[strs,strV,hy]) hg (by rw[List.length_map];omega) (by rw[List.length_map];exact hc) (by
   show(Lib.join ((L.map bsB).map (·.data.toList)) [32]).length≤_;rw[zhe,←zgi];exact hz)
  rw[List.length_map,show Lib.join ((L.map bsB).map (·.data.toList)) (⟨#[32]⟩:ByteArray).data.toList=zgc L by rw[zhe,zgi]]at hq;exact hq
theorem zdH (c:DC) (s:DS) (vS vD vr:Value) (w:Wd) (a:Option Addr) (cap:Nat) (cw:List Wd) (W:World) (h:DPar c s vS vD vr W) (hg:Glob W) (hm:Glm W)
 (hs:SlR W (.slice a cw.length cap) cw.length (wds cw)) (hL:cw.length≤100000) (hzj:(zgc (txt cw)).length≤2000000) (hl:s.wrong.length≤1000000):
 Calls Tryz.prog 89 #[.pointer (some ⟨c.B,0,none⟩),wdV w,.slice a cw.length cap] W (zad c (zlQ s w cw)):=by
 obtain⟨tx,o1,o2,o3⟩:=w;have hba:=(Below.refl W.heap.size W).alloc (Nat.le_refl _) (.cells #[.string (bsB tx),.int .i64 o1,.int .i64 o2,.int .i64 o3] 58);have HS:=lhd (hs.below hba);have HG:=lhd (hg.below hba);have HM:=lhd (hm.below hba);have HLO:=lhd h.lo;clear hs hba hg hm;have hal:Below W.heap.size W (W.alloc (.cells #[.string (bsB tx),.int .i64 o1,.int .i64 o2,.int .i64 o3] 58)):=(Below.refl _ _).alloc (Nat.le_refl _) _;have hx:=zaq.fresh W #[.string (bsB tx),.int .i64 o1,.int .i64 o2,.int .i64 o3] 58;have hz:W.heap.size<(W.alloc (.cells #[.string (bsB tx),.int .i64 o1,.int .i64 o2,.int .i64 o3] 58)).heap.size:=by simp
 have H:=lhd (h.later hal);generalize hw1:W.alloc (.cells #[.string (bsB tx),.int .i64 o1,.int .i64 o2,.int .i64 o3] 58)=w1 at*;have x0:=hx.cell (j:=0) rfl;have x1:=hx.cell (j:=1) rfl;have x2:=hx.cell (j:=2) rfl;have x3:=hx.cell (j:=3) rfl;clear h hal hx;have hz1:=hz;clear hz;go_enter Tryz.func89,Tryz.ntmps89;go_wp2_with fail;refine(zdw _ cw w1 HS.out hL).mono ?_;rintro e w2 ⟨v,rfl,ho,hb2⟩;have hjn:=zcc _ _ v (txt cw) w2 (by rw[zn2];exact ho) (by rw[zn2];exact hL) (by omega);have HB2:=lhd hb2;have HJ:=lhd hjn;clear ho hb2 hjn;go_wp2_with fail;refine HJ.out.mono ?_;rintro e w3 ⟨rfl,hb3⟩;have HB3:=lhd (zd5 HB2.out hb3);have HP:=lhd (znR (zgc (txt cw)) w3 (HG.out.below HB3.out) (HM.out.below HB3.out));obtain⟨R,hR⟩:∃R,R=zlR (zgc (txt cw)):=⟨_,rfl⟩;rw[←hR]at HP;obtain⟨n,je⟩:=R;clear hb3 HJ;go_wp2_with fail;refine HP.out.mono ?_;rintro e w4 ⟨rfl,hb4⟩;dsimp only;have HB4:=lhd (zd5 HB3.out hb4);have H3:=lhd (H.out.later HB4.out);have x0:=(HB4.out.cell (p:=⟨W.heap.size,0,none⟩) hz1).trans x0;have x1:=(HB4.out.cell (p:=⟨W.heap.size,1,none⟩) hz1).trans x1;have x2:=(HB4.out.cell (p:=⟨W.heap.size,2,none⟩) hz1).trans x2;have x3:=(HB4.out.cell (p:=⟨W.heap.size,3,none⟩) hz1).trans x3;clear hb4;by_cases h1:je=0
 ·subst h1;have c2:=H3.out.row.cell (j:=7) rfl;by_cases h2:s.scd=true
  ·have HR:=lhd (show s=zlQ s (tx,o1,o2,o3) cw by unfold zlQ;rw[←hR,if_neg (by simp),if_pos h2]);rw[h2]at c2;clear h2 hR;go_wp2_with fail;go_end0
   exact⟨rfl,_,_,_,HR.out▸H3.out⟩
  ·have h2:s.scd=false:=by simpa using h2
   have HR:=lhd (show({s with sc:=n,scd:=true}:DS)=zlQ s (tx,o1,o2,o3) cw by unfold zlQ;rw[←hR,if_neg (by simp),if_neg (by rw[h2];simp)]);rw[h2]at c2;have c0:=H3.out.row.cell (j:=0) rfl;have f0:=H3.out.row.free (j:=0) (by simp[zdR]);have f2:=H3.out.row.free (j:=7) (by simp[zdR]);have H4:=lhd ((H3.out.set (s':={s with sc:=n}) 0 (.int .i64 n) rfl rfl rfl rfl ⟨rfl,rfl,rfl⟩).set (s':={s with sc:=n,scd:=true}) 7 (.bool true) rfl rfl rfl rfl ⟨rfl,rfl,rfl⟩);clear h2 hR;go_wp2_with fail;go_end0
   exact⟨rfl,_,_,_,HR.out▸H4.out⟩
 ·have hb:(je==0)=false:=by rw[beq_eq_false_iff_ne];exact h1
  have HR:=lhd (show s.prob 3 (tx,o1,o2,o3)=zlQ s (tx,o1,o2,o3) cw by unfold zlQ;rw[←hR,if_pos h1]);clear h1 hR;go_wp2_with fail;refine(zdz c _ _ _ _ 3 (tx,o1,o2,o3) _ H3.out hl).mono ?_;rintro e w9 ⟨rfl,vS9,vD9,vr9,h9⟩;have H9:=lhd h9;clear h9;go_wp2_with fail;go_end0
  exact⟨rfl,_,_,_,HR.out▸H9.out⟩
def ziL (s:DS) (w:Wd) (cw:List Wd):DS×Int×Wd:=match ziH s w cw with
 |some e=>(s,e.1,e.2)
 |none=>(ziM s cw,0,w)
def zcX (s:DS) (w:Wd) (cw:List Wd):DS×Int×Wd:=match zc7 s w cw with
 |some e=>(s,e.1,e.2)
 |none=>({s with D:=s.D++ [dclF s cw]},0,w)
def zam (c:DC) (r:DS×Int×Wd) (e:Ending) (w':World):Prop:=e=.returned (.tuple #[.int .i64 r.2.1,wdV r.2.2])∧∃vS vD vr,DPar c r.1 vS vD vr w'
theorem ziJ {s:DS} {w:Wd} {cw:List Wd} {e:Int×Wd} (h:ziH s w cw=some e):e.1≠0:=by
 unfold ziH at h;split at h
 ·injection h with h;subst h;simp
 split at h
 ·injection h with h;subst h;simp
 split at h
 ·injection h with h;subst h;simp
 split at h
 ·split at h
  ·injection h with h;subst h;simp
  ·cases h
 ·split at h
  ·injection h with h;subst h;simp
  ·cases h
theorem zdA (c:DC) (s:DS) (vS vD vr:Value) (w:Wd) (a:Option Addr) (cap:Nat) (cw:List Wd) (W:World) (h:DPar c s vS vD vr W) (hl:s.wrong.length≤1000000) (hk:s.skip≤1000000)
 (hO:∀W1,Below W.heap.size W W1→Calls Tryz.prog 141 #[.pointer (some ⟨c.B,0,none⟩),wdV w,.slice a cw.length cap] W1 (zam c (ziL s w cw))):
 Calls Tryz.prog 90 #[.pointer (some ⟨c.B,0,none⟩),wdV w,.slice a cw.length cap] W (zad c (zl1 s w cw)):=by
 obtain⟨tx,o1,o2,o3⟩:=w;have HO:=lhd (hO _ ((Below.refl W.heap.size W).alloc (Nat.le_refl _) (.cells #[.string (bsB tx),.int .i64 o1,.int .i64 o2,.int .i64 o3] 58)));clear hO;have hal:Below W.heap.size W (W.alloc (.cells #[.string (bsB tx),.int .i64 o1,.int .i64 o2,.int .i64 o3] 58)):=(Below.refl _ _).alloc (Nat.le_refl _) _;have hx:=zaq.fresh W #[.string (bsB tx),.int .i64 o1,.int .i64 o2,.int .i64 o3] 58;have hz:W.heap.size<(W.alloc (.cells #[.string (bsB tx),.int .i64 o1,.int .i64 o2,.int .i64 o3] 58)).heap.size:=by simp
 have H:=lhd (h.later hal);generalize hw1:W.alloc (.cells #[.string (bsB tx),.int .i64 o1,.int .i64 o2,.int .i64 o3] 58)=w1 at*;have x0:=hx.cell (j:=0) rfl;have x1:=hx.cell (j:=1) rfl;have x2:=hx.cell (j:=2) rfl;have x3:=hx.cell (j:=3) rfl;clear h hal hx;have c9:=H.out.row.cell (j:=9) rfl;have f9:=H.out.row.free (j:=9) (by simp[zdR]);by_cases h0:0<s.skip
 ·have hw0:IntKind.i64.wrap (s.skip+1)=s.skip+1:=IntWalk.i64_in _ (by omega);have HR:=lhd (show({s with skip:=s.skip+1}:DS)=zl1 s (tx,o1,o2,o3) cw by unfold zl1;rw[if_pos h0]);have H2:=lhd (H.out.set (s':={s with skip:=s.skip+1}) 9 (.int .i64 (s.skip+1)) rfl rfl rfl rfl ⟨rfl,rfl,rfl⟩);go_enter Tryz.func90,Tryz.ntmps90;go_wp2_with fail;go_end0
  exact⟨rfl,_,_,_,HR.out▸H2.out⟩
 cases ho:ziH s (tx,o1,o2,o3) cw with
 |none=>
  have hr:ziL s (tx,o1,o2,o3) cw=(ziM s cw,0,(tx,o1,o2,o3)):=by unfold ziL;rw[ho]
  have HR:=lhd (show ziM s cw=zl1 s (tx,o1,o2,o3) cw by unfold zl1;rw[if_neg h0,ho]);rw[hr]at HO;clear ho hr;go_enter Tryz.func90,Tryz.ntmps90;go_wp2_with fail;refine HO.out.mono ?_;rintro e w2 ⟨rfl,vS2,vD2,vr2,h2⟩;have H2:=lhd h2;clear h2;go_wp2_with fail;go_end0
  exact⟨rfl,_,_,_,HR.out▸(H2.out.later ((Below.refl _ _).alloc (Nat.le_refl _) _))⟩
 |some e=>
  have hne:=ziJ ho;obtain⟨ec,t9,q1,q2,q3⟩:=e;have hr:ziL s (tx,o1,o2,o3) cw=(s,ec,(t9,q1,q2,q3)):=by unfold ziL;rw[ho]
  have HR:=lhd (show({s.prob ec (t9,q1,q2,q3)with skip:=1}:DS)=zl1 s (tx,o1,o2,o3) cw by unfold zl1;rw[if_neg h0,ho]);rw[hr]at HO;have hb:(ec==0)=false:=by rw[beq_eq_false_iff_ne];exact hne
  clear ho hr hne;go_enter Tryz.func90,Tryz.ntmps90;go_wp2_with fail;refine HO.out.mono ?_;rintro e w2 ⟨rfl,vS2,vD2,vr2,h2⟩;have H2:=lhd (h2.later ((Below.refl _ _).alloc (Nat.le_refl _) (.cells #[.string (bsB t9),.int .i64 q1,.int .i64 q2,.int .i64 q3] 58)));clear h2;go_wp2_with fail;refine(zdz c _ _ _ _ ec (t9,q1,q2,q3) _ H2.out hl).mono ?_;rintro e w9 ⟨rfl,vS9,vD9,vr9,h9⟩;have c9:=h9.row.cell (j:=9) rfl;have f9:=h9.row.free (j:=9) (by simp[zdR]);have H9:=lhd (h9.set (s':={s.prob ec (t9,q1,q2,q3)with skip:=1}) 9 (.int .i64 1) rfl rfl rfl rfl ⟨rfl,rfl,rfl⟩);clear h9;go_wp2_with fail;go_end0
  exact⟨rfl,_,_,_,HR.out▸H9.out⟩
theorem zc9 {s:DS} {w:Wd} {cw:List Wd} {e:Int×Wd} (h:zc7 s w cw=some e):e.1≠0:=by
 unfold zc7 at h;split at h
 ·injection h with h;subst h;simp
 split at h
 ·injection h with h;subst h;simp
 split at h
 ·injection h with h;subst h;simp
 ·dsimp only at h;split at h
  ·injection h with h;subst h;simp
  split at h
  ·injection h with h;subst h;simp
  split at h
  ·rename_i h0
   injection h with h;subst h;exact h0
  split at h
  ·injection h with h;subst h;simp
  split at h
  ·injection h with h;subst h;simp
  split at h
  ·split at h
   ·injection h with h;subst h;simp
   split at h
   ·injection h with h;subst h;simp
   split at h
   ·injection h with h;subst h;simp
   split at h
   ·injection h with h;subst h;simp
   ·cases h
  ·split at h
   ·injection h with h;subst h;simp
   split at h
   ·injection h with h;subst h;simp
   ·cases h
theorem zdM (c:DC) (s:DS) (vS vD vr:Value) (w:Wd) (a:Option Addr) (cap:Nat) (cw:List Wd) (W:World) (h:DPar c s vS vD vr W) (hl:s.wrong.length≤1000000)
 (hO:∀W1,Below W.heap.size W W1→Calls Tryz.prog 142 #[.pointer (some ⟨c.B,0,none⟩),wdV w,.slice a cw.length cap] W1 (zam c (zcX s w cw))):
 Calls Tryz.prog 92 #[.pointer (some ⟨c.B,0,none⟩),wdV w,.slice a cw.length cap] W (zad c (varP s w cw)):=by
 obtain⟨tx,o1,o2,o3⟩:=w;have HO:=lhd (hO _ ((Below.refl W.heap.size W).alloc (Nat.le_refl _) (.cells #[.string (bsB tx),.int .i64 o1,.int .i64 o2,.int .i64 o3] 58)));clear hO;have hal:Below W.heap.size W (W.alloc (.cells #[.string (bsB tx),.int .i64 o1,.int .i64 o2,.int .i64 o3] 58)):=(Below.refl _ _).alloc (Nat.le_refl _) _;have hx:=zaq.fresh W #[.string (bsB tx),.int .i64 o1,.int .i64 o2,.int .i64 o3] 58;have hz:W.heap.size<(W.alloc (.cells #[.string (bsB tx),.int .i64 o1,.int .i64 o2,.int .i64 o3] 58)).heap.size:=by simp
 have H:=lhd (h.later hal);generalize hw1:W.alloc (.cells #[.string (bsB tx),.int .i64 o1,.int .i64 o2,.int .i64 o3] 58)=w1 at*;have x0:=hx.cell (j:=0) rfl;have x1:=hx.cell (j:=1) rfl;have x2:=hx.cell (j:=2) rfl;have x3:=hx.cell (j:=3) rfl;clear h hal hx;have c9:=H.out.row.cell (j:=9) rfl;by_cases h0:0<s.skip
 ·have HR:=lhd (show s=varP s (tx,o1,o2,o3) cw by unfold varP;rw[if_pos h0]);go_enter Tryz.func92,Tryz.ntmps92;go_wp2_with fail;go_end0
  exact⟨rfl,_,_,_,HR.out▸H.out⟩
 cases ho:zc7 s (tx,o1,o2,o3) cw with
 |none=>
  have hr:zcX s (tx,o1,o2,o3) cw=({s with D:=s.D++ [dclF s cw]},0,(tx,o1,o2,o3)):=by unfold zcX;rw[ho]
  have HR:=lhd (show({s with D:=s.D++ [dclF s cw]}:DS)=varP s (tx,o1,o2,o3) cw by unfold varP;rw[if_neg h0,ho]);rw[hr]at HO;clear ho hr;go_enter Tryz.func92,Tryz.ntmps92;go_wp2_with fail;refine HO.out.mono ?_;rintro e w2 ⟨rfl,vS2,vD2,vr2,h2⟩;have H2:=lhd h2;clear h2;go_wp2_with fail;go_end0
  exact⟨rfl,_,_,_,HR.out▸(H2.out.later ((Below.refl _ _).alloc (Nat.le_refl _) _))⟩
 |some e=>
  have hne:=zc9 ho;obtain⟨ec,t9,q1,q2,q3⟩:=e;have hr:zcX s (tx,o1,o2,o3) cw=(s,ec,(t9,q1,q2,q3)):=by unfold zcX;rw[ho]
  have HR:=lhd (show s.prob ec (t9,q1,q2,q3)=varP s (tx,o1,o2,o3) cw by unfold varP;rw[if_neg h0,ho]);rw[hr]at HO;have hb:(ec==0)=false:=by rw[beq_eq_false_iff_ne];exact hne
  clear ho hr hne;go_enter Tryz.func92,Tryz.ntmps92;go_wp2_with fail;refine HO.out.mono ?_;rintro e w2 ⟨rfl,vS2,vD2,vr2,h2⟩;have H2:=lhd (h2.later ((Below.refl _ _).alloc (Nat.le_refl _) (.cells #[.string (bsB t9),.int .i64 q1,.int .i64 q2,.int .i64 q3] 58)));clear h2;go_wp2_with fail;refine(zdz c _ _ _ _ ec (t9,q1,q2,q3) _ H2.out hl).mono ?_;rintro e w9 ⟨rfl,vS9,vD9,vr9,h9⟩;have H9:=lhd h9;clear h9;go_wp2_with fail;go_end0
  exact⟨rfl,_,_,_,HR.out▸H9.out⟩
end Go.Proofs.YtcdekelomkcahaaGreatDoor
