import Derived.Test.YtcdekelomkcahaaGreatDoorZ00
import Derived.Test.YtcdekelomkcahaaGreatDoorZ03
import Derived.Test.YtcdekelomkcahaaGreatDoorZ25
import Derived.Test.YtcdekelomkcahaaGreatDoorZ26
set_option maxRecDepth 100000
set_option maxHeartbeats 16000000
namespace Go.Proofs.YtcdekelomkcahaaGreatDoor
open Go.RowKit
set_option linter.unusedSimpArgs false
theorem zdz (c:DC) (s:DS) (vS vD vr:Value) (e:Int) (w:Wd) (W:World) (h:DPar c s vS vD vr W) (hl:s.wrong.length≤1000000):
 Calls Tryz.prog 51 #[.pointer (some ⟨c.B,0,none⟩),.int .i64 e,wdV w] W (zad c (s.prob e w)):=by
 obtain⟨tx,o1,o2,o3⟩:=w;obtain⟨i0,hi,iz0,iz1,iz2⟩:=info_parts (P:=Tryz.prog) zjZ;obtain⟨ar,cr,rfl,-,-⟩:=(SlR.of_own h.r).shape;have hal:Below W.heap.size W (W.alloc (.cells #[.string (bsB tx),.int .i64 o1,.int .i64 o2,.int .i64 o3] 58)):=(Below.refl _ _).alloc (Nat.le_refl _) _;have hx:=zaq.fresh W #[.string (bsB tx),.int .i64 o1,.int .i64 o2,.int .i64 o3] 58;have hz:W.heap.size<(W.alloc (.cells #[.string (bsB tx),.int .i64 o1,.int .i64 o2,.int .i64 o3] 58)).heap.size:=by simp
 have H:=lhd (h.later hal);generalize hw1:W.alloc (.cells #[.string (bsB tx),.int .i64 o1,.int .i64 o2,.int .i64 o3] 58)=w1 at*;have c8:=H.out.row.cell (j:=12) rfl;have x1:=hx.cell (j:=1) rfl;have x2:=hx.cell (j:=2) rfl;have x3:=hx.cell (j:=3) rfl;have hB:=h.lo;obtain⟨hB1,hB2⟩:=hB;have hbs:=H.out.b.size;have HRL:=lhd h.r.lt;have hal2:Below w1.heap.size w1 (w1.drew.alloc (.cells #[.int .i64 e,.int .i64 o1,.int .i64 o2,.int .i64 o3] 55)):=((Below.refl _ _).drew).alloc (Nat.le_refl _) _;have HA:=lhd (H.out.later hal2);have HXA:=lhd (hx.below hal2 hz);have hz2:W.heap.size<(w1.drew.alloc (.cells #[.int .i64 e,.int .i64 o1,.int .i64 o2,.int .i64 o3] 55)).heap.size:=by have:=hal2.size;omega
 have a8:=HA.out.row.cell (j:=12) rfl;have a1:=HXA.out.cell (j:=1) rfl;have a2:=HXA.out.cell (j:=2) rfl;have a3:=HXA.out.cell (j:=3) rfl;have hne:W.heap.size≠c.B:=by omega
 clear h hal hx hal2;go_enter Tryz.func51,Tryz.ntmps51;go_wp2_with fail;refine wp_region_held_drew (S:=(fun w'=>w'.cell? ⟨W.heap.size,1,none⟩=some (.int .i64 o1)∧w'.cell? ⟨W.heap.size,2,none⟩=some (.int .i64 o2)∧w'.cell? ⟨W.heap.size,3,none⟩=some (.int .i64 o3))) (by kernel_rfl) ⟨x1,x2,x3⟩ (fun hHeld=>?_);refine tkH 0 hHeld (v:=?_) ?_;simp only[tkS];refine tkH 1 hHeld (v:=?_) ?_;simp only[tkS];refine tkH 2 hHeld (v:=?_) ?_;simp only[tkS];refine tkH 3 hHeld (v:=?_) ?_;simp only[tkS];refine tkH 5 hHeld (v:=?_) ?_;simp only[tkS];refine tkH 6 hHeld (v:=?_) ?_;simp only[tkS];refine tkH 7 hHeld (v:=?_) ?_;simp only[tkS];refine tkH 8 hHeld (v:=?_) ?_;simp only[tkS];refine tkH 9 hHeld (v:=?_) ?_;simp only[tkS];refine tkH 10 hHeld (v:=?_) ?_;simp only[tkS];refine tkH 11 hHeld (v:=?_) ?_;simp only[tkS];refine tkH 12 hHeld (v:=?_) ?_;simp only[tkS];refine wpAnyH_ready (rs:=[4,13]) (by kernel_rfl) (by simp) ?_;refine AllReadyH.cons (o:=_) rfl (fun K hK=>?_) (AllReadyH.cons (o:=_) rfl (fun K hK=>?_) AllReadyH.nil)
 ·go_simp;refine hK.out _ _ ⟨x1,x2,x3⟩ (fun hHeld=>?_);clear hK;try simp only[tkS]
  refine oneH 13 (fun K hK=>?_);go_simp;refine hK.out _ _ ⟨a1,a2,a3⟩ (fun hHeld=>?_);clear hK;try simp only[tkS]
  refine oneH 14 (fun K hK=>?_);refine step_append_lies _ (by rfl) _ _ _ (by rfl) c.w0.heap.size 55 i0 _ 4 32 Tryz.underlying33 hi iz0 iz1 iz2 rfl (by omega) (.slice ar s.wrong.length cr) s.wrong.length (prbs s.wrong) (by rfl) (by exact HA.out.r) ⟨w1.heap.size,0,none⟩ 1 1 [.int .i64 e,.int .i64 o1,.int .i64 o2,.int .i64 o3] (by rfl) (by rfl) (World.news_of_block (cs:=#[.int .i64 e,.int .i64 o1,.int .i64 o2,.int .i64 o3]) (t:=55) (fr:=(0,0)) (by exact heap_alloc_new _ _)) (by simp[Value.oneCell']) (by omega) (by unfold maxLen;omega) (by omega) (by simp;omega) (w1.heap.size+1) (by simp) ?_;intro gg cap9 w9 ho9 hg9 hat hlt9;have HR9:=lhd (zjo (HA.out.p.kept hg9 (zjl HA.out.p HA.out.r (by decide))));have HX9:=lhd (HXA.out.grown hg9 hz2 (fun q=>by have:=(HRL.out _ q.symm).2;omega));have HE9:=lhd (HA.out.addR (x:=(e,o1,o2,o3)) ho9 hg9);have d8:=HR9.out.cell (j:=12) rfl;have f8:=HR9.out.free (j:=12) (by simp[zdR]);have y1:=HX9.out.cell (j:=1) rfl;have y2:=HX9.out.cell (j:=2) rfl;have y3:=HX9.out.cell (j:=3) rfl;have HZ9:=lhd (HX9.out.setFar (Ne.symm hne) 12 (.slice (some ⟨gg,0,none⟩) (s.wrong.length+1) cap9));clear ho9 hg9 hat hlt9;refine hK.out _ _ ⟨y1,y2,y3⟩ (fun hHeld=>?_);clear hK;try simp only[tkS]
  clear y1 y2 y3;refine tkH 15 hHeld (v:=?_) ?_;simp only[tkS];refine tkH 16 hHeld (v:=?_) ?_;simp only[tkS];refine oneH 17 (fun K hK=>?_);go_simp;refine hK.out _ _ ⟨HZ9.out.cell (j:=1) rfl,HZ9.out.cell (j:=2) rfl,HZ9.out.cell (j:=3) rfl⟩ (fun hHeld=>?_);clear hK;try simp only[tkS]
  refine wpAnyH_done (by kernel_rfl) ?_ _;clear hHeld;go_wp2_with fail;go_end0
  exact⟨rfl,_,_,_,HE9.out⟩
 ·go_simp;refine hK.out _ _ ⟨a1,a2,a3⟩ (fun hHeld=>?_);clear hK;try simp only[tkS]
  have a8:=zbz c8 (.cells #[.int .i64 e,.int .i64 o1,.int .i64 o2,.int .i64 o3] 55);refine oneH 4 (fun K hK=>?_);go_simp;refine hK.out _ _ ⟨a1,a2,a3⟩ (fun hHeld=>?_);clear hK;try simp only[tkS]
  clear a8;refine oneH 14 (fun K hK=>?_);refine step_append_lies _ (by rfl) _ _ _ (by rfl) c.w0.heap.size 55 i0 _ 4 32 Tryz.underlying33 hi iz0 iz1 iz2 rfl (by omega) (.slice ar s.wrong.length cr) s.wrong.length (prbs s.wrong) (by rfl) (by exact HA.out.r) ⟨w1.heap.size,0,none⟩ 1 1 [.int .i64 e,.int .i64 o1,.int .i64 o2,.int .i64 o3] (by rfl) (by rfl) (World.news_of_block (cs:=#[.int .i64 e,.int .i64 o1,.int .i64 o2,.int .i64 o3]) (t:=55) (fr:=(0,0)) (by exact heap_alloc_new _ _)) (by simp[Value.oneCell']) (by omega) (by unfold maxLen;omega) (by omega) (by simp;omega) (w1.heap.size+1) (by simp) ?_;intro gg cap9 w9 ho9 hg9 hat hlt9;have HR9:=lhd (zjo (HA.out.p.kept hg9 (zjl HA.out.p HA.out.r (by decide))));have HX9:=lhd (HXA.out.grown hg9 hz2 (fun q=>by have:=(HRL.out _ q.symm).2;omega));have HE9:=lhd (HA.out.addR (x:=(e,o1,o2,o3)) ho9 hg9);have d8:=HR9.out.cell (j:=12) rfl;have f8:=HR9.out.free (j:=12) (by simp[zdR]);have y1:=HX9.out.cell (j:=1) rfl;have y2:=HX9.out.cell (j:=2) rfl;have y3:=HX9.out.cell (j:=3) rfl;have HZ9:=lhd (HX9.out.setFar (Ne.symm hne) 12 (.slice (some ⟨gg,0,none⟩) (s.wrong.length+1) cap9));clear ho9 hg9 hat hlt9;refine hK.out _ _ ⟨y1,y2,y3⟩ (fun hHeld=>?_);clear hK;try simp only[tkS]
  clear y1 y2 y3;refine tkH 15 hHeld (v:=?_) ?_;simp only[tkS];refine tkH 16 hHeld (v:=?_) ?_;simp only[tkS];refine oneH 17 (fun K hK=>?_);go_simp;refine hK.out _ _ ⟨HZ9.out.cell (j:=1) rfl,HZ9.out.cell (j:=2) rfl,HZ9.out.cell (j:=3) rfl⟩ (fun hHeld=>?_);clear hK;try simp only[tkS]
  refine wpAnyH_done (by kernel_rfl) ?_ _;clear hHeld;go_wp2_with fail;go_end0
  exact⟨rfl,_,_,_,HE9.out⟩
theorem zjd {w:World} {B e size n:Nat} {v:Value} {xs:List Value} (h:w.ownsRow B e size v n xs) (hn:0<n):
 ∃g c,v=.slice (some ⟨g,0,none⟩) n c∧n≤c∧B≤g∧g<w.heap.size∧∀j u,xs[j]? =some u→w.cell? ⟨g,j,none⟩=some u:=by
 rcases h.2 with⟨-,h0⟩|⟨g,cap,cur,e0,hb,hh,hc,-⟩
 ·omega
 refine⟨g,cap,e0,hc,hb,(Array.getElem?_eq_some_iff.1 hh).1,fun j u hj=>?_⟩;obtain⟨a',c',ev,-,-,-,h4⟩:=SlR.of_own h;obtain⟨b',o',rfl,hat⟩:=h4 hn;rw[e0]at ev;injection ev with ev _ _;injection ev with ev;injection ev with ev1 ev2 _;subst ev1 ev2;have:=hat j u hj;rwa [Nat.zero_add]at this
theorem zkD (w:World):Calls Tryz.prog 138 #[.slice none 0 0] w fun e w'=>e=.returned (.tuple #[.string ⟨#[]⟩,.int .i64 0])∧Below w.heap.size w w':=by
 go_enter Tryz.func138,Tryz.ntmps138;go_wp2_with fail;go_loopw [9] (fun i wr=>i=.int .i64 0∧wr=w) (fun _ _=>1)
 case atStart=>exact⟨rfl,rfl⟩
 case round=>
  obtain⟨rfl,rfl⟩:=hrel;go_wp2_with fail;refine(Tryz.strings_Join_none none 0 ⟨#[32]⟩ wr).mono ?_;rintro e w1 ⟨rfl,rfl⟩;go_wp2_with fail;exact bodyPost_ret (v:=.tuple #[.string ⟨#[]⟩,.int .i64 0]) (by simp[results,Tryz.results138,go_sem]) rfl ⟨rfl,Below.refl _ _⟩
theorem zdv (B T:Nat) (v:Value) (L:List Bs) (w:World) (ho:w.ownsRow B T 1 v L.length (strs L)) (hL:L.length≤100000) (hx:∀x∈L,x.length≤2000000) (hz:(zgc L).length≤2000000):
 Calls Tryz.prog 138 #[v] w fun e w'=>e=.returned (.tuple #[.string (bsB (zgg L).1),.int .i64 (zgg L).2])∧Below w.heap.size w w':=by
 rcases Nat.eq_zero_or_pos L.length with h0|h0
 ·obtain rfl:L=[]:=List.length_eq_zero_iff.1 h0;rcases ho.2 with⟨rfl,-⟩|⟨g,cap,cur,rfl,hb,hg,hc,hm,hs,hcells⟩
  ·exact zkD w
  ·have hq:=zkC g cap [] w (fun j x h=>by cases h) (Array.getElem?_eq_some_iff.1 hg).1 (by simp) (by simp) (fun x hx=>by cases hx) (by decide);exact hq
 ·obtain⟨g,c,rfl,hc,-,hg,hcell⟩:=zjd ho h0
  have hq:=zkC g c (L.map bsB) w (fun j x h=>hcell j _ (by
   rw[List.getElem?_map]at h;obtain⟨y,hy,rfl⟩:=Option.map_eq_some_iff.1 h;simp[strs,strV,hy])) hg (by rw[List.length_map];omega) (by rw[List.length_map];exact hc) (fun x hx2=>by
   obtain⟨y,hy,rfl⟩:=List.mem_map.1 hx2;rw[zbk];exact hx y hy) (by rw[zhe,←zgi];exact hz)
  rw[List.length_map,(zgj L).1,(zgj L).2]at hq;exact hq
theorem SMap.cells {P:Program} {K:TypeId} {w w':World} {b n:Nat} {f:BsM→Option Value} (h:SMap P K w b n f) (hg:w.grownBy w' (some b)) {a:Addr} {v:Value} (hc:w.cell? a=some v):w'.cell? a=w.cell? a:=by
 refine World.cell?_of_block (w:=w) (hg.block a.block (World.block_lt_of_cell? (h:=hc)) fun e=>?_);injection e with e;unfold World.cell? at hc;rw[e]at hc;split at hc
 ·rename_i C T fr he
  exact h.no_cells he
 ·cases hc
theorem zqC (w:World):(zeroValue 4).run Tryz.prog w=.ok (.bool false) w:=by kernel_rfl
theorem zdG {w:World} {b n:Nat} {f:BsM→Option Value} (h:SMap Tryz.prog 9 w b n f) {x:Bs} (hc:x.length≤1000):
 (Instr.lookup 86 (.map (some b)) (.string (bsB x)) false).run Tryz.prog w=.ok ((f x).getD (.bool false)) w:=by
 have:=h.look1 (t:=86) Tryz.underlying9 Tryz.underlying86 (zqC w) (bsB x) (by rw[zbk];unfold maxLen;omega);rw[zbh]at this;exact this
theorem znF (s:DS):tN s<maxLen:=by
 unfold tN maxLen;cases s.dtd<;>cases s.vnd<;>cases s.cmd<;>decide
theorem znC {s:DS} (h:s.dtd=false):tF s zlw=none:=by
 unfold tF;rw[if_neg];rintro(⟨e,h2⟩|⟨e,h2⟩|⟨e,h2⟩)<;>first|exact absurd e (by decide)|(rw[h]at h2;cases h2)
theorem znA (s:DS):(tF s zlw).getD (.bool false)=.bool s.dtd:=by
 cases h:s.dtd with
 |false=>rw[znC h];rfl
 |true=>
  unfold tF;rw[if_pos (by simp[h])];rfl
theorem znD {s:DS} (h:s.vnd=false):tF s zlF=none:=by
 unfold tF;rw[if_neg];rintro(⟨e,h2⟩|⟨e,h2⟩|⟨e,h2⟩)<;>first|exact absurd e (by decide)|(rw[h]at h2;cases h2)
theorem znE (s:DS):(tF s zlF).getD (.bool false)=.bool s.vnd:=by
 cases h:s.vnd with
 |false=>rw[znD h];rfl
 |true=>
  unfold tF;rw[if_pos (by simp[h])];rfl
theorem znB {s:DS} (h:s.cmd=false):tF s zlv=none:=by
 unfold tF;rw[if_neg];rintro(⟨e,h2⟩|⟨e,h2⟩|⟨e,h2⟩)<;>first|exact absurd e (by decide)|(rw[h]at h2;cases h2)
theorem zny (s:DS):(tF s zlv).getD (.bool false)=.bool s.cmd:=by
 cases h:s.cmd with
 |false=>rw[znB h];rfl
 |true=>
  unfold tF;rw[if_pos (by simp[h])];rfl
theorem zdr (c:DC) (s:DS) (vS vD vr:Value) (pt tq:Nat) (w:Wd) (a:Option Addr) (cap:Nat) (cw:List Wd) (W:World) (h:DPar c s vS vD vr W) (hw:w.1=zlw) (hpt:W.cell? ⟨pt,0,none⟩=some (.pointer (some ⟨c.B,0,none⟩))) (hto:W.cell? ⟨tq,0,none⟩=some (.pointer (some ⟨c.B,1,none⟩)))
 (hs:SlR W (.slice a cw.length cap) cw.length (wds cw)) (hL:cw.length≤100000) (hx:∀x∈txt cw,x.length≤2000000) (hzj:(zgc (txt cw)).length≤2000000) (hl:s.wrong.length≤1000000):
 Calls Tryz.prog 137 #[wdV w,.slice a cw.length cap,.pointer (some ⟨pt,0,none⟩),.pointer (some ⟨tq,0,none⟩)] W (zad c (zcG s w cw)):=by
 obtain⟨tx,o1,o2,o3⟩:=w;obtain rfl:tx=zlw:=hw;have HPT:=lhd (zbA hpt);have HTO:=lhd (zbA hto);have HS:=lhd (hs.below ((Below.refl W.heap.size W).alloc (Nat.le_refl _) (.cells #[.string (bsB zlw),.int .i64 o1,.int .i64 o2,.int .i64 o3] 58)));have p1:=zbz hpt (.cells #[.string (bsB zlw),.int .i64 o1,.int .i64 o2,.int .i64 o3] 58);have p2:=zbz hto (.cells #[.string (bsB zlw),.int .i64 o1,.int .i64 o2,.int .i64 o3] 58);clear hs hpt hto;have HLO:=lhd h.lo;have hal:Below W.heap.size W (W.alloc (.cells #[.string (bsB zlw),.int .i64 o1,.int .i64 o2,.int .i64 o3] 58)):=(Below.refl _ _).alloc (Nat.le_refl _) _;have hx:=zaq.fresh W #[.string (bsB zlw),.int .i64 o1,.int .i64 o2,.int .i64 o3] 58;have hz:W.heap.size<(W.alloc (.cells #[.string (bsB zlw),.int .i64 o1,.int .i64 o2,.int .i64 o3] 58)).heap.size:=by simp
 have H:=lhd (h.later hal);generalize hw1:W.alloc (.cells #[.string (bsB zlw),.int .i64 o1,.int .i64 o2,.int .i64 o3] 58)=w1 at*;have x0:=hx.cell (j:=0) rfl;have x1:=hx.cell (j:=1) rfl;have x2:=hx.cell (j:=2) rfl;have x3:=hx.cell (j:=3) rfl;clear h hal hx;have hz1:=hz;clear hz;go_enter Tryz.func137,Tryz.ntmps137;go_wp2_with fail;refine(zdw _ cw w1 HS.out hL).mono ?_;rintro e w2 ⟨v,rfl,ho,hb2⟩;have hjn:=zdv _ _ v (txt cw) w2 (by rw[zn2];exact ho) (by rw[zn2];exact hL) hx hzj;have HB2:=lhd hb2;clear ho hb2 hx hzj;obtain⟨J,hJ⟩:∃J,J=zgg (txt cw):=⟨_,rfl⟩;rw[←hJ]at hjn;obtain⟨js,je⟩:=J;have HJ:=lhd hjn;clear hjn;go_wp2_with fail;refine HJ.out.mono ?_;rintro e w3 ⟨rfl,hb3⟩;dsimp only;have HB3:=lhd (zd5 HB2.out hb3);have H3:=lhd (H.out.later HB3.out);have p1:=(HB3.out.cell (p:=⟨pt,0,none⟩) (by show pt<_;have:=HPT.out;omega)).trans p1;have p2:=(HB3.out.cell (p:=⟨tq,0,none⟩) (by show tq<_;have:=HTO.out;omega)).trans p2;have x0:=(HB3.out.cell (p:=⟨W.heap.size,0,none⟩) hz1).trans x0;have x1:=(HB3.out.cell (p:=⟨W.heap.size,1,none⟩) hz1).trans x1;have x2:=(HB3.out.cell (p:=⟨W.heap.size,2,none⟩) hz1).trans x2;have x3:=(HB3.out.cell (p:=⟨W.heap.size,3,none⟩) hz1).trans x3;by_cases h1:je=0
 ·subst h1;have hlk:=zdG H3.out.t.s.drew (x:=zlw) (by decide);have c6:=H3.out.row.cell (j:=6) rfl;rw[znA]at hlk;by_cases h2:s.dtd=true
  ·have HR:=lhd (show s=zcG s (zlw,o1,o2,o3) cw by unfold zcG;rw[←hJ,if_neg (by simp),if_pos h2]);rw[h2]at hlk;have H9:=lhd (H3.out.later (Below.refl _ _).drew);clear h2 hJ;go_wp2_with fail;go_region
   go_wp2_with fail;go_end0
   exact⟨rfl,_,_,_,HR.out▸H9.out⟩
  ·have h2:s.dtd=false:=by simpa using h2
   have HR:=lhd (show({s with dt:=js,dtd:=true}:DS)=zcG s (zlw,o1,o2,o3) cw by unfold zcG;rw[←hJ,if_neg (by simp),if_neg (by rw[h2];simp)]);rw[h2]at hlk;have c1:=H3.out.row.cell (j:=1) rfl;have f1:=H3.out.row.free (j:=1) (by simp[zdR]);have H4:=lhd (H3.out.set (s':={s with dt:=js}) 1 (.string (bsB js)) rfl rfl rfl rfl ⟨rfl,rfl,rfl⟩);obtain⟨we,r4,h4,q4⟩:=zav.put (t:=86) (H4.out.t.drew.drew) Tryz.underlying9 Tryz.underlying86 (znF _) (bsB zlw) (by rw[zbk];decide) (by rw[zbh];exact znC h2) (.bool true);have H9:=lhd (DPar.date (H3.out.later (Below.refl _ _).drew.drew) js h2 (by rw[zbh]at h4;exact h4) q4)
   have hpb:pt≠c.B:=fun e=>by
    have h0:=H3.out.row.cell (j:=0) rfl;rw[e,h0]at p1;cases p1
   have hxb:W.heap.size≠c.B:=by have:=HLO.out.2;omega
   have HY:=lhd (show(w3.setCell ⟨c.B,1,none⟩ (.string (bsB js))).drew.cell? ⟨pt,0,none⟩=some (.pointer (some ⟨c.B,0,none⟩))∧(w3.setCell ⟨c.B,1,none⟩ (.string (bsB js))).drew.cell? ⟨W.heap.size,0,none⟩=some (.string (bsB zlw))∧(w3.setCell ⟨c.B,1,none⟩ (.string (bsB js))).drew.cell? ⟨c.B,6,none⟩=some (.map (some c.tb))from
    ⟨(World.cell?_setCell_far _ _ _ _ (Ne.symm hpb)).trans p1,(World.cell?_setCell_far _ _ _ _ (Ne.symm hxb)).trans x0,H4.out.row.cell (j:=6) rfl⟩)
   have HY9:=lhd (show we.cell? ⟨pt,0,none⟩=some (.pointer (some ⟨c.B,0,none⟩))∧we.cell? ⟨W.heap.size,0,none⟩=some (.string (bsB zlw))∧we.cell? ⟨c.B,6,none⟩=some (.map (some c.tb))from
    ⟨(H4.out.t.s.drew.drew.cells q4 HY.out.1).trans HY.out.1,(H4.out.t.s.drew.drew.cells q4 HY.out.2.1).trans HY.out.2.1,H9.out.row.cell (j:=6) rfl⟩)
   clear h2 hJ h4 q4 hpb hxb;go_wp2_with fail;go_region
   go_wp2_with fail;clear p1 p2 x0 x1 x2 x3 c6 c1 f1 hlk;generalize (w3.setCell ⟨c.B,1,none⟩ (.string (bsB js))).drew=w5 at*;refine wp_region_held_drew (S:=fun w'=>w'.cell? ⟨pt,0,none⟩=some (.pointer (some ⟨c.B,0,none⟩))∧w'.cell? ⟨W.heap.size,0,none⟩=some (.string (bsB zlw))∧w'.cell? ⟨c.B,6,none⟩=some (.map (some c.tb))) (by kernel_rfl) HY.out (fun hHeld=>?_);refine tkH 0 hHeld (v:=?_) ?_;simp only[tkS];refine tkH 1 hHeld (v:=?_) ?_;simp only[tkS];refine tkH 2 hHeld (v:=?_) ?_;simp only[tkS];refine tkH 3 hHeld (v:=?_) ?_;simp only[tkS];refine tkH 4 hHeld (v:=?_) ?_;simp only[tkS];refine tkH 5 hHeld (v:=?_) ?_;simp only[tkS];refine oneH 6 (fun K hK=>?_);go_simp;refine hK.out _ _ HY9.out (fun hHeld=>?_);clear hK;try simp only[tkS]
   refine wpAnyH_done (by kernel_rfl) ?_ _;clear hHeld;go_wp2_with fail;go_end0
   exact⟨rfl,_,_,_,HR.out▸H9.out⟩
 ·have hb:(je==0)=false:=by rw[beq_eq_false_iff_ne];exact h1
  have HR:=lhd (show s.prob je (zlw,o1,o2,o3)=zcG s (zlw,o1,o2,o3) cw by unfold zcG;rw[←hJ,if_pos h1]);clear h1 hJ;go_wp2_with fail;refine(zdz c _ _ _ _ je (zlw,o1,o2,o3) _ H3.out hl).mono ?_;rintro e w9 ⟨rfl,vS9,vD9,vr9,h9⟩;have H9:=lhd h9;clear h9;go_wp2_with fail;go_end0
  exact⟨rfl,_,_,_,HR.out▸H9.out⟩
theorem zdN (c:DC) (s:DS) (vS vD vr:Value) (pt tq:Nat) (w:Wd) (a:Option Addr) (cap:Nat) (cw:List Wd) (W:World) (h:DPar c s vS vD vr W) (hw:w.1=zlF) (hpt:W.cell? ⟨pt,0,none⟩=some (.pointer (some ⟨c.B,0,none⟩))) (hto:W.cell? ⟨tq,0,none⟩=some (.pointer (some ⟨c.B,2,none⟩)))
 (hs:SlR W (.slice a cw.length cap) cw.length (wds cw)) (hL:cw.length≤100000) (hx:∀x∈txt cw,x.length≤2000000) (hzj:(zgc (txt cw)).length≤2000000) (hl:s.wrong.length≤1000000):
 Calls Tryz.prog 137 #[wdV w,.slice a cw.length cap,.pointer (some ⟨pt,0,none⟩),.pointer (some ⟨tq,0,none⟩)] W (zad c (zpc s w cw)):=by
 obtain⟨tx,o1,o2,o3⟩:=w;obtain rfl:tx=zlF:=hw;have HPT:=lhd (zbA hpt);have HTO:=lhd (zbA hto);have HS:=lhd (hs.below ((Below.refl W.heap.size W).alloc (Nat.le_refl _) (.cells #[.string (bsB zlF),.int .i64 o1,.int .i64 o2,.int .i64 o3] 58)));have p1:=zbz hpt (.cells #[.string (bsB zlF),.int .i64 o1,.int .i64 o2,.int .i64 o3] 58);have p2:=zbz hto (.cells #[.string (bsB zlF),.int .i64 o1,.int .i64 o2,.int .i64 o3] 58);clear hs hpt hto;have HLO:=lhd h.lo;have hal:Below W.heap.size W (W.alloc (.cells #[.string (bsB zlF),.int .i64 o1,.int .i64 o2,.int .i64 o3] 58)):=(Below.refl _ _).alloc (Nat.le_refl _) _;have hx:=zaq.fresh W #[.string (bsB zlF),.int .i64 o1,.int .i64 o2,.int .i64 o3] 58;have hz:W.heap.size<(W.alloc (.cells #[.string (bsB zlF),.int .i64 o1,.int .i64 o2,.int .i64 o3] 58)).heap.size:=by simp
 have H:=lhd (h.later hal);generalize hw1:W.alloc (.cells #[.string (bsB zlF),.int .i64 o1,.int .i64 o2,.int .i64 o3] 58)=w1 at*;have x0:=hx.cell (j:=0) rfl;have x1:=hx.cell (j:=1) rfl;have x2:=hx.cell (j:=2) rfl;have x3:=hx.cell (j:=3) rfl;clear h hal hx;have hz1:=hz;clear hz;go_enter Tryz.func137,Tryz.ntmps137;go_wp2_with fail;refine(zdw _ cw w1 HS.out hL).mono ?_;rintro e w2 ⟨v,rfl,ho,hb2⟩;have hjn:=zdv _ _ v (txt cw) w2 (by rw[zn2];exact ho) (by rw[zn2];exact hL) hx hzj;have HB2:=lhd hb2;clear ho hb2 hx hzj;obtain⟨J,hJ⟩:∃J,J=zgg (txt cw):=⟨_,rfl⟩;rw[←hJ]at hjn;obtain⟨js,je⟩:=J;have HJ:=lhd hjn;clear hjn;go_wp2_with fail;refine HJ.out.mono ?_;rintro e w3 ⟨rfl,hb3⟩;dsimp only;have HB3:=lhd (zd5 HB2.out hb3);have H3:=lhd (H.out.later HB3.out);have p1:=(HB3.out.cell (p:=⟨pt,0,none⟩) (by show pt<_;have:=HPT.out;omega)).trans p1;have p2:=(HB3.out.cell (p:=⟨tq,0,none⟩) (by show tq<_;have:=HTO.out;omega)).trans p2;have x0:=(HB3.out.cell (p:=⟨W.heap.size,0,none⟩) hz1).trans x0;have x1:=(HB3.out.cell (p:=⟨W.heap.size,1,none⟩) hz1).trans x1;have x2:=(HB3.out.cell (p:=⟨W.heap.size,2,none⟩) hz1).trans x2;have x3:=(HB3.out.cell (p:=⟨W.heap.size,3,none⟩) hz1).trans x3;by_cases h1:je=0
 ·subst h1;have hlk:=zdG H3.out.t.s.drew (x:=zlF) (by decide);have c6:=H3.out.row.cell (j:=6) rfl;rw[znE]at hlk;by_cases h2:s.vnd=true
  ·have HR:=lhd (show s=zpc s (zlF,o1,o2,o3) cw by unfold zpc;rw[←hJ,if_neg (by simp),if_pos h2]);rw[h2]at hlk;have H9:=lhd (H3.out.later (Below.refl _ _).drew);clear h2 hJ;go_wp2_with fail;go_region
   go_wp2_with fail;go_end0
   exact⟨rfl,_,_,_,HR.out▸H9.out⟩
  ·have h2:s.vnd=false:=by simpa using h2
   have HR:=lhd (show({s with vn:=js,vnd:=true}:DS)=zpc s (zlF,o1,o2,o3) cw by unfold zpc;rw[←hJ,if_neg (by simp),if_neg (by rw[h2];simp)]);rw[h2]at hlk;have c2:=H3.out.row.cell (j:=2) rfl;have f2:=H3.out.row.free (j:=2) (by simp[zdR]);have H4:=lhd (H3.out.set (s':={s with vn:=js}) 2 (.string (bsB js)) rfl rfl rfl rfl ⟨rfl,rfl,rfl⟩);obtain⟨we,r4,h4,q4⟩:=zav.put (t:=86) (H4.out.t.drew.drew) Tryz.underlying9 Tryz.underlying86 (znF _) (bsB zlF) (by rw[zbk];decide) (by rw[zbh];exact znD h2) (.bool true);have H9:=lhd (DPar.vers (H3.out.later (Below.refl _ _).drew.drew) js h2 (by rw[zbh]at h4;exact h4) q4)
   have hpb:pt≠c.B:=fun e=>by
    have h0:=H3.out.row.cell (j:=0) rfl;rw[e,h0]at p1;cases p1
   have hxb:W.heap.size≠c.B:=by have:=HLO.out.2;omega
   have HY:=lhd (show(w3.setCell ⟨c.B,2,none⟩ (.string (bsB js))).drew.cell? ⟨pt,0,none⟩=some (.pointer (some ⟨c.B,0,none⟩))∧(w3.setCell ⟨c.B,2,none⟩ (.string (bsB js))).drew.cell? ⟨W.heap.size,0,none⟩=some (.string (bsB zlF))∧(w3.setCell ⟨c.B,2,none⟩ (.string (bsB js))).drew.cell? ⟨c.B,6,none⟩=some (.map (some c.tb))from
    ⟨(World.cell?_setCell_far _ _ _ _ (Ne.symm hpb)).trans p1,(World.cell?_setCell_far _ _ _ _ (Ne.symm hxb)).trans x0,H4.out.row.cell (j:=6) rfl⟩)
   have HY9:=lhd (show we.cell? ⟨pt,0,none⟩=some (.pointer (some ⟨c.B,0,none⟩))∧we.cell? ⟨W.heap.size,0,none⟩=some (.string (bsB zlF))∧we.cell? ⟨c.B,6,none⟩=some (.map (some c.tb))from
    ⟨(H4.out.t.s.drew.drew.cells q4 HY.out.1).trans HY.out.1,(H4.out.t.s.drew.drew.cells q4 HY.out.2.1).trans HY.out.2.1,H9.out.row.cell (j:=6) rfl⟩)
   clear h2 hJ h4 q4 hpb hxb;go_wp2_with fail;go_region
   go_wp2_with fail;clear p1 p2 x0 x1 x2 x3 c6 c2 f2 hlk;generalize (w3.setCell ⟨c.B,2,none⟩ (.string (bsB js))).drew=w5 at*;refine wp_region_held_drew (S:=fun w'=>w'.cell? ⟨pt,0,none⟩=some (.pointer (some ⟨c.B,0,none⟩))∧w'.cell? ⟨W.heap.size,0,none⟩=some (.string (bsB zlF))∧w'.cell? ⟨c.B,6,none⟩=some (.map (some c.tb))) (by kernel_rfl) HY.out (fun hHeld=>?_);refine tkH 0 hHeld (v:=?_) ?_;simp only[tkS];refine tkH 1 hHeld (v:=?_) ?_;simp only[tkS];refine tkH 2 hHeld (v:=?_) ?_;simp only[tkS];refine tkH 3 hHeld (v:=?_) ?_;simp only[tkS];refine tkH 4 hHeld (v:=?_) ?_;simp only[tkS];refine tkH 5 hHeld (v:=?_) ?_;simp only[tkS];refine oneH 6 (fun K hK=>?_);go_simp;refine hK.out _ _ HY9.out (fun hHeld=>?_);clear hK;try simp only[tkS]
   refine wpAnyH_done (by kernel_rfl) ?_ _;clear hHeld;go_wp2_with fail;go_end0
   exact⟨rfl,_,_,_,HR.out▸H9.out⟩
 ·have hb:(je==0)=false:=by rw[beq_eq_false_iff_ne];exact h1
  have HR:=lhd (show s.prob je (zlF,o1,o2,o3)=zpc s (zlF,o1,o2,o3) cw by unfold zpc;rw[←hJ,if_pos h1]);clear h1 hJ;go_wp2_with fail;refine(zdz c _ _ _ _ je (zlF,o1,o2,o3) _ H3.out hl).mono ?_;rintro e w9 ⟨rfl,vS9,vD9,vr9,h9⟩;have H9:=lhd h9;clear h9;go_wp2_with fail;go_end0
  exact⟨rfl,_,_,_,HR.out▸H9.out⟩
theorem zdp (c:DC) (s:DS) (vS vD vr:Value) (pt tq:Nat) (w:Wd) (a:Option Addr) (cap:Nat) (cw:List Wd) (W:World) (h:DPar c s vS vD vr W) (hw:w.1=zlv) (hpt:W.cell? ⟨pt,0,none⟩=some (.pointer (some ⟨c.B,0,none⟩))) (hto:W.cell? ⟨tq,0,none⟩=some (.pointer (some ⟨c.B,3,none⟩)))
 (hs:SlR W (.slice a cw.length cap) cw.length (wds cw)) (hL:cw.length≤100000) (hx:∀x∈txt cw,x.length≤2000000) (hzj:(zgc (txt cw)).length≤2000000) (hl:s.wrong.length≤1000000):
 Calls Tryz.prog 137 #[wdV w,.slice a cw.length cap,.pointer (some ⟨pt,0,none⟩),.pointer (some ⟨tq,0,none⟩)] W (zad c (zb9 s w cw)):=by
 obtain⟨tx,o1,o2,o3⟩:=w;obtain rfl:tx=zlv:=hw;have HPT:=lhd (zbA hpt);have HTO:=lhd (zbA hto);have HS:=lhd (hs.below ((Below.refl W.heap.size W).alloc (Nat.le_refl _) (.cells #[.string (bsB zlv),.int .i64 o1,.int .i64 o2,.int .i64 o3] 58)));have p1:=zbz hpt (.cells #[.string (bsB zlv),.int .i64 o1,.int .i64 o2,.int .i64 o3] 58);have p2:=zbz hto (.cells #[.string (bsB zlv),.int .i64 o1,.int .i64 o2,.int .i64 o3] 58);clear hs hpt hto;have HLO:=lhd h.lo;have hal:Below W.heap.size W (W.alloc (.cells #[.string (bsB zlv),.int .i64 o1,.int .i64 o2,.int .i64 o3] 58)):=(Below.refl _ _).alloc (Nat.le_refl _) _;have hx:=zaq.fresh W #[.string (bsB zlv),.int .i64 o1,.int .i64 o2,.int .i64 o3] 58;have hz:W.heap.size<(W.alloc (.cells #[.string (bsB zlv),.int .i64 o1,.int .i64 o2,.int .i64 o3] 58)).heap.size:=by simp
 have H:=lhd (h.later hal);generalize hw1:W.alloc (.cells #[.string (bsB zlv),.int .i64 o1,.int .i64 o2,.int .i64 o3] 58)=w1 at*;have x0:=hx.cell (j:=0) rfl;have x1:=hx.cell (j:=1) rfl;have x2:=hx.cell (j:=2) rfl;have x3:=hx.cell (j:=3) rfl;clear h hal hx;have hz1:=hz;clear hz;go_enter Tryz.func137,Tryz.ntmps137;go_wp2_with fail;refine(zdw _ cw w1 HS.out hL).mono ?_;rintro e w2 ⟨v,rfl,ho,hb2⟩;have hjn:=zdv _ _ v (txt cw) w2 (by rw[zn2];exact ho) (by rw[zn2];exact hL) hx hzj;have HB2:=lhd hb2;clear ho hb2 hx hzj;obtain⟨J,hJ⟩:∃J,J=zgg (txt cw):=⟨_,rfl⟩;rw[←hJ]at hjn;obtain⟨js,je⟩:=J;have HJ:=lhd hjn;clear hjn;go_wp2_with fail;refine HJ.out.mono ?_;rintro e w3 ⟨rfl,hb3⟩;dsimp only;have HB3:=lhd (zd5 HB2.out hb3);have H3:=lhd (H.out.later HB3.out);have p1:=(HB3.out.cell (p:=⟨pt,0,none⟩) (by show pt<_;have:=HPT.out;omega)).trans p1;have p2:=(HB3.out.cell (p:=⟨tq,0,none⟩) (by show tq<_;have:=HTO.out;omega)).trans p2;have x0:=(HB3.out.cell (p:=⟨W.heap.size,0,none⟩) hz1).trans x0;have x1:=(HB3.out.cell (p:=⟨W.heap.size,1,none⟩) hz1).trans x1;have x2:=(HB3.out.cell (p:=⟨W.heap.size,2,none⟩) hz1).trans x2;have x3:=(HB3.out.cell (p:=⟨W.heap.size,3,none⟩) hz1).trans x3;by_cases h1:je=0
 ·subst h1;have hlk:=zdG H3.out.t.s.drew (x:=zlv) (by decide);have c6:=H3.out.row.cell (j:=6) rfl;rw[zny]at hlk;by_cases h2:s.cmd=true
  ·have HR:=lhd (show s=zb9 s (zlv,o1,o2,o3) cw by unfold zb9;rw[←hJ,if_neg (by simp),if_pos h2]);rw[h2]at hlk;have H9:=lhd (H3.out.later (Below.refl _ _).drew);clear h2 hJ;go_wp2_with fail;go_region
   go_wp2_with fail;go_end0
   exact⟨rfl,_,_,_,HR.out▸H9.out⟩
  ·have h2:s.cmd=false:=by simpa using h2
   have HR:=lhd (show({s with cm:=js,cmd:=true}:DS)=zb9 s (zlv,o1,o2,o3) cw by unfold zb9;rw[←hJ,if_neg (by simp),if_neg (by rw[h2];simp)]);rw[h2]at hlk;have c3:=H3.out.row.cell (j:=3) rfl;have f3:=H3.out.row.free (j:=3) (by simp[zdR]);have H4:=lhd (H3.out.set (s':={s with cm:=js}) 3 (.string (bsB js)) rfl rfl rfl rfl ⟨rfl,rfl,rfl⟩);obtain⟨we,r4,h4,q4⟩:=zav.put (t:=86) (H4.out.t.drew.drew) Tryz.underlying9 Tryz.underlying86 (znF _) (bsB zlv) (by rw[zbk];decide) (by rw[zbh];exact znB h2) (.bool true);have H9:=lhd (DPar.comm (H3.out.later (Below.refl _ _).drew.drew) js h2 (by rw[zbh]at h4;exact h4) q4)
   have hpb:pt≠c.B:=fun e=>by
    have h0:=H3.out.row.cell (j:=0) rfl;rw[e,h0]at p1;cases p1
   have hxb:W.heap.size≠c.B:=by have:=HLO.out.2;omega
   have HY:=lhd (show(w3.setCell ⟨c.B,3,none⟩ (.string (bsB js))).drew.cell? ⟨pt,0,none⟩=some (.pointer (some ⟨c.B,0,none⟩))∧(w3.setCell ⟨c.B,3,none⟩ (.string (bsB js))).drew.cell? ⟨W.heap.size,0,none⟩=some (.string (bsB zlv))∧(w3.setCell ⟨c.B,3,none⟩ (.string (bsB js))).drew.cell? ⟨c.B,6,none⟩=some (.map (some c.tb))from
    ⟨(World.cell?_setCell_far _ _ _ _ (Ne.symm hpb)).trans p1,(World.cell?_setCell_far _ _ _ _ (Ne.symm hxb)).trans x0,H4.out.row.cell (j:=6) rfl⟩)
   have HY9:=lhd (show we.cell? ⟨pt,0,none⟩=some (.pointer (some ⟨c.B,0,none⟩))∧we.cell? ⟨W.heap.size,0,none⟩=some (.string (bsB zlv))∧we.cell? ⟨c.B,6,none⟩=some (.map (some c.tb))from
    ⟨(H4.out.t.s.drew.drew.cells q4 HY.out.1).trans HY.out.1,(H4.out.t.s.drew.drew.cells q4 HY.out.2.1).trans HY.out.2.1,H9.out.row.cell (j:=6) rfl⟩)
   clear h2 hJ h4 q4 hpb hxb;go_wp2_with fail;go_region
   go_wp2_with fail;clear p1 p2 x0 x1 x2 x3 c6 c3 f3 hlk;generalize (w3.setCell ⟨c.B,3,none⟩ (.string (bsB js))).drew=w5 at*;refine wp_region_held_drew (S:=fun w'=>w'.cell? ⟨pt,0,none⟩=some (.pointer (some ⟨c.B,0,none⟩))∧w'.cell? ⟨W.heap.size,0,none⟩=some (.string (bsB zlv))∧w'.cell? ⟨c.B,6,none⟩=some (.map (some c.tb))) (by kernel_rfl) HY.out (fun hHeld=>?_);refine tkH 0 hHeld (v:=?_) ?_;simp only[tkS];refine tkH 1 hHeld (v:=?_) ?_;simp only[tkS];refine tkH 2 hHeld (v:=?_) ?_;simp only[tkS];refine tkH 3 hHeld (v:=?_) ?_;simp only[tkS];refine tkH 4 hHeld (v:=?_) ?_;simp only[tkS];refine tkH 5 hHeld (v:=?_) ?_;simp only[tkS];refine oneH 6 (fun K hK=>?_);go_simp;refine hK.out _ _ HY9.out (fun hHeld=>?_);clear hK;try simp only[tkS]
   refine wpAnyH_done (by kernel_rfl) ?_ _;clear hHeld;go_wp2_with fail;go_end0
   exact⟨rfl,_,_,_,HR.out▸H9.out⟩
 ·have hb:(je==0)=false:=by rw[beq_eq_false_iff_ne];exact h1
  have HR:=lhd (show s.prob je (zlv,o1,o2,o3)=zb9 s (zlv,o1,o2,o3) cw by unfold zb9;rw[←hJ,if_pos h1]);clear h1 hJ;go_wp2_with fail;refine(zdz c _ _ _ _ je (zlv,o1,o2,o3) _ H3.out hl).mono ?_;rintro e w9 ⟨rfl,vS9,vD9,vr9,h9⟩;have H9:=lhd h9;clear h9;go_wp2_with fail;go_end0
  exact⟨rfl,_,_,_,HR.out▸H9.out⟩
theorem zcc (B T:Nat) (v:Value) (L:List Bs) (w:World) (ho:w.ownsRow B T 1 v L.length (strs L)) (hL:L.length≤100000) (hz:(zgc L).length≤140737488355328):
 Calls Tryz.prog 72 #[v,.string ⟨#[32]⟩] w fun e w'=>e=.returned (.string (bsB (zgc L)))∧Below w.heap.size w w':=by
 rcases Nat.eq_zero_or_pos L.length with h0|h0
 ·obtain rfl:L=[]:=List.length_eq_zero_iff.1 h0;obtain⟨a,cap,rfl,-,-⟩:=(SlR.of_own ho).shape;refine(Tryz.strings_Join_none a cap ⟨#[32]⟩ w).mono ?_;rintro e w1 ⟨rfl,rfl⟩;exact⟨rfl,Below.refl _ _⟩
 ·obtain⟨g,c,rfl,hc,-,hg,hcell⟩:=zjd ho h0
  have hq:=Tryz.strings_Join g 0 c (L.map bsB) ⟨#[32]⟩ w (fun j x h=>by
   rw[Nat.zero_add];refine hcell j _ ?_;rw[List.getElem?_map]at h;obtain⟨y,hy,rfl⟩:=Option.map_eq_some_iff.1 h;simp[strs,strV,hy]) hg (by rw[List.length_map];omega) (by rw[List.length_map];exact hc) (by
   show(Lib.join ((L.map bsB).map (·.data.toList)) [32]).length≤_;rw[zhe,←zgi];exact hz)
  rw[List.length_map,show Lib.join ((L.map bsB).map (·.data.toList)) (⟨#[32]⟩:ByteArray).data.toList=zgc L by rw[zhe,zgi]]at hq;exact hq
theorem zdH (c:DC) (s:DS) (vS vD vr:Value) (w:Wd) (a:Option Addr) (cap:Nat) (cw:List Wd) (W:World) (h:DPar c s vS vD vr W) (hg:Glob W) (hm:Glm W)
 (hs:SlR W (.slice a cw.length cap) cw.length (wds cw)) (hL:cw.length≤100000) (hzj:(zgc (txt cw)).length≤2000000) (hl:s.wrong.length≤1000000):
 Calls Tryz.prog 89 #[.pointer (some ⟨c.B,0,none⟩),wdV w,.slice a cw.length cap] W (zad c (zlQ s w cw)):=by
 obtain⟨tx,o1,o2,o3⟩:=w;have hba:=(Below.refl W.heap.size W).alloc (Nat.le_refl _) (.cells #[.string (bsB tx),.int .i64 o1,.int .i64 o2,.int .i64 o3] 58);have HS:=lhd (hs.below hba);have HG:=lhd (hg.below hba);have HM:=lhd (hm.below hba);have HLO:=lhd h.lo;clear hs hba hg hm;have hal:Below W.heap.size W (W.alloc (.cells #[.string (bsB tx),.int .i64 o1,.int .i64 o2,.int .i64 o3] 58)):=(Below.refl _ _).alloc (Nat.le_refl _) _;have hx:=zaq.fresh W #[.string (bsB tx),.int .i64 o1,.int .i64 o2,.int .i64 o3] 58;have hz:W.heap.size<(W.alloc (.cells #[.string (bsB tx),.int .i64 o1,.int .i64 o2,.int .i64 o3] 58)).heap.size:=by simp
 have H:=lhd (h.later hal);generalize hw1:W.alloc (.cells #[.string (bsB tx),.int .i64 o1,.int .i64 o2,.int .i64 o3] 58)=w1 at*;have x0:=hx.cell (j:=0) rfl;have x1:=hx.cell (j:=1) rfl;have x2:=hx.cell (j:=2) rfl;have x3:=hx.cell (j:=3) rfl;clear h hal hx;have hz1:=hz;clear hz;go_enter Tryz.func89,Tryz.ntmps89;go_wp2_with fail;refine(zdw _ cw w1 HS.out hL).mono ?_;rintro e w2 ⟨v,rfl,ho,hb2⟩;have hjn:=zcc _ _ v (txt cw) w2 (by rw[zn2];exact ho) (by rw[zn2];exact hL) (by omega);have HB2:=lhd hb2;have HJ:=lhd hjn;clear ho hb2 hjn;go_wp2_with fail;refine HJ.out.mono ?_;rintro e w3 ⟨rfl,hb3⟩;have HB3:=lhd (zd5 HB2.out hb3);have HP:=lhd (znR (zgc (txt cw)) w3 (HG.out.below HB3.out) (HM.out.below HB3.out));obtain⟨R,hR⟩:∃R,R=zlR (zgc (txt cw)):=⟨_,rfl⟩;rw[←hR]at HP;obtain⟨n,je⟩:=R;clear hb3 HJ;go_wp2_with fail;refine HP.out.mono ?_;rintro e w4 ⟨rfl,hb4⟩;dsimp only;have HB4:=lhd (zd5 HB3.out hb4);have H3:=lhd (H.out.later HB4.out);have x0:=(HB4.out.cell (p:=⟨W.heap.size,0,none⟩) hz1).trans x0;have x1:=(HB4.out.cell (p:=⟨W.heap.size,1,none⟩) hz1).trans x1;have x2:=(HB4.out.cell (p:=⟨W.heap.size,2,none⟩) hz1).trans x2;have x3:=(HB4.out.cell (p:=⟨W.heap.size,3,none⟩) hz1).trans x3;clear hb4;by_cases h1:je=0
 ·subst h1;have c2:=H3.out.row.cell (j:=7) rfl;by_cases h2:s.scd=true
  ·have HR:=lhd (show s=zlQ s (tx,o1,o2,o3) cw by unfold zlQ;rw[←hR,if_neg (by simp),if_pos h2]);rw[h2]at c2;clear h2 hR;go_wp2_with fail;go_end0
   exact⟨rfl,_,_,_,HR.out▸H3.out⟩
  ·have h2:s.scd=false:=by simpa using h2
   have HR:=lhd (show({s with sc:=n,scd:=true}:DS)=zlQ s (tx,o1,o2,o3) cw by unfold zlQ;rw[←hR,if_neg (by simp),if_neg (by rw[h2];simp)]);rw[h2]at c2;have c0:=H3.out.row.cell (j:=0) rfl;have f0:=H3.out.row.free (j:=0) (by simp[zdR]);have f2:=H3.out.row.free (j:=7) (by simp[zdR]);have H4:=lhd ((H3.out.set (s':={s with sc:=n}) 0 (.int .i64 n) rfl rfl rfl rfl ⟨rfl,rfl,rfl⟩).set (s':={s with sc:=n,scd:=true}) 7 (.bool true) rfl rfl rfl rfl ⟨rfl,rfl,rfl⟩);clear h2 hR;go_wp2_with fail;go_end0
   exact⟨rfl,_,_,_,HR.out▸H4.out⟩
 ·have hb:(je==0)=false:=by rw[beq_eq_false_iff_ne];exact h1
  have HR:=lhd (show s.prob 3 (tx,o1,o2,o3)=zlQ s (tx,o1,o2,o3) cw by unfold zlQ;rw[←hR,if_pos h1]);clear h1 hR;go_wp2_with fail;refine(zdz c _ _ _ _ 3 (tx,o1,o2,o3) _ H3.out hl).mono ?_;rintro e w9 ⟨rfl,vS9,vD9,vr9,h9⟩;have H9:=lhd h9;clear h9;go_wp2_with fail;go_end0
  exact⟨rfl,_,_,_,HR.out▸H9.out⟩
theorem zdu (c:DC) (s:DS) (vS vD vr:Value) (w:Wd) (a:Option Addr) (cap:Nat) (cw:List Wd) (W:World) (h:DPar c s vS vD vr W) (hl:s.wrong.length≤1000000):
 Calls Tryz.prog 93 #[.pointer (some ⟨c.B,0,none⟩),wdV w,.slice a cw.length cap] W (zad c (endD s w cw)):=by
 obtain⟨tx,o1,o2,o3⟩:=w;have hal:Below W.heap.size W (W.alloc (.cells #[.string (bsB tx),.int .i64 o1,.int .i64 o2,.int .i64 o3] 58)):=(Below.refl _ _).alloc (Nat.le_refl _) _;have hx:=zaq.fresh W #[.string (bsB tx),.int .i64 o1,.int .i64 o2,.int .i64 o3] 58;have hz:W.heap.size<(W.alloc (.cells #[.string (bsB tx),.int .i64 o1,.int .i64 o2,.int .i64 o3] 58)).heap.size:=by simp
 have H:=lhd (h.later hal);generalize hw1:W.alloc (.cells #[.string (bsB tx),.int .i64 o1,.int .i64 o2,.int .i64 o3] 58)=w1 at*;have x0:=hx.cell (j:=0) rfl;have x1:=hx.cell (j:=1) rfl;have x2:=hx.cell (j:=2) rfl;have x3:=hx.cell (j:=3) rfl;clear h hal hx;have c11:=H.out.row.cell (j:=11) rfl;have f11:=H.out.row.free (j:=11) (by simp[zdR]);have H2:=lhd (H.out.set (s':={s with ended:=true}) 11 (.bool true) rfl rfl rfl rfl ⟨rfl,rfl,rfl⟩);by_cases h0:0<cw.length
 ·have HR:=lhd (show({s with ended:=true}:DS).prob 3 (tx,o1,o2,o3)=endD s (tx,o1,o2,o3) cw by unfold endD;rw[if_pos h0]);go_enter Tryz.func93,Tryz.ntmps93;go_wp2_with fail;refine(zdz c _ _ _ _ 3 (tx,o1,o2,o3) _ H2.out hl).mono ?_;rintro e w9 ⟨rfl,vS9,vD9,vr9,h9⟩;have H9:=lhd h9;clear h9;go_wp2_with fail;go_end0
  exact⟨rfl,_,_,_,HR.out▸H9.out⟩
 ·have HR:=lhd (show({s with ended:=true}:DS)=endD s (tx,o1,o2,o3) cw by unfold endD;rw[if_neg h0]);go_enter Tryz.func93,Tryz.ntmps93;go_wp2_with fail;go_end0
  exact⟨rfl,_,_,_,HR.out▸H2.out⟩
theorem zdJ (c:DC) (s:DS) (vS vD vr:Value) (w:Wd) (a:Option Addr) (cap:Nat) (cw:List Wd) (W:World) (h:DPar c s vS vD vr W) (hv:VP s) (hl:s.wrong.length≤1000000) (hk:s.skip≤1000000):
 Calls Tryz.prog 91 #[.pointer (some ⟨c.B,0,none⟩),wdV w,.slice a cw.length cap] W (zad c (upP s w cw)):=by
 obtain⟨tx,o1,o2,o3⟩:=w;obtain⟨aS,cS,rfl,-,-⟩:=(SlR.of_own h.S).shape;have hal:Below W.heap.size W (W.alloc (.cells #[.string (bsB tx),.int .i64 o1,.int .i64 o2,.int .i64 o3] 58)):=(Below.refl _ _).alloc (Nat.le_refl _) _;have hx:=zaq.fresh W #[.string (bsB tx),.int .i64 o1,.int .i64 o2,.int .i64 o3] 58;have hz:W.heap.size<(W.alloc (.cells #[.string (bsB tx),.int .i64 o1,.int .i64 o2,.int .i64 o3] 58)).heap.size:=by simp
 have H:=lhd (h.later hal);generalize hw1:W.alloc (.cells #[.string (bsB tx),.int .i64 o1,.int .i64 o2,.int .i64 o3] 58)=w1 at*;have x0:=hx.cell (j:=0) rfl;have x1:=hx.cell (j:=1) rfl;have x2:=hx.cell (j:=2) rfl;have x3:=hx.cell (j:=3) rfl;clear h hal hx;have c4:=H.out.row.cell (j:=4) rfl;have c8:=H.out.row.cell (j:=8) rfl;have f8:=H.out.row.free (j:=8) (by simp[zdR]);have c9:=H.out.row.cell (j:=9) rfl;have f9:=H.out.row.free (j:=9) (by simp[zdR]);by_cases h0:0<s.skip
 ·have hw0:IntKind.i64.wrap (s.skip-1)=s.skip-1:=IntWalk.i64_in _ (by omega);have HR:=lhd (show({s with skip:=s.skip-1}:DS)=upP s (tx,o1,o2,o3) cw by unfold upP;rw[if_pos h0]);have H2:=lhd (H.out.set (s':={s with skip:=s.skip-1}) 9 (.int .i64 (s.skip-1)) rfl rfl rfl rfl ⟨rfl,rfl,rfl⟩);go_enter Tryz.func91,Tryz.ntmps91;go_wp2_with fail;go_end0
  exact⟨rfl,_,_,_,HR.out▸H2.out⟩
 by_cases h1:s.now<0
 ·have HR:=lhd (show s.prob 10 (tx,o1,o2,o3)=upP s (tx,o1,o2,o3) cw by unfold upP;rw[if_neg h0,if_pos h1]);go_enter Tryz.func91,Tryz.ntmps91;go_wp2_with fail;refine(zdz c _ _ _ _ 10 (tx,o1,o2,o3) _ H.out hl).mono ?_;rintro e w9 ⟨rfl,vS9,vD9,vr9,h9⟩;have H9:=lhd h9;clear h9;go_wp2_with fail;go_end0
  exact⟨rfl,_,_,_,HR.out▸H9.out⟩
 have hnw:=hv.nw;obtain⟨k,hk2⟩:∃k:Nat,s.now=(k:Int):=⟨s.now.toNat,by omega⟩;have hkl:k<s.S.length:=by omega
 obtain⟨b,o,rfl,hcell⟩:=SlR.scs (SlR.of_own H.out.S) hkl;have hp:=hcell 2 _ rfl;have H2:=lhd (H.out.set (s':={s with now:=s.S[k].2.2}) 8 (.int .i64 s.S[k].2.2) rfl rfl rfl rfl ⟨rfl,rfl,rfl⟩);have HP:=lhd (show parS s.S s.now.toNat=s.S[k].2.2 by rw[hk2,Int.toNat_natCast];exact zjD hkl);by_cases h2:0<cw.length
 ·have HR:=lhd (show({s with now:=s.S[k].2.2}:DS).prob 3 (tx,o1,o2,o3)=upP s (tx,o1,o2,o3) cw by unfold upP;rw[if_neg h0,if_neg h1,HP.out];dsimp only;rw[if_pos h2]);rw[hk2]at c8 h1;clear hk2 hnw hcell HP;generalize s.S[k].2.2=pp at*;go_enter Tryz.func91,Tryz.ntmps91;go_wp2_with fail;go_region
  go_wp2_with fail;refine(zdz c _ _ _ _ 3 (tx,o1,o2,o3) _ (H2.out.later ((Below.refl _ _).drew)) hl).mono ?_;rintro e w9 ⟨rfl,vS9,vD9,vr9,h9⟩;have H9:=lhd h9;clear h9;go_wp2_with fail;go_end0
  exact⟨rfl,_,_,_,HR.out▸H9.out⟩
 ·have HR:=lhd (show({s with now:=s.S[k].2.2}:DS)=upP s (tx,o1,o2,o3) cw by unfold upP;rw[if_neg h0,if_neg h1,HP.out];dsimp only;rw[if_neg h2]);rw[hk2]at c8 h1;clear hk2 hnw hcell HP;generalize s.S[k].2.2=pp at*;go_enter Tryz.func91,Tryz.ntmps91;go_wp2_with fail;go_region
  go_wp2_with fail;go_end0
  exact⟨rfl,_,_,_,HR.out▸(H2.out.later ((Below.refl _ _).drew))⟩
theorem zon {S:List Sc} (hF:Fst (parS S) S.length) {j:Nat} (hj:j<S.length):(upL S (S.length+1) (j:Int)).length=(upL S (S.length+1) S[j].2.2).length+1:=by
 have h1:upL S (S.length+1) (j:Int)=j::upL S S.length S[j].2.2:=by
  rw[upL,if_neg (by omega),Int.toNat_natCast,List.getElem?_eq_getElem hj]
 rw[h1,List.length_cons];have h2:=hF j hj;rw[zjD hj]at h2;have h3:=zoi hF S.length (S.length+1) S[j].2.2 (by omega);have h4:=zoi hF (S.length+1) S.length S[j].2.2 (by omega);omega
theorem zok (S:List Sc) (f:Nat) {q:Int} (h:q<0):upL S f q=[]:=by
 cases f with
 |zero=>rfl
 |succ f=>rw[upL,if_pos h]
theorem zdt (c:DC) (s:DS) (vS vD vr:Value) (W:World) (h:DPar c s vS vD vr W) (hv:VP s):
 Calls Tryz.prog 172 #[.pointer (some ⟨c.B,0,none⟩)] W fun e w'=>e=.returned (.int .i64 (zdb s.S s.now:Nat))∧W=w':=by
 obtain⟨aS,cS,rfl,hcS,hmS⟩:=(SlR.of_own h.S).shape;have HS:=lhd (SlR.of_own h.S);have HF:=lhd hv.sf;have hN:=hv.sn;have HN:=lhd hv.nw;have c4:=h.row.cell (j:=4) rfl;have c8:=h.row.cell (j:=8) rfl;have HD:=lhd (show(0:Int)+(upL s.S (s.S.length+1) s.now).length=(zdb s.S s.now:Nat)by unfold zdb;omega)
 have hd40:zdb s.S s.now≤40:=by
  unfold zdb;by_cases h0:s.now<0
  ·rw[zok _ _ h0];simp
  ·have hnw:=hv.nw;have h1:=hv.su s.now.toNat (by omega);have h2:=zoi hv.sf (s.S.length+1) (s.now.toNat+1) s.now (by omega);rw[show((s.now.toNat:Nat):Int)=s.now by omega]at h1;omega
 generalize zdb s.S s.now=dd at*;clear h hv;go_enter Tryz.func172,Tryz.ntmps172;go_wp2_with fail
 go_loopw [3,4] (fun n u wr=>∃(i:Int) (k:Nat),n=.int .i64 k∧u=.int .i64 i∧ -1≤i∧i<(s.S.length:Int)∧(k:Int)+(upL s.S (s.S.length+1) i).length=(dd:Nat)∧W=wr)
  (fun _ u _=>(intOf u+1).toNat)
 case atStart=>exact⟨s.now,0,rfl,rfl,HN.out.1,HN.out.2,HD.out,rfl⟩
 case round=>
  obtain⟨i,k,rfl,rfl,h1,h2,h3,rfl⟩:=hrel;by_cases hi:0≤i
  ·obtain⟨j,rfl⟩:∃j:Nat,i=(j:Int):=⟨i.toNat,by omega⟩;have hjl:j<s.S.length:=by omega
   obtain⟨b,o,rfl,hcell⟩:=HS.out.scs hjl;have d2:W.cell? ⟨b,o+j*3+2,none⟩=some (.int .i64 s.S[j].2.2):=hcell 2 _ rfl;have hfs:=HF.out j hjl;rw[zjD hjl]at hfs;rw[zon HF.out hjl]at h3;have HNX:=lhd h3;have hk:k≤40:=by omega
   clear h3;generalize s.S[j].2.2=x at*;clear hcell;have hw1:IntKind.i64.wrap ((k:Int)+1)=(k:Int)+1:=IntWalk.i64_in _ (by omega);go_wp2_with fail;go_roundw;case rel=>exact⟨x,k+1,by go_num,rfl,hfs.1,by omega,by have:=HNX.out;omega,by first|trivial|rfl⟩
   case measure=>simp[intOf];omega
  ·rw[zok _ _ (by omega)]at h3;have h3:(k:Int)=(dd:Int):=by simpa using h3
   go_wp2_with fail;go_ret;exact⟨rfl,rfl⟩
def fixI {α:Type} (p:α→Bool) (L:List α):Int:=match L.findIdx? p with
 |some k=>(k:Int)
 |none=> -1
theorem zea {α:Type} {p:α→Bool} {L:List α} {j:Nat} (hj:j<L.length) (hp:p L[j]=true) (hne:∀i,∀hi:i<L.length,i<j→p L[i]=false):fixI p L=(j:Int):=by
 unfold fixI;rw[List.findIdx?_eq_some_iff_findIdx_eq.2 ⟨hj,(List.findIdx_eq hj).2 ⟨hp,fun i hi=>hne i (by omega) hi⟩⟩]
theorem zeb {α:Type} {p:α→Bool} {L:List α} (hne:∀i,∀hi:i<L.length,p L[i]=false):fixI p L= -1:=by
 unfold fixI
 rw[List.findIdx?_eq_none_iff.2 fun x hx=>by
  obtain⟨i,hi,rfl⟩:=List.mem_iff_getElem.1 hx;exact hne i hi]
theorem zf3 (pt:Nat) (p:Sc→Bool) (v:Value) (L:List Sc) (w:World) (hs:SlR w v L.length (scs L))
 (hF:∀x∈L,∀W,Below w.heap.size w W→Calls Tryz.prog 171 #[scV x,.pointer (some ⟨pt,0,none⟩)] W fun e w'=>e=.returned (.bool (p x))∧Below W.heap.size W w'):
 Calls Tryz.prog 148 #[v,.func (.func 171) #[] #[.pointer (some ⟨pt,0,none⟩)]] w fun e w'=>e=.returned (.int .i64 (fixI p L))∧Below w.heap.size w w':=by
 obtain⟨a,cap,rfl,hc,hm⟩:=hs.shape;unfold maxLen at hm;have HS:=lhd hs;have HF:=lhd hF;obtain⟨R,hR⟩:∃R,R=fixI p L:=⟨_,rfl⟩;rw[←hR];have HRR:=lhd hR;clear hs hF hR;go_enter Tryz.func148,Tryz.ntmps148;go_wp2_with fail;go_loopw [8] (fun i wr=>∃j:Nat,j≤L.length∧i=.int .i64 j∧(∀i,∀hi:i<L.length,i<j→p L[i]=false)∧Below w.heap.size w wr) (fun i _=>L.length-(intOf i).toNat)
 case atStart=>exact⟨0,Nat.zero_le _,rfl,fun i _ h=>absurd h (Nat.not_lt_zero _),Below.refl _ _⟩
 case round=>
  obtain⟨j,hj,rfl,hgo,hb⟩:=hrel;have HGO:=lhd hgo;have HB:=lhd hb;clear hgo hb;by_cases hlt:j<L.length
  ·obtain⟨b,o,rfl,hcell⟩:=(HS.out.below HB.out).scs hlt;have HC:=lhd (fun W hW=>HF.out L[j] (List.getElem_mem hlt) W hW);have HT:=lhd (fun(h:p L[j]=true)=>HRR.out.trans (zea hlt h HGO.out))
   have HN:=lhd (show p L[j]=false→∀i,∀hi:i<L.length,i<j+1→p L[i]=false from fun h i hi hij=>by
    rcases Nat.lt_or_ge i j with h1|h1
    ·exact HGO.out i hi h1
    ·obtain rfl:i=j:=by omega
     exact h)
   generalize L[j]=x at hcell HC HT HN;obtain⟨px,hpx⟩:∃px,px=p x:=⟨_,rfl⟩;rw[←hpx]at HC HT HN;clear hpx;obtain⟨nm,ty,pa⟩:=x;have d0:wr.cell? ⟨b,o+j*3,none⟩=some (.string (bsB nm)):=hcell 0 _ rfl;have d1:wr.cell? ⟨b,o+j*3+1,none⟩=some (.int .i64 ty):=hcell 1 _ rfl;have d2:wr.cell? ⟨b,o+j*3+2,none⟩=some (.int .i64 pa):=hcell 2 _ rfl;clear hcell;go_wp2_with fail;refine(HC.out _ HB.out).mono ?_;rintro e w1 ⟨rfl,hb1⟩;have HB1:=lhd (zd5 HB.out hb1);clear hb1;cases px
   ·have HN2:=lhd (HN.out rfl);go_wp2_with fail;go_roundw;case rel=>exact⟨j+1,by omega,by go_num,HN2.out,HB1.out⟩
    case measure=>simp[intOf];omega
   ·obtain rfl:R=(j:Int):=HT.out rfl;go_wp2_with fail;go_ret;exact⟨rfl,HB1.out⟩
  ·obtain rfl:R= -1:=HRR.out.trans (zeb fun i hi=>HGO.out i hi (by omega));go_wp2_with fail;go_ret;exact⟨rfl,HB.out⟩
theorem zbR (pt:Nat) (n0:Bs) (t0 p0:Int) (x:Sc) (W:World) (hr:zaq W pt [.string (bsB n0),.int .i64 t0,.int .i64 p0]) (hp:pt<W.heap.size):
 Calls Tryz.prog 171 #[scV x,.pointer (some ⟨pt,0,none⟩)] W fun e w'=>e=.returned (.bool (decide (x.2.2=p0)&&decide (x.1=n0)))∧Below W.heap.size W w':=by
 obtain⟨nm,ty,pa⟩:=x;have hal:Below W.heap.size W (W.alloc (.cells #[.string (bsB nm),.int .i64 ty,.int .i64 pa] 84)):=(Below.refl _ _).alloc (Nat.le_refl _) _;have hx:=zaq.fresh W #[.string (bsB nm),.int .i64 ty,.int .i64 pa] 84;have hr2:=hr.below hal hp;generalize hw1:W.alloc (.cells #[.string (bsB nm),.int .i64 ty,.int .i64 pa] 84)=w1 at*;have x0:=hx.cell (j:=0) rfl;have x2:=hx.cell (j:=2) rfl;have r0:=hr2.cell (j:=0) rfl;have r2:=hr2.cell (j:=2) rfl;have HB:=lhd hal;clear hal hx hr2 hr;by_cases h1:pa=p0
 ·subst h1;by_cases h2:nm=n0
  ·subst h2;rw[decide_eq_true rfl,decide_eq_true rfl];go_enter Tryz.func171,Tryz.ntmps171;go_wp2_with fail;go_ret;exact⟨rfl,HB.out⟩
  ·have hb:=zbi h2;rw[decide_eq_true rfl,decide_eq_false h2];clear h2;go_enter Tryz.func171,Tryz.ntmps171;go_wp2_with fail;go_ret;exact⟨rfl,HB.out⟩
 ·have hb:(pa==p0)=false:=by rw[beq_eq_false_iff_ne];exact h1
  rw[decide_eq_false h1];clear h1;go_enter Tryz.func171,Tryz.ntmps171;go_wp2_with fail;go_ret;exact⟨rfl,HB.out⟩
def ziL (s:DS) (w:Wd) (cw:List Wd):DS×Int×Wd:=match ziH s w cw with
 |some e=>(s,e.1,e.2)
 |none=>(ziM s cw,0,w)
def zcX (s:DS) (w:Wd) (cw:List Wd):DS×Int×Wd:=match zc7 s w cw with
 |some e=>(s,e.1,e.2)
 |none=>({s with D:=s.D++ [dclF s cw]},0,w)
def zam (c:DC) (r:DS×Int×Wd) (e:Ending) (w':World):Prop:=e=.returned (.tuple #[.int .i64 r.2.1,wdV r.2.2])∧∃vS vD vr,DPar c r.1 vS vD vr w'
theorem ziJ {s:DS} {w:Wd} {cw:List Wd} {e:Int×Wd} (h:ziH s w cw=some e):e.1≠0:=by
 unfold ziH at h;split at h
 ·injection h with h;subst h;simp
 split at h
 ·injection h with h;subst h;simp
 split at h
 ·injection h with h;subst h;simp
 split at h
 ·split at h
  ·injection h with h;subst h;simp
  ·cases h
 ·split at h
  ·injection h with h;subst h;simp
  ·cases h
theorem zdA (c:DC) (s:DS) (vS vD vr:Value) (w:Wd) (a:Option Addr) (cap:Nat) (cw:List Wd) (W:World) (h:DPar c s vS vD vr W) (hl:s.wrong.length≤1000000) (hk:s.skip≤1000000)
 (hO:∀W1,Below W.heap.size W W1→Calls Tryz.prog 141 #[.pointer (some ⟨c.B,0,none⟩),wdV w,.slice a cw.length cap] W1 (zam c (ziL s w cw))):
 Calls Tryz.prog 90 #[.pointer (some ⟨c.B,0,none⟩),wdV w,.slice a cw.length cap] W (zad c (zl1 s w cw)):=by
 obtain⟨tx,o1,o2,o3⟩:=w;have HO:=lhd (hO _ ((Below.refl W.heap.size W).alloc (Nat.le_refl _) (.cells #[.string (bsB tx),.int .i64 o1,.int .i64 o2,.int .i64 o3] 58)));clear hO;have hal:Below W.heap.size W (W.alloc (.cells #[.string (bsB tx),.int .i64 o1,.int .i64 o2,.int .i64 o3] 58)):=(Below.refl _ _).alloc (Nat.le_refl _) _;have hx:=zaq.fresh W #[.string (bsB tx),.int .i64 o1,.int .i64 o2,.int .i64 o3] 58;have hz:W.heap.size<(W.alloc (.cells #[.string (bsB tx),.int .i64 o1,.int .i64 o2,.int .i64 o3] 58)).heap.size:=by simp
 have H:=lhd (h.later hal);generalize hw1:W.alloc (.cells #[.string (bsB tx),.int .i64 o1,.int .i64 o2,.int .i64 o3] 58)=w1 at*;have x0:=hx.cell (j:=0) rfl;have x1:=hx.cell (j:=1) rfl;have x2:=hx.cell (j:=2) rfl;have x3:=hx.cell (j:=3) rfl;clear h hal hx;have c9:=H.out.row.cell (j:=9) rfl;have f9:=H.out.row.free (j:=9) (by simp[zdR]);by_cases h0:0<s.skip
 ·have hw0:IntKind.i64.wrap (s.skip+1)=s.skip+1:=IntWalk.i64_in _ (by omega);have HR:=lhd (show({s with skip:=s.skip+1}:DS)=zl1 s (tx,o1,o2,o3) cw by unfold zl1;rw[if_pos h0]);have H2:=lhd (H.out.set (s':={s with skip:=s.skip+1}) 9 (.int .i64 (s.skip+1)) rfl rfl rfl rfl ⟨rfl,rfl,rfl⟩);go_enter Tryz.func90,Tryz.ntmps90;go_wp2_with fail;go_end0
  exact⟨rfl,_,_,_,HR.out▸H2.out⟩
 cases ho:ziH s (tx,o1,o2,o3) cw with
 |none=>
  have hr:ziL s (tx,o1,o2,o3) cw=(ziM s cw,0,(tx,o1,o2,o3)):=by unfold ziL;rw[ho]
  have HR:=lhd (show ziM s cw=zl1 s (tx,o1,o2,o3) cw by unfold zl1;rw[if_neg h0,ho]);rw[hr]at HO;clear ho hr;go_enter Tryz.func90,Tryz.ntmps90;go_wp2_with fail;refine HO.out.mono ?_;rintro e w2 ⟨rfl,vS2,vD2,vr2,h2⟩;have H2:=lhd h2;clear h2;go_wp2_with fail;go_end0
  exact⟨rfl,_,_,_,HR.out▸(H2.out.later ((Below.refl _ _).alloc (Nat.le_refl _) _))⟩
 |some e=>
  have hne:=ziJ ho;obtain⟨ec,t9,q1,q2,q3⟩:=e;have hr:ziL s (tx,o1,o2,o3) cw=(s,ec,(t9,q1,q2,q3)):=by unfold ziL;rw[ho]
  have HR:=lhd (show({s.prob ec (t9,q1,q2,q3)with skip:=1}:DS)=zl1 s (tx,o1,o2,o3) cw by unfold zl1;rw[if_neg h0,ho]);rw[hr]at HO;have hb:(ec==0)=false:=by rw[beq_eq_false_iff_ne];exact hne
  clear ho hr hne;go_enter Tryz.func90,Tryz.ntmps90;go_wp2_with fail;refine HO.out.mono ?_;rintro e w2 ⟨rfl,vS2,vD2,vr2,h2⟩;have H2:=lhd (h2.later ((Below.refl _ _).alloc (Nat.le_refl _) (.cells #[.string (bsB t9),.int .i64 q1,.int .i64 q2,.int .i64 q3] 58)));clear h2;go_wp2_with fail;refine(zdz c _ _ _ _ ec (t9,q1,q2,q3) _ H2.out hl).mono ?_;rintro e w9 ⟨rfl,vS9,vD9,vr9,h9⟩;have c9:=h9.row.cell (j:=9) rfl;have f9:=h9.row.free (j:=9) (by simp[zdR]);have H9:=lhd (h9.set (s':={s.prob ec (t9,q1,q2,q3)with skip:=1}) 9 (.int .i64 1) rfl rfl rfl rfl ⟨rfl,rfl,rfl⟩);clear h9;go_wp2_with fail;go_end0
  exact⟨rfl,_,_,_,HR.out▸H9.out⟩
theorem zc9 {s:DS} {w:Wd} {cw:List Wd} {e:Int×Wd} (h:zc7 s w cw=some e):e.1≠0:=by
 unfold zc7 at h;split at h
 ·injection h with h;subst h;simp
 split at h
 ·injection h with h;subst h;simp
 split at h
 ·injection h with h;subst h;simp
 ·dsimp only at h;split at h
  ·injection h with h;subst h;simp
  split at h
  ·injection h with h;subst h;simp
  split at h
  ·rename_i h0
   injection h with h;subst h;exact h0
  split at h
  ·injection h with h;subst h;simp
  split at h
  ·injection h with h;subst h;simp
  split at h
  ·split at h
   ·injection h with h;subst h;simp
   split at h
   ·injection h with h;subst h;simp
   split at h
   ·injection h with h;subst h;simp
   split at h
   ·injection h with h;subst h;simp
   ·cases h
  ·split at h
   ·injection h with h;subst h;simp
   split at h
   ·injection h with h;subst h;simp
   ·cases h
theorem zdM (c:DC) (s:DS) (vS vD vr:Value) (w:Wd) (a:Option Addr) (cap:Nat) (cw:List Wd) (W:World) (h:DPar c s vS vD vr W) (hl:s.wrong.length≤1000000)
 (hO:∀W1,Below W.heap.size W W1→Calls Tryz.prog 142 #[.pointer (some ⟨c.B,0,none⟩),wdV w,.slice a cw.length cap] W1 (zam c (zcX s w cw))):
 Calls Tryz.prog 92 #[.pointer (some ⟨c.B,0,none⟩),wdV w,.slice a cw.length cap] W (zad c (varP s w cw)):=by
 obtain⟨tx,o1,o2,o3⟩:=w;have HO:=lhd (hO _ ((Below.refl W.heap.size W).alloc (Nat.le_refl _) (.cells #[.string (bsB tx),.int .i64 o1,.int .i64 o2,.int .i64 o3] 58)));clear hO;have hal:Below W.heap.size W (W.alloc (.cells #[.string (bsB tx),.int .i64 o1,.int .i64 o2,.int .i64 o3] 58)):=(Below.refl _ _).alloc (Nat.le_refl _) _;have hx:=zaq.fresh W #[.string (bsB tx),.int .i64 o1,.int .i64 o2,.int .i64 o3] 58;have hz:W.heap.size<(W.alloc (.cells #[.string (bsB tx),.int .i64 o1,.int .i64 o2,.int .i64 o3] 58)).heap.size:=by simp
 have H:=lhd (h.later hal);generalize hw1:W.alloc (.cells #[.string (bsB tx),.int .i64 o1,.int .i64 o2,.int .i64 o3] 58)=w1 at*;have x0:=hx.cell (j:=0) rfl;have x1:=hx.cell (j:=1) rfl;have x2:=hx.cell (j:=2) rfl;have x3:=hx.cell (j:=3) rfl;clear h hal hx;have c9:=H.out.row.cell (j:=9) rfl;by_cases h0:0<s.skip
 ·have HR:=lhd (show s=varP s (tx,o1,o2,o3) cw by unfold varP;rw[if_pos h0]);go_enter Tryz.func92,Tryz.ntmps92;go_wp2_with fail;go_end0
  exact⟨rfl,_,_,_,HR.out▸H.out⟩
 cases ho:zc7 s (tx,o1,o2,o3) cw with
 |none=>
  have hr:zcX s (tx,o1,o2,o3) cw=({s with D:=s.D++ [dclF s cw]},0,(tx,o1,o2,o3)):=by unfold zcX;rw[ho]
  have HR:=lhd (show({s with D:=s.D++ [dclF s cw]}:DS)=varP s (tx,o1,o2,o3) cw by unfold varP;rw[if_neg h0,ho]);rw[hr]at HO;clear ho hr;go_enter Tryz.func92,Tryz.ntmps92;go_wp2_with fail;refine HO.out.mono ?_;rintro e w2 ⟨rfl,vS2,vD2,vr2,h2⟩;have H2:=lhd h2;clear h2;go_wp2_with fail;go_end0
  exact⟨rfl,_,_,_,HR.out▸(H2.out.later ((Below.refl _ _).alloc (Nat.le_refl _) _))⟩
 |some e=>
  have hne:=zc9 ho;obtain⟨ec,t9,q1,q2,q3⟩:=e;have hr:zcX s (tx,o1,o2,o3) cw=(s,ec,(t9,q1,q2,q3)):=by unfold zcX;rw[ho]
  have HR:=lhd (show s.prob ec (t9,q1,q2,q3)=varP s (tx,o1,o2,o3) cw by unfold varP;rw[if_neg h0,ho]);rw[hr]at HO;have hb:(ec==0)=false:=by rw[beq_eq_false_iff_ne];exact hne
  clear ho hr hne;go_enter Tryz.func92,Tryz.ntmps92;go_wp2_with fail;refine HO.out.mono ?_;rintro e w2 ⟨rfl,vS2,vD2,vr2,h2⟩;have H2:=lhd (h2.later ((Below.refl _ _).alloc (Nat.le_refl _) (.cells #[.string (bsB t9),.int .i64 q1,.int .i64 q2,.int .i64 q3] 58)));clear h2;go_wp2_with fail;refine(zdz c _ _ _ _ ec (t9,q1,q2,q3) _ H2.out hl).mono ?_;rintro e w9 ⟨rfl,vS9,vD9,vr9,h9⟩;have H9:=lhd h9;clear h9;go_wp2_with fail;go_end0
  exact⟨rfl,_,_,_,HR.out▸H9.out⟩
theorem zs4 (x:Bs):(numT x).2.length≤x.length:=by
 have h1:(tk1 45 x).length≤x.length:=by
  unfold tk1;split
  ·rw[List.length_drop];omega
  ·exact Nat.le_refl _
 rw[zim];split
 ·rw[List.length_drop];omega
 ·rw[List.length_drop];omega
theorem znL (c:UInt8) (x:Bs):(tk1 c x).length≤x.length:=by
 unfold tk1;split
 ·rw[List.length_drop];omega
 ·exact Nat.le_refl _
theorem zkS (x:Bs):zkN x=if(numT (tk1 91 x)).2.head? =some 58 then
 zkK (decide (x.head? =some 91)) (numT (tk1 91 x)).1.2 (numT (tk1 58 (numT (tk1 91 x)).2)).1.2 (numT (tk1 91 x)).1.1 (numT (tk1 58 (numT (tk1 91 x)).2)).1.1 (numT (tk1 58 (numT (tk1 91 x)).2)).2
 else zkK (decide (x.head? =some 91)) (numT (tk1 91 x)).1.2 true (numT (tk1 91 x)).1.1 (numT (tk1 91 x)).1.1 (tk1 58 (numT (tk1 91 x)).2):=by
 have e:(if decide (x.head? =some 91)=true then x.drop 1 else x)=tk1 91 x:=by
  unfold tk1;by_cases h:x.head? =some 91
  ·simp only[h,decide_true,if_true]
  ·simp only[h,decide_false,if_false,Bool.false_eq_true]
 unfold zkN;dsimp only;rw[e];generalize numT (tk1 91 x)=a;by_cases h:a.2.head? =some 58
 ·have e2:tk1 58 a.2=a.2.drop 1:=by unfold tk1;rw[if_pos h]
  rw[if_pos h,if_pos h,e2]
 ·have e2:tk1 58 a.2=a.2:=by unfold tk1;rw[if_neg h]
  rw[if_neg h,if_neg h,e2]
theorem zkL {o mk lk:Bool} {m l:Int} {r:Bs} (h:o=false∨mk=false∨lk=false∨r≠ [93]):zkK o mk lk m l r=(0,0,3):=if_pos h
theorem zkM {m l:Int}:zkK true true true m l [93]=if zba m=false∨zba l=false then(0,0,2)else(m,l,0):=by
 unfold zkK;rw[if_neg (by simp)]
theorem zhQ (x:Bs) (w:World) (hg:zag w) (hx:x.length≤2000000):
 Calls Tryz.prog 210 #[.string (bsB x)] w fun e w'=>e=.returned (.tuple #[.int .i64 (zkN x).1,.int .i64 (zkN x).2.1,.int .i64 (zkN x).2.2])∧Below w.heap.size w w':=by
 have hal:Below w.heap.size w (w.alloc (.cells #[.string (bsB x)] 242)):=(Below.refl _ _).alloc (Nat.le_refl _) _;have hrow:=zaq.fresh w #[.string (bsB x)] 242;have hc:=hrow.cell (j:=0) rfl;have hf:=hrow.free (j:=0) (by simp);generalize hw1:w.alloc (.cells #[.string (bsB x)] 242)=w1 at*;have HT:=lhd (zh2 w.heap.size 91 x w1 hc hf);have hc1:(w1.setCell ⟨w.heap.size,0,none⟩ (.string (bsB (tk1 91 x)))).cell? ⟨w.heap.size,0,none⟩=some (.string (bsB (tk1 91 x))):=World.cell?_setCell_same _ _ _ hc;have hf1:(w1.setCell ⟨w.heap.size,0,none⟩ (.string (bsB (tk1 91 x)))).frozen? ⟨w.heap.size,0,none⟩=false:=by rw[World.frozen?_setCell];exact hf
 have hb2:Below w.heap.size w (w1.setCell ⟨w.heap.size,0,none⟩ (.string (bsB (tk1 91 x)))):=hal.setCell (p:=⟨w.heap.size,0,none⟩) (Nat.le_refl _) _;obtain⟨R,hR⟩:∃R,R=zkN x:=⟨_,rfl⟩;rw[←hR];rw[zkS]at hR;have hyl:=Nat.le_trans (znL 91 x) hx;generalize decide (x.head? =some 91)=o at*;generalize tk1 91 x=y at*;have hnl:=Nat.le_trans (zs4 y) hyl;have HN:=lhd (zh0 w.heap.size y w _ hg hb2 (Nat.le_refl _) hc1 hf1 hyl);generalize w1.setCell ⟨w.heap.size,0,none⟩ (.string (bsB y))=w2 at*;generalize numT y=a at*;obtain⟨⟨m,mk⟩,r⟩:=a;dsimp only at*;have HB2:=lhd hb2;have HG:=lhd hg;have HRR:=lhd hR;clear hR;clear hc hf hal hrow hc1 hf1 hb2 hg hx;go_enter Tryz.func210,Tryz.ntmps210;go_wp2_with fail;refine HT.out.mono ?_;rintro e w' ⟨rfl,he⟩;have he:=he.symm;subst he;go_wp2_with fail;refine HN.out.mono ?_;rintro e w3 ⟨rfl,hc3,hf3,hb3⟩;have HB3:=lhd (HB2.out.trans hb3);have HT3:=lhd (zh2 w.heap.size 58 r w3 hc3 hf3);have hc4:(w3.setCell ⟨w.heap.size,0,none⟩ (.string (bsB (tk1 58 r)))).cell? ⟨w.heap.size,0,none⟩=some (.string (bsB (tk1 58 r))):=World.cell?_setCell_same _ _ _ hc3;have hf4:(w3.setCell ⟨w.heap.size,0,none⟩ (.string (bsB (tk1 58 r)))).frozen? ⟨w.heap.size,0,none⟩=false:=by rw[World.frozen?_setCell];exact hf3
 have hb4:Below w.heap.size w (w3.setCell ⟨w.heap.size,0,none⟩ (.string (bsB (tk1 58 r)))):=HB3.out.setCell (p:=⟨w.heap.size,0,none⟩) (Nat.le_refl _) _;have hzl:=Nat.le_trans (znL 58 r) hnl;generalize tk1 58 r=z at*;have HN4:=lhd (zh0 w.heap.size z w _ HG.out hb4 (Nat.le_refl _) hc4 hf4 hzl);generalize w3.setCell ⟨w.heap.size,0,none⟩ (.string (bsB z))=w4 at*;have HB4:=lhd hb4;clear hc3 hf3 hb3 hb4;go_wp2_with fail;refine HT3.out.mono ?_;rintro e w' ⟨rfl,he⟩;have he:=he.symm;subst he;by_cases h58:r.head? =some 58
 ·have HR2:=lhd (show R=zkK o mk (numT z).1.2 m (numT z).1.1 (numT z).2 by rw[HRR.out,if_pos h58]);rw[decide_eq_true h58];generalize numT z=a at*;obtain⟨⟨l,lk⟩,q⟩:=a;clear HRR;dsimp only at HR2 HN4;clear hc4 hf4 h58;go_wp2_with fail;refine HN4.out.mono ?_;rintro e w5 ⟨rfl,hc5,hf5,hb5⟩;have HBF:=lhd (HB4.out.trans hb5);clear hb5;cases o
  ·have hbad:false=false∨mk=false∨lk=false∨q≠ [93]:=.inl rfl;have HQ:=lhd (HR2.out.trans (zkL hbad));go_wp2_with fail;refine bodyPost_ret (v:=.tuple #[.int .i64 0,.int .i64 0,.int .i64 3]) (by simp[results,Tryz.results210,go_sem]) rfl ?_;rw[HQ.out];exact⟨rfl,HBF.out⟩
  cases mk
  ·have hbad:true=false∨false=false∨lk=false∨q≠ [93]:=.inr (.inl rfl);have HQ:=lhd (HR2.out.trans (zkL hbad));go_wp2_with fail;refine bodyPost_ret (v:=.tuple #[.int .i64 0,.int .i64 0,.int .i64 3]) (by simp[results,Tryz.results210,go_sem]) rfl ?_;rw[HQ.out];exact⟨rfl,HBF.out⟩
  cases lk
  ·have hbad:true=false∨true=false∨false=false∨q≠ [93]:=.inr (.inr (.inl rfl));have HQ:=lhd (HR2.out.trans (zkL hbad));go_wp2_with fail;refine bodyPost_ret (v:=.tuple #[.int .i64 0,.int .i64 0,.int .i64 3]) (by simp[results,Tryz.results210,go_sem]) rfl ?_;rw[HQ.out];exact⟨rfl,HBF.out⟩
  by_cases hr:q=[93]
  rotate_left
  ·have hbad:true=false∨true=false∨true=false∨q≠ [93]:=.inr (.inr (.inr hr));have hrb:((bsB q).toList==[93])=false:=by rw[beqB,zbh,decide_eq_false hr]
   clear hr;have HQ:=lhd (HR2.out.trans (zkL hbad));go_wp2_with fail;refine bodyPost_ret (v:=.tuple #[.int .i64 0,.int .i64 0,.int .i64 3]) (by simp[results,Tryz.results210,go_sem]) rfl ?_;rw[HQ.out];exact⟨rfl,HBF.out⟩
  have hrb:((bsB q).toList==[93])=true:=by rw[beqB,zbh,decide_eq_true hr]
  rw[hr]at HR2;clear hr;have HM:=lhd (fun W=>zhX m W);have HL:=lhd (fun W=>zhX l W);by_cases hbm:zba m=true
  rotate_left
  ·have hbm:zba m=false:=by simpa using hbm
   have HQ:=lhd (HR2.out.trans (zkM.trans (if_pos (.inl hbm))));rw[hbm]at HM;clear hbm;go_wp2_with fail;refine(HM.out _).mono ?_;rintro e w9 ⟨rfl,rfl⟩;go_wp2_with fail;refine bodyPost_ret (v:=.tuple #[.int .i64 0,.int .i64 0,.int .i64 2]) (by simp[results,Tryz.results210,go_sem]) rfl ?_;rw[HQ.out];exact⟨rfl,HBF.out⟩
  by_cases hbl:zba l=true
  rotate_left
  ·have hbl:zba l=false:=by simpa using hbl
   have HQ:=lhd (HR2.out.trans (zkM.trans (if_pos (.inr hbl))));rw[hbm]at HM;rw[hbl]at HL;clear hbm hbl;go_wp2_with fail;refine(HM.out _).mono ?_;rintro e w9 ⟨rfl,rfl⟩;go_wp2_with fail;refine(HL.out _).mono ?_;rintro e w9 ⟨rfl,rfl⟩;go_wp2_with fail;refine bodyPost_ret (v:=.tuple #[.int .i64 0,.int .i64 0,.int .i64 2]) (by simp[results,Tryz.results210,go_sem]) rfl ?_;rw[HQ.out];exact⟨rfl,HBF.out⟩
  have HQ:=lhd (HR2.out.trans (zkM.trans (if_neg (by simp[hbm,hbl]))));rw[hbm]at HM;rw[hbl]at HL;clear hbm hbl;go_wp2_with fail;refine(HM.out _).mono ?_;rintro e w9 ⟨rfl,rfl⟩;go_wp2_with fail;refine(HL.out _).mono ?_;rintro e w9 ⟨rfl,rfl⟩;go_wp2_with fail;refine bodyPost_ret (v:=.tuple #[.int .i64 m,.int .i64 l,.int .i64 0]) (by simp[results,Tryz.results210,go_sem]) rfl ?_;rw[HQ.out];exact⟨rfl,HBF.out⟩
 ·have HR2:=lhd (show R=zkK o mk true m m z by rw[HRR.out,if_neg h58]);rw[decide_eq_false h58];have HBF:=HB4;clear h58;cases o
  ·have hbad:false=false∨mk=false∨true=false∨z≠ [93]:=.inl rfl;have HQ:=lhd (HR2.out.trans (zkL hbad));go_wp2_with fail;refine bodyPost_ret (v:=.tuple #[.int .i64 0,.int .i64 0,.int .i64 3]) (by simp[results,Tryz.results210,go_sem]) rfl ?_;rw[HQ.out];exact⟨rfl,HBF.out⟩
  cases mk
  ·have hbad:true=false∨false=false∨true=false∨z≠ [93]:=.inr (.inl rfl);have HQ:=lhd (HR2.out.trans (zkL hbad));go_wp2_with fail;refine bodyPost_ret (v:=.tuple #[.int .i64 0,.int .i64 0,.int .i64 3]) (by simp[results,Tryz.results210,go_sem]) rfl ?_;rw[HQ.out];exact⟨rfl,HBF.out⟩
  by_cases hr:z=[93]
  rotate_left
  ·have hbad:true=false∨true=false∨true=false∨z≠ [93]:=.inr (.inr (.inr hr));have hrb:((bsB z).toList==[93])=false:=by rw[beqB,zbh,decide_eq_false hr]
   clear hr;have HQ:=lhd (HR2.out.trans (zkL hbad));go_wp2_with fail;refine bodyPost_ret (v:=.tuple #[.int .i64 0,.int .i64 0,.int .i64 3]) (by simp[results,Tryz.results210,go_sem]) rfl ?_;rw[HQ.out];exact⟨rfl,HBF.out⟩
  have hrb:((bsB z).toList==[93])=true:=by rw[beqB,zbh,decide_eq_true hr]
  rw[hr]at HR2;clear hr;have HM:=lhd (fun W=>zhX m W);have HL:=lhd (fun W=>zhX m W);by_cases hbm:zba m=true
  rotate_left
  ·have hbm:zba m=false:=by simpa using hbm
   have HQ:=lhd (HR2.out.trans (zkM.trans (if_pos (.inl hbm))));rw[hbm]at HM;clear hbm;go_wp2_with fail;refine(HM.out _).mono ?_;rintro e w9 ⟨rfl,rfl⟩;go_wp2_with fail;refine bodyPost_ret (v:=.tuple #[.int .i64 0,.int .i64 0,.int .i64 2]) (by simp[results,Tryz.results210,go_sem]) rfl ?_;rw[HQ.out];exact⟨rfl,HBF.out⟩
  by_cases hbl:zba m=true
  rotate_left
  ·have hbl:zba m=false:=by simpa using hbl
   have HQ:=lhd (HR2.out.trans (zkM.trans (if_pos (.inr hbl))));rw[hbm]at HM;rw[hbl]at HL;clear hbm hbl;go_wp2_with fail;refine(HM.out _).mono ?_;rintro e w9 ⟨rfl,rfl⟩;go_wp2_with fail;refine(HL.out _).mono ?_;rintro e w9 ⟨rfl,rfl⟩;go_wp2_with fail;refine bodyPost_ret (v:=.tuple #[.int .i64 0,.int .i64 0,.int .i64 2]) (by simp[results,Tryz.results210,go_sem]) rfl ?_;rw[HQ.out];exact⟨rfl,HBF.out⟩
  have HQ:=lhd (HR2.out.trans (zkM.trans (if_neg (by simp[hbm,hbl]))));rw[hbm]at HM;rw[hbl]at HL;clear hbm hbl;go_wp2_with fail;refine(HM.out _).mono ?_;rintro e w9 ⟨rfl,rfl⟩;go_wp2_with fail;refine(HL.out _).mono ?_;rintro e w9 ⟨rfl,rfl⟩;go_wp2_with fail;refine bodyPost_ret (v:=.tuple #[.int .i64 m,.int .i64 m,.int .i64 0]) (by simp[results,Tryz.results210,go_sem]) rfl ?_;rw[HQ.out];exact⟨rfl,HBF.out⟩
theorem zqQ (b:Bs) (t:Array UInt8):bsB b++⟨t⟩=bsB (b++t.toList):=by
 apply ByteArray.ext;simp[bsB]
theorem zqR (a b:Bs):bsB a++bsB b=bsB (a++b):=by
 apply ByteArray.ext;simp[bsB]
theorem zsm (k c:Bs) (w:World) (h:k.length+c.length≤1000000):
 Calls Tryz.prog 43 #[.string (bsB k),.string (bsB c)] w fun e w'=>e=.returned (.string (bsB (zgM k c)))∧w=w':=by
 have z1:=zbk k;have z2:=zbk c;by_cases hc:c=[]
 ·subst hc;have hem:(bsB ([]:Bs)).toList.isEmpty=true:=by rw[zbg];rfl
  have HL:=lhd (show bsB k++⟨#[32,36,101,110,100,10]⟩=bsB (zgM k [])from zqQ _ _);have hq:(bsB k).size+6≤1000006:=by simp only[List.length_nil]at h;omega
  clear h z1 z2;go_enter Tryz.func43,Tryz.ntmps43;go_wp2_with fail;go_ret;exact⟨by rw[HL.out];rfl,rfl⟩
 ·have hem:(bsB c).toList.isEmpty=false:=by rw[zbg,decide_eq_false hc]
  have HL:=lhd (show bsB k++⟨#[32]⟩++bsB c++⟨#[32,36,101,110,100,10]⟩=bsB (zgM k c)from by
   rw[zqQ,zqR,zqQ];unfold zgM;rw[if_neg hc];simp)
  have hq:(bsB k).size+(bsB c).size≤1000000:=by omega
  clear h z1 z2 hc;go_enter Tryz.func43,Tryz.ntmps43;go_wp2_with fail;go_ret;exact⟨by rw[HL.out];rfl,rfl⟩
def atC (c:Bs) (x:Dcl):Bool:=decide (x.code=c)
theorem zsg (v:Value) (D:List Dcl) (c:Bs) (w:World) (hs:SlR w v D.length (dcls D)) (hl:D.length≤1000000):
 Calls Tryz.prog 79 #[v,.string (bsB c)] w fun e w'=>e=.returned (.int .i64 (fixI (atC c) D))∧w=w':=by
 obtain⟨a,cap,rfl,hc,hm⟩:=hs.shape;have HS:=lhd hs;obtain⟨R,hR⟩:∃R:Int,R=fixI (atC c) D:=⟨_,rfl⟩;rw[←hR];have HRR:=lhd hR;clear hs hR;go_enter Tryz.func79,Tryz.ntmps79;go_wp2_with fail
 go_loopw [5] (fun u wr=>∃(k:Nat),k≤D.length∧u=.int .i64 k∧(∀j,∀hj:j<D.length,j<k→atC c D[j]=false)∧w=wr)
  (fun u _=>D.length-(intOf u).toNat)
 case atStart=>exact⟨0,Nat.zero_le _,rfl,fun j _ hj=>absurd hj (Nat.not_lt_zero _),rfl⟩
 case round=>
  obtain⟨k,hk,rfl,hne,rfl⟩:=hrel;have HN:=lhd hne;clear hne;by_cases hlt:k<D.length
  ·obtain⟨b,o,rfl,hcl⟩:=HS.out.dcls hlt;have d:=hcl 7 (.string (bsB D[k].code)) rfl;clear hcl;by_cases hx:D[k].code=c
   ·obtain rfl:R=(k:Int):=by rw[HRR.out];exact zea hlt (decide_eq_true hx) HN.out
    rw[hx]at d;go_wp2_with fail;go_ret;exact⟨rfl,rfl⟩
   ·have hb:=zbi hx
    have HX:=lhd (show ∀j,∀hj:j<D.length,j<k+1→atC c D[j]=false from fun j hj hjk=>by
     rcases Nat.lt_or_ge j k with h|h
     ·exact HN.out j hj h
     ·obtain rfl:j=k:=by omega
      exact decide_eq_false hx)
    generalize D[k].code=y at d hb;clear hx;go_wp2_with fail;go_roundw;case rel=>exact⟨k+1,by omega,by go_num,HX.out,by first|trivial|rfl⟩
    case measure=>simp[intOf];omega
  ·obtain rfl:R= -1:=by
    rw[HRR.out];exact zeb fun i hi=>HN.out i hi (by omega)
   go_wp2_with fail;go_ret;exact⟨rfl,rfl⟩
def zq7 (D:List Dcl) (k:Nat):Nat:=((List.range k).filter fun i=>decide (fixI (atC ((D.map Dcl.code).getD i [])) D=(i:Int))).length
theorem zra (D:List Dcl) (k:Nat):zq7 D (k+1)=zq7 D k+if fixI (atC ((D.map Dcl.code).getD k [])) D=(k:Int)then 1 else 0:=by
 unfold zq7;rw[List.range_succ,List.filter_append,List.length_append];congr 1
 by_cases h:fixI (atC ((D.map Dcl.code).getD k [])) D=(k:Int)
 ·rw[List.filter_cons_of_pos (by simpa using h),if_pos h];rfl
 ·rw[List.filter_cons_of_neg (by simpa using h),if_neg h];rfl
theorem zq8 (D:List Dcl) (k:Nat):zq7 D k≤k:=by
 unfold zq7;exact Nat.le_trans (List.length_filter_le _ _) (by simp)
theorem zse (v:Value) (D:List Dcl) (w:World) (hs:SlR w v D.length (dcls D)) (hl:D.length≤1000000):
 Calls Tryz.prog 78 #[v] w fun e w'=>e=.returned (.int .i64 (zq7 D D.length:Nat))∧w=w':=by
 obtain⟨a,cap,rfl,hc,hm⟩:=hs.shape;have HS:=lhd hs;clear hs;go_enter Tryz.func78,Tryz.ntmps78;go_wp2_with fail
 go_loopw [3,4] (fun n u wr=>∃(k:Nat),k≤D.length∧n=.int .i64 (zq7 D k:Nat)∧u=.int .i64 k∧w=wr)
  (fun _ u _=>D.length-(intOf u).toNat)
 case atStart=>exact⟨0,Nat.zero_le _,rfl,rfl,rfl⟩
 case round=>
  obtain⟨k,hk,rfl,rfl,rfl⟩:=hrel;by_cases hlt:k<D.length
  ·have HF:=lhd (zsg _ D D[k].code w HS.out hl);obtain⟨b,o,rfl,hcl⟩:=HS.out.dcls hlt;have d:=hcl 7 (.string (bsB D[k].code)) rfl;clear hcl;have HC:=lhd (zra D k);have HLE:=lhd (zq8 D k);rw[show(D.map Dcl.code).getD k []=D[k].code by simp[hlt]]at HC;generalize D[k].code=y at d HF HC;generalize zq7 D k=n at*;have hw:IntKind.i64.wrap ((n:Int)+1)=(n:Int)+1:=IntWalk.i64_in _ (by have:=HLE.out;omega);generalize fixI (atC y) D=r at HF HC;go_wp2_with fail;refine HF.out.mono ?_;rintro e w1 ⟨rfl,rfl⟩;by_cases hr:r=(k:Int)
   ·subst hr;have HC2:=lhd (HC.out.trans (by rw[if_pos rfl]));go_wp2_with fail;go_roundw;case rel=>exact⟨k+1,by omega,by rw[HC2.out];go_num,by go_num,by first|trivial|rfl⟩
    case measure=>simp[intOf];omega
   ·have hb:(r==(k:Int))=false:=by rw[beq_eq_false_iff_ne];exact hr
    have HC2:=lhd (HC.out.trans (by rw[if_neg hr]));clear hr;go_wp2_with fail;go_roundw;case rel=>exact⟨k+1,by omega,by rw[HC2.out,Nat.add_zero],by go_num,by first|trivial|rfl⟩
    case measure=>simp[intOf];omega
  ·obtain rfl:k=D.length:=by omega
   go_wp2_with fail;go_ret;exact⟨rfl,rfl⟩
theorem zrb (D:List Dcl):∀k,k≤D.length→zq7 D k=(zmr (D.take k) []).length
 |0,_=>rfl
 |k+1,hk=>by
  have hlt:k<D.length:=hk;rw[zra,zrb D k (by omega),List.take_succ_eq_append_getElem hlt,zmv];rw[show(D.map Dcl.code).getD k []=D[k].code by simp[hlt]];show _=(if D[k].code∈zmr (D.take k) []then zmr (D.take k) []else zmr (D.take k) []++ [D[k].code]).length;by_cases h:D[k].code∈zmr (D.take k) []
  ·rw[if_pos h,if_neg,Nat.add_zero];rcases zmz.1 h with h|⟨x,hx,hc⟩
   ·cases h
   obtain⟨i,hi,rfl⟩:=List.mem_iff_getElem.1 hx;rw[List.length_take]at hi;rw[List.getElem_take]at hc;intro hf;unfold fixI at hf;cases hj:D.findIdx? (atC D[k].code)with
   |none=>
    rw[hj]at hf;exact absurd hf (by show(-1:Int)≠_;omega)
   |some j=>
    rw[hj]at hf;have hjk:j=k:=Int.ofNat.inj hf;subst hjk;obtain⟨_,_,hne⟩:=List.findIdx?_eq_some_iff_getElem.1 hj;exact hne i (by omega) (decide_eq_true hc)
  ·rw[if_neg h,if_pos,List.length_append]
   ·rfl
   exact zea hlt (decide_eq_true rfl) fun i hi hik=>decide_eq_false fun hc=>h (zmz.2 (.inr ⟨D[i],List.mem_take_iff_getElem.2 ⟨i,by omega,rfl⟩,hc⟩))
theorem zq9 (D:List Dcl):zq7 D D.length=(zmr D []).length:=by
 rw[zrb D _ (Nat.le_refl _),List.take_length]
theorem zri {D:List Dcl} {k:Nat} (hk:k<D.length):∃j,∃hj:j<D.length,fixI (atC D[k].code) D=(j:Int)∧D[j]=oldD D D[k]:=by
 cases hf:D.findIdx? (atC D[k].code)with
 |none=>
  have:=List.findIdx?_eq_none_iff.1 hf D[k] (List.getElem_mem hk);unfold atC at this;rw[decide_eq_true rfl]at this;cases this
 |some j=>
  obtain⟨hj,hp,hne⟩:=List.findIdx?_eq_some_iff_getElem.1 hf;refine⟨j,hj,by unfold fixI;rw[hf],?_⟩;unfold oldD
  have:D.find? (fun y=>decide (y.code=D[k].code))=some D[j]:=List.find?_eq_some_iff_getElem.2 ⟨hp,j,hj,rfl,fun i hi=>by
   have:=hne i hi;rw[Bool.not_eq_true]at this;show(!(atC D[k].code D[i]))=true;rw[this];rfl⟩
  rw[this];rfl
end Go.Proofs.YtcdekelomkcahaaGreatDoor
