import Derived.Test.YtbiadennhnokhaaGreatDoorZ06
import Derived.Test.YtbiadennhnokhaaGreatDoorZ21
set_option maxRecDepth 100000
set_option maxHeartbeats 16000000
namespace Go.Proofs.YtbiadennhnokhaaGreatDoor
open Go.RowKit
set_option linter.unusedSimpArgs false
def exT:Tr:=⟨0,[],[],[],[],[⟨[97],17,-1,1,false,0,0⟩],[(9,0,[]),(0,1,[(1,⟨#[48]⟩),(4,⟨#[49]⟩)])],[(3,5)],5⟩
theorem row_in {w X:World} {C:Array Value} {T:TypeId} {b n:Nat} {xs:List Value} (hb:Below (w.alloc (.cells C T)).heap.size (w.alloc (.cells C T)) X) (e:b=w.heap.size) (hx:xs=C.toList) (hn:n≤maxLen):SlR X (.slice (some ⟨b,0,none⟩) n n) n xs:=by
 subst e hx;have h:=(zal.fresh w C T).below hb (by simp);exact⟨_,n,rfl,Nat.le_refl _,hn,fun h=>by simp at h,fun _=>⟨w.heap.size,0,rfl,fun j u hj=>by rw[Nat.zero_add];exact h.cell hj⟩⟩
theorem law_example (w:World):Calls Tryz.prog 49 #[] w fun e w'=>∃p,e=.returned (p.v exT)∧TrM w' exT p∧Below w.heap.size w w':=by
 go_enter Tryz.func49,Tryz.ntmps49;go_wp2_with fail;refine bodyPost_ret (v:=.agg #[.int .i64 0,.string ⟨#[]⟩,.string ⟨#[]⟩,.string ⟨#[]⟩,.slice none 0 0,.slice (some ⟨w.heap.size+1,0,none⟩) 1 1,.slice (some ⟨w.heap.size+1+1+1,0,none⟩) 2 2,.slice (some ⟨w.heap.size+1+1+1+1,0,none⟩) 1 1,.int .i64 5]) (by simp[results,Tryz.results49,go_sem]) rfl ?_;refine⟨⟨.slice none 0 0,.slice (some ⟨w.heap.size+1,0,none⟩) 1 1,.slice (some ⟨w.heap.size+1+1+1,0,none⟩) 2 2,.slice (some ⟨w.heap.size+1+1+1+1,0,none⟩) 1 1,[((9,0,[]),.slice none 0 0),((0,1,[(1,⟨#[48]⟩),(4,⟨#[49]⟩)]),.slice (some ⟨w.heap.size+1+1,0,none⟩) 2 2)]⟩,rfl,?_,?_⟩
 ·refine⟨SlR.nil _,?_,⟨?_,?_⟩,?_,rfl⟩
  ·exact row_in ((((Below.refl _ _).alloc (Nat.le_refl _) _).alloc (by simp) _).alloc (by simp) _) (by simp) rfl (by decide)
  ·exact row_in ((Below.refl _ _).alloc (Nat.le_refl _) _) (by simp) rfl (by decide)
  ·intro x hx;rcases List.mem_cons.1 hx with rfl|hx
   ·exact SlR.nil _
   ·obtain rfl:=List.mem_singleton.1 hx;exact row_in (((Below.refl _ _).alloc (Nat.le_refl _) _).alloc (by simp) _) (by simp) rfl (by decide)
  ·exact row_in (Below.refl _ _) (by simp) rfl (by decide)
 ·exact(((((Below.refl _ _).alloc (Nat.le_refl _) _).alloc (by simp) _).alloc (by simp;omega) _).alloc (by simp;omega) _).alloc (by simp;omega) _
open Go.Joins Go.ChangeShapes Go.WideShapes Go.RowKit Go.Deep
abbrev wfI (x:Int):Prop:=(Lit.int .i64 x).wf=true
section
variable {H : Type} {enc : TypeId × Value → H} {w : World} {base : Nat} {spare : Nat → Bool} {held : Bool} {n : Nat} {v : Value} {z : DataW H × List MemPlace}
theorem zg8 (h:DataW.trod enc Tryz.prog w base spare held n 3 [v]=some z):∃x:Int,v=.int .i64 x∧wfI x:=by
 obtain⟨x,e,-,hw⟩:=DataW.trod_int Tryz.underlying3 h;injection e with e;exact⟨x,e,hw⟩
end
theorem zoK {cs:List Value} (h:cs.length=3):∃a b c,cs=[a,b,c]:=by
 match cs,h with
 | [a,b,c],_=>exact⟨a,b,c,rfl⟩
theorem two {cs:List Value} (h:cs.length=2):∃a b,cs=[a,b]:=by
 match cs,h with
 | [a,b],_=>exact⟨a,b,rfl⟩
theorem zmT {cs:List Value} (h:cs.length=7):∃a b c d e f g,cs=[a,b,c,d,e,f,g]:=by
 match cs,h with
 | [a,b,c,d,e,f,g],_=>exact⟨a,b,c,d,e,f,g,rfl⟩
theorem nine {cs:List Value} (h:cs.length=9):∃a b c d e f g i j,cs=[a,b,c,d,e,f,g,i,j]:=by
 match cs,h with
 | [a,b,c,d,e,f,g,i,j],_=>exact⟨a,b,c,d,e,f,g,i,j,rfl⟩
section
variable {H : Type} {enc : TypeId × Value → H} {w : World} {base : Nat} {spare : Nat → Bool} {held : Bool} {fuel : Nat} {cs : List Value} {x : DataW H × List MemPlace}
theorem zjm (h:DataW.trod enc Tryz.prog w base spare held fuel 22 cs=some x) (hz:∀m∈x.1.weights Tryz.prog 22,m≤reachBytes):
 ∃(v:Value) (l:List Sc),cs=[v]∧SlR w v l.length (scs l)∧∀r∈l,r.1.length≤140737488351232∧wfI r.2.1∧wfI r.2.2:=
 zjk (encT:=scC) (k:=3) (fun _=>rfl) (by decide) (Q:=fun r:Sc=>r.1.length≤140737488351232∧wfI r.2.1∧wfI r.2.2) Tryz.underlying22 (by kernel_rfl) (fun n cs' y hl ht hy=>by
  obtain⟨a,b,c,rfl⟩:=zoK hl;obtain⟨n0,z0,h0,w0⟩:=fld Tryz.underlying55 ht hy 0 rfl (show Tryz.prog.cellsOf 9=1 by kernel_rfl) rfl;obtain⟨n1,z1,h1,-⟩:=fld Tryz.underlying55 ht hy 1 rfl (show Tryz.prog.cellsOf 3=1 by kernel_rfl) rfl;obtain⟨n2,z2,h2,-⟩:=fld Tryz.underlying55 ht hy 2 rfl (show Tryz.prog.cellsOf 3=1 by kernel_rfl) rfl;obtain⟨x0,rfl,q0⟩:=zg9 h0 w0;obtain⟨x1,rfl,q1⟩:=zg8 h1;obtain⟨x2,rfl,q2⟩:=zg8 h2;exact⟨(x0,x1,x2),rfl,q0,q1,q2⟩) h hz
theorem zjp (h:DataW.trod enc Tryz.prog w base spare held fuel 23 cs=some x) (hz:∀m∈x.1.weights Tryz.prog 23,m≤reachBytes):
 ∃(v:Value) (l:List Vr),cs=[v]∧SlR w v l.length (vrs l)∧∀r∈l,r.nm.length≤140737488351232∧wfI r.ty∧wfI r.sc∧wfI r.sg∧wfI r.mb∧wfI r.lb:=
 zjk (encT:=vrC) (k:=7) (fun _=>rfl) (by decide) (Q:=fun r:Vr=>r.nm.length≤140737488351232∧wfI r.ty∧wfI r.sc∧wfI r.sg∧wfI r.mb∧wfI r.lb) Tryz.underlying23 (by kernel_rfl) (fun n cs' y hl ht hy=>by
  obtain⟨a,b,c,d,e,f,g,rfl⟩:=zmT hl;obtain⟨n0,z0,h0,w0⟩:=fld Tryz.underlying42 ht hy 0 rfl (show Tryz.prog.cellsOf 9=1 by kernel_rfl) rfl;obtain⟨n1,z1,h1,-⟩:=fld Tryz.underlying42 ht hy 1 rfl (show Tryz.prog.cellsOf 3=1 by kernel_rfl) rfl;obtain⟨n2,z2,h2,-⟩:=fld Tryz.underlying42 ht hy 2 rfl (show Tryz.prog.cellsOf 3=1 by kernel_rfl) rfl;obtain⟨n3,z3,h3,-⟩:=fld Tryz.underlying42 ht hy 3 rfl (show Tryz.prog.cellsOf 3=1 by kernel_rfl) rfl;obtain⟨n4,z4,h4,-⟩:=fld Tryz.underlying42 ht hy 4 rfl (show Tryz.prog.cellsOf 4=1 by kernel_rfl) rfl;obtain⟨n5,z5,h5,-⟩:=fld Tryz.underlying42 ht hy 5 rfl (show Tryz.prog.cellsOf 3=1 by kernel_rfl) rfl;obtain⟨n6,z6,h6,-⟩:=fld Tryz.underlying42 ht hy 6 rfl (show Tryz.prog.cellsOf 3=1 by kernel_rfl) rfl;obtain⟨x0,rfl,q0⟩:=zg9 h0 w0;obtain⟨x1,rfl,q1⟩:=zg8 h1;obtain⟨x2,rfl,q2⟩:=zg8 h2;obtain⟨x3,rfl,q3⟩:=zg8 h3;obtain⟨x4,rfl⟩:=zg7 h4;obtain⟨x5,rfl,q5⟩:=zg8 h5;obtain⟨x6,rfl,q6⟩:=zg8 h6;exact⟨⟨x0,x1,x2,x3,x4,x5,x6⟩,rfl,q0,q1,q2,q3,q5,q6⟩) h hz
theorem zjl (h:DataW.trod enc Tryz.prog w base spare held fuel 25 cs=some x) (hz:∀m∈x.1.weights Tryz.prog 25,m≤reachBytes):
 ∃(v:Value) (l:List Gp),cs=[v]∧SlR w v l.length (gps l)∧∀r∈l,wfI r.1∧wfI r.2:=
 zjk (encT:=gpC) (k:=2) (fun _=>rfl) (by decide) (Q:=fun r:Gp=>wfI r.1∧wfI r.2) Tryz.underlying25 (by kernel_rfl) (fun n cs' y hl ht hy=>by
  obtain⟨a,b,rfl⟩:=two hl;obtain⟨n0,z0,h0,-⟩:=fld Tryz.underlying57 ht hy 0 rfl (show Tryz.prog.cellsOf 3=1 by kernel_rfl) rfl;obtain⟨n1,z1,h1,-⟩:=fld Tryz.underlying57 ht hy 1 rfl (show Tryz.prog.cellsOf 3=1 by kernel_rfl) rfl;obtain⟨x0,rfl,q0⟩:=zg8 h0;obtain⟨x1,rfl,q1⟩:=zg8 h1;exact⟨(x0,x1),rfl,q0,q1⟩) h hz
theorem zjj (h:DataW.trod enc Tryz.prog w base spare held fuel 43 cs=some x) (hz:∀m∈x.1.weights Tryz.prog 43,m≤reachBytes):
 ∃(v:Value) (l:List Ch),cs=[v]∧SlR w v l.length (chs l)∧∀r∈l,wfI r.1∧r.2.size≤140737488351232:=
 zjk (encT:=encC) (k:=2) (fun _=>rfl) (by decide) (Q:=fun r:Ch=>wfI r.1∧r.2.size≤140737488351232) Tryz.underlying43 (by kernel_rfl) (fun n cs' y hl ht hy=>by
  obtain⟨a,b,rfl⟩:=two hl;obtain⟨n0,z0,h0,-⟩:=fld Tryz.underlying53 ht hy 0 rfl (show Tryz.prog.cellsOf 3=1 by kernel_rfl) rfl;obtain⟨n1,z1,h1,w1⟩:=fld Tryz.underlying53 ht hy 1 rfl (show Tryz.prog.cellsOf 9=1 by kernel_rfl) rfl;obtain⟨x0,rfl,q0⟩:=zg8 h0;obtain⟨x1,rfl,q1⟩:=zg9 h1 w1;exact⟨(x0,bsB x1),rfl,q0,q1⟩) h hz
theorem zjn (h:DataW.trod enc Tryz.prog w base spare held fuel 24 cs=some x) (hz:∀m∈x.1.weights Tryz.prog 24,m≤reachBytes):
 ∃(v:Value) (L:List (Sg×Value)),cs=[v]∧Sigs w v L∧∀r∈L,wfI r.1.1∧wfI r.1.2.1∧∀c∈r.1.2.2,wfI c.1∧c.2.size≤140737488351232:=by
 obtain⟨v,L,rfl,hs,hq⟩:=zjk (w:=w) (encT:=sgC) (k:=3) (fun _=>rfl) (by decide) (Q:=fun r:Sg×Value=>SlR w r.2 r.1.2.2.length (chs r.1.2.2)∧wfI r.1.1∧wfI r.1.2.1∧∀c∈r.1.2.2,wfI c.1∧c.2.size≤140737488351232) Tryz.underlying24 (by kernel_rfl) (fun n cs' y hl ht hy=>by
  obtain⟨a,b,c,rfl⟩:=zoK hl;obtain⟨n0,z0,h0,-⟩:=fld Tryz.underlying45 ht hy 0 rfl (show Tryz.prog.cellsOf 3=1 by kernel_rfl) rfl;obtain⟨n1,z1,h1,-⟩:=fld Tryz.underlying45 ht hy 1 rfl (show Tryz.prog.cellsOf 3=1 by kernel_rfl) rfl;obtain⟨n2,z2,h2,w2⟩:=fld Tryz.underlying45 ht hy 2 rfl (show Tryz.prog.cellsOf 43=1 by kernel_rfl) rfl;obtain⟨x0,rfl,q0⟩:=zg8 h0;obtain⟨x1,rfl,q1⟩:=zg8 h1;obtain⟨u,l,e2,hsl,q2⟩:=zjj h2 w2;injection e2 with e2 _;subst e2;exact⟨((x0,x1,l),_),rfl,hsl,q0,q1,q2⟩) h hz
 exact⟨v,L,rfl,⟨hs,fun x hx=>(hq x hx).1⟩,fun r hr=>(hq r hr).2⟩
structure InT (t:Tr):Prop where
 tx:t.dt.length≤140737488351232∧t.vn.length≤140737488351232∧t.cm.length≤140737488351232
 i:wfI t.sc∧wfI t.en
 s:∀r∈t.S,r.1.length≤140737488351232∧wfI r.2.1∧wfI r.2.2
 v:∀r∈t.V,r.nm.length≤140737488351232∧wfI r.ty∧wfI r.sc∧wfI r.sg∧wfI r.mb∧wfI r.lb
 g:∀r∈t.G,wfI r.1∧wfI r.2.1∧∀c∈r.2.2,wfI c.1∧c.2.size≤140737488351232
 p:∀r∈t.P,wfI r.1∧wfI r.2
theorem zjo (h:DataW.trod enc Tryz.prog w base spare held fuel 27 cs=some x) (hz:∀m∈x.1.weights Tryz.prog 27,m≤reachBytes) (hl:cs.length=9):
 ∃(t:Tr) (p:TP),cs=[.int .i64 t.sc,.string (bsB t.dt),.string (bsB t.vn),.string (bsB t.cm),p.vs,p.vv,p.vg,p.vp,.int .i64 t.en]∧TrM w t p∧InT t:=by
 obtain⟨a,b,c,d,e,f,g,i,j,rfl⟩:=nine hl;obtain⟨n0,z0,h0,w0⟩:=fld Tryz.underlying27 h hz 0 rfl (show Tryz.prog.cellsOf 3=1 by kernel_rfl) rfl;obtain⟨n1,z1,h1,w1⟩:=fld Tryz.underlying27 h hz 1 rfl (show Tryz.prog.cellsOf 9=1 by kernel_rfl) rfl;obtain⟨n2,z2,h2,w2⟩:=fld Tryz.underlying27 h hz 2 rfl (show Tryz.prog.cellsOf 9=1 by kernel_rfl) rfl;obtain⟨n3,z3,h3,w3⟩:=fld Tryz.underlying27 h hz 3 rfl (show Tryz.prog.cellsOf 9=1 by kernel_rfl) rfl;obtain⟨n4,z4,h4,w4⟩:=fld Tryz.underlying27 h hz 4 rfl (show Tryz.prog.cellsOf 22=1 by kernel_rfl) rfl;obtain⟨n5,z5,h5,w5⟩:=fld Tryz.underlying27 h hz 5 rfl (show Tryz.prog.cellsOf 23=1 by kernel_rfl) rfl;obtain⟨n6,z6,h6,w6⟩:=fld Tryz.underlying27 h hz 6 rfl (show Tryz.prog.cellsOf 24=1 by kernel_rfl) rfl;obtain⟨n7,z7,h7,w7⟩:=fld Tryz.underlying27 h hz 7 rfl (show Tryz.prog.cellsOf 25=1 by kernel_rfl) rfl;obtain⟨n8,z8,h8,-⟩:=fld Tryz.underlying27 h hz 8 rfl (show Tryz.prog.cellsOf 3=1 by kernel_rfl) rfl;obtain⟨x0,rfl,q0⟩:=zg8 h0;obtain⟨x1,rfl,q1⟩:=zg9 h1 w1;obtain⟨x2,rfl,q2⟩:=zg9 h2 w2;obtain⟨x3,rfl,q3⟩:=zg9 h3 w3;obtain⟨v4,l4,e4,s4,q4⟩:=zjm h4 w4;injection e4 with e4 _;obtain⟨v5,l5,e5,s5,q5⟩:=zjp h5 w5;injection e5 with e5 _;obtain⟨v6,l6,e6,s6,q6⟩:=zjn h6 w6;injection e6 with e6 _;obtain⟨v7,l7,e7,s7,q7⟩:=zjl h7 w7;injection e7 with e7 _;obtain⟨x8,rfl,q8⟩:=zg8 h8;subst e4 e5 e6 e7
 exact⟨⟨x0,x1,x2,x3,l4,l5,l6.map Prod.fst,l7,x8⟩,⟨_,_,_,_,l6⟩,rfl,⟨s4,s5,s6,s7,rfl⟩,⟨q1,q2,q3⟩,⟨q0,q8⟩,q4,q5,fun r hr=>by
  obtain⟨y,hy,rfl⟩:=List.mem_map.1 hr;exact q6 y hy,q7⟩
theorem zaT {base':Nat} {v:Value} {d:DataW H} {ps:List MemPlace} (hk:Value.okWide Tryz.prog w .any base' 27 v) (h:DataW.Trod enc Tryz.prog w base spare held 27 v d ps) (hz:∀m∈d.weights Tryz.prog 27,m≤reachBytes):
 ∃(t:Tr) (p:TP),v=p.v t∧TrM w t p∧InT t:=by
 obtain⟨cs,rfl,hsz⟩:=okWide_struct Tryz.underlying27 hk;obtain⟨fuel,hf⟩:=h;have hcl:(Value.agg cs).cells=cs:=by simp[Value.cells]
 rw[hcl]at hf
 have hn:cs.toList.length=9:=by
  rw[Array.length_toList,hsz];kernel_rfl
 obtain⟨t,p,e,ht,hi⟩:=zjo hf hz hn;refine⟨t,p,?_,ht,hi⟩;unfold TP.v;exact congrArg Value.agg (Array.toList_inj.1 e)
end
structure Changed (t u:Tr):Prop where
 g:∀i (h:i<t.G.length) (h':i<u.G.length),u.G[i].1≠t.G[i].1
 s:∀i (h:i<t.S.length) (h':i<u.S.length),u.S[i]≠t.S[i]
 v:∀i (h:i<t.V.length) (h':i<u.V.length),u.V[i]≠t.V[i]
 p:∀i (h:i<t.P.length) (h':i<u.P.length),u.P[i]≠t.P[i]
theorem Changed.ne {t u:Tr} (h:Changed t u) (hn:t.G.length+t.S.length+t.V.length+t.P.length≠0):eqT u t=false:=by
 rw[←Bool.not_eq_true,zdY];rintro rfl;have h1:¬0<u.G.length:=fun h0=>h.g 0 h0 h0 rfl;have h2:¬0<u.S.length:=fun h0=>h.s 0 h0 h0 rfl;have h3:¬0<u.V.length:=fun h0=>h.v 0 h0 h0 rfl;have h4:¬0<u.P.length:=fun h0=>h.p 0 h0 h0 rfl;omega
def offK (en:Int) (g:Gp) (s:Sg):Sg:=if s.1=0 then offR en g s else s
def clrR (P:List Gp) (en:Int) (G:List Sg):List Sg:=G.map fun s=>P.foldl (fun s g=>offK en g s) s
theorem zcA (en:Int) (G:List Sg):clrR [] en G=G:=by
 unfold clrR;exact(List.map_congr_left (g:=id) fun s _=>rfl).trans (List.map_id _)
theorem zcC (P:List Gp) (g:Gp) (en:Int) (G:List Sg):clrR (P++ [g]) en G=(clrR P en G).map (offK en g):=by
 unfold clrR;rw[List.map_map];refine List.map_congr_left fun s _=>?_;rw[List.foldl_append];rfl
theorem zeH {en:Int}:∀(P:List Gp) (s:Sg),s.1=0→P.foldl (fun s g=>offK en g s) s=P.foldl (fun s g=>offR en g s) s
 | [],_,_=>rfl
 |g::P,s,h=>by
  rw[List.foldl_cons,List.foldl_cons];have:offK en g s=offR en g s:=if_pos h;rw[this];exact zeH P _ h
theorem zeG {en:Int}:∀(P:List Gp) (s:Sg),s.1≠0→P.foldl (fun s g=>offK en g s) s=s
 | [],_,_=>rfl
 |g::P,s,h=>by
  rw[List.foldl_cons];have:offK en g s=s:=if_neg h;rw[this];exact zeG P _ h
theorem zcI {P:List Gp} {en:Int} {G:List Sg} (hT:Times P en G) (hs:∀s∈G,sv s.1 s.2.1 s.2.2=true) (hl:∀s∈G,s.2.2.length+2*P.length≤4096):clrE P en G=0∧clrL P en G=clrR P en G:=by
 constructor
 ·refine zex.2 fun s hs'=>?_;split
  ·rename_i h0
   obtain⟨k,n,cs⟩:=s;have h0:k=0:=h0;subst h0;exact zjb hT (hs _ hs') (hT.ch _ hs') (hl _ hs')
  ·rfl
 ·unfold clrL clrR;refine List.map_congr_left fun s hs'=>?_;split
  ·rename_i h0
   rw[zeH P s h0];obtain⟨k,n,cs⟩:=s;have h0:k=0:=h0;subst h0;exact(zi8 hT (hs _ hs') (hT.ch _ hs') (hl _ hs') (zjb hT (hs _ hs') (hT.ch _ hs') (hl _ hs'))).symm
  ·rename_i h0
   exact(zeG P s h0).symm
theorem zaB (acc:List Gp) (g:Gp):(zay acc g).length≤acc.length+1:=by
 rcases znp acc with rfl|⟨A,k,rfl⟩
 ·simp[zaC]
 ·rw[zaD];split<;>simp
theorem zgG:∀(l:List Gp) (b:Int) (acc P:List Gp),zgE b acc l=some P→P.length≤acc.length+l.length
 | [],_,acc,P,h=>by injection h with h;subst h;simp
 |g::t,b,acc,P,h=>by
  rw[zgF]at h;split at h
  ·cases h
  ·have:=zgG t _ _ _ h;have:=zaB acc g;rw[List.length_cons];omega
structure SmallT (t:Tr):Prop where
 g:∀s∈t.G,s.2.2.length≤1000
 p:t.P.length≤100
theorem zmV {G:List Sg} {n:Int}:sgI G n∈G∨sgI G n=(0,0,[]):=by
 unfold sgI;rw[List.getD];cases h:G[n.toNat]? with
 |none=>exact .inr rfl
 |some x=>exact .inl (List.mem_of_getElem? h)
theorem zm8 {t:Tr} (h:SmallT t):∀s∈sig1 t,s.2.2.length≤1000:=fun s hs=>by
 obtain⟨n,-,rfl⟩:=List.mem_map.1 hs;rcases zmV (G:=t.G) (n:=n)with h1|h1
 ·exact h.g _ h1
 ·rw[h1];simp
theorem zie {t:Tr} (h:SmallT t) (hn:zh6 (sig1 t)=0):∀s∈zic (sig1 t),s.2.2.length≤1000:=fun s hs=>by
 obtain⟨x,hx,rfl⟩:=List.mem_map.1 hs;have h1:=zm8 h x hx;have h2:=(ziL (zex.1 hn x hx)).1;rw[h2];have:=zh9 x.1 x.2.2 (vi x.1 x.2.1);show(zh7 x.1 (vi x.1 x.2.1) x.2.2).length≤1000;omega
def endR (t:Tr) (P:List Gp):Int:=zdM P (max t.en (zgT (zic (sig1 t)) (-1)))
theorem zbF {t:Tr} (h1:zoJ t=0) (h2:zdr t=0) (h3:zeu (fitE (sig1 t)) (zju t.S t.V).2.1=0) (h4:zh6 (sig1 t)=0) (h5:t.en<0∨1099511627776<t.en∨zgE 0 [] t.P=none):zbx t=(tr0,2):=by
 have hs:=zig (zex.1 h4)
 have e:zoL t (zic (sig1 t))=none:=by
  by_cases h0:t.en<0
  ·unfold zoL;rw[if_pos (.inl h0)]
  ·rw[zoT t (fun s hs'=>zoj (hs s hs')) (by omega)];split
   ·rfl
   ·rcases h5 with h5|h5|h5
    ·exact absurd h5 h0
    ·omega
    ·rw[h5];rfl
 unfold zbx;rw[if_neg (by simp[h1]),if_neg (by simp[h2]),if_neg (by simp[h3]),if_neg (by simp[h4]),e]
theorem zbI {t:Tr} (hS:SmallT t) (h1:zoJ t=0) (h2:zdr t=0) (h3:zeu (fitE (sig1 t)) (zju t.S t.V).2.1=0) (h4:zh6 (sig1 t)=0) (h5:0≤t.en) (h6:t.en≤1099511627776) {P:List Gp} (h7:zgE 0 [] t.P=some P):
 (16<P.length∨4096<zcZ (clrR P (endR t P) (zic (sig1 t)))→zbx t=(tr0,9))∧
 (¬(16<P.length∨4096<zcZ (clrR P (endR t P) (zic (sig1 t))))→zbx t=(⟨t.sc,t.dt,t.vn,t.cm,(zju t.S t.V).1,(zju t.S t.V).2.1,clrR P (endR t P) (zic (sig1 t)),P,endR t P⟩,0))∧
 Times P (endR t P) (zic (sig1 t))∧(∀s∈zic (sig1 t),sv s.1 s.2.1 s.2.2=true)∧P.length≤100:=by
 have hs:=zig (zex.1 h4)
 have e:zoL t (zic (sig1 t))=some (P,endR t P):=by
  rw[zoT t (fun s hs'=>zoj (hs s hs')) h5,if_neg (by omega),h7];rfl
 have hT:=(zoM e hs).1
 have hP:P.length≤100:=by
  have:=zgG _ _ _ _ h7;have:=hS.p;have e0:([]:List Gp).length=0:=rfl;omega
 obtain⟨c1,c2⟩:=zcI hT hs (fun s hs'=>by have:=zie hS h4 s hs';omega)
 have hb:zbx t=if zct P (endR t P) (zic (sig1 t))≠0 then(tr0,zct P (endR t P) (zic (sig1 t)))else(⟨t.sc,t.dt,t.vn,t.cm,(zju t.S t.V).1,(zju t.S t.V).2.1,clrL P (endR t P) (zic (sig1 t)),P,endR t P⟩,0):=by
  unfold zbx;rw[if_neg (by simp[h1]),if_neg (by simp[h2]),if_neg (by simp[h3]),if_neg (by simp[h4]),e]
 have hc:zct P (endR t P) (zic (sig1 t))=if 16<P.length∨4096<zcZ (clrR P (endR t P) (zic (sig1 t)))then 9 else 0:=by
  unfold zct;rw[c1,c2];by_cases h8:16<P.length
  ·rw[if_pos h8,if_pos (.inl h8)]
  ·rw[if_neg h8,if_neg (by simp)];by_cases h9:4096<zcZ (clrR P (endR t P) (zic (sig1 t)))
   ·rw[if_pos h9,if_pos (.inr h9)]
   ·rw[if_neg h9,if_neg (by omega)]
 rw[c2]at hb;refine⟨fun h=>?_,fun h=>?_,hT,hs,hP⟩
 ·rw[hb,hc,if_pos h,if_pos (by decide)]
 ·rw[hb,hc,if_neg h,if_neg (by decide)]
end Go.Proofs.YtbiadennhnokhaaGreatDoor
