import Derived.Test.YtbiadennhnokhaaGreatDoorZ00
import Derived.Test.YtbiadennhnokhaaGreatDoorZ19
import Derived.Test.YtbiadennhnokhaaGreatDoorZ21
set_option maxRecDepth 100000
set_option maxHeartbeats 16000000
namespace Go.Proofs.YtbiadennhnokhaaGreatDoor
set_option linter.unusedSimpArgs false
theorem zeA:Fit []:=⟨by simp,fun c hc=>by cases hc⟩
theorem zeB {l m:List Ch} (h:Fit l) (hm:m.Sublist l):Fit m:=⟨Nat.le_trans hm.length_le h.1,fun c hc=>h.2 c (hm.subset hc)⟩
theorem zqe (k n:Int):(vi k n).size≤1000:=by
 cases h:vt k n
 ·have:vi k n=⟨#[]⟩:=by simp[vi,h]
  rw[this];decide
 ·exact zqA (zqB h)
theorem zaV (k n:Int) (l:List Ch) (t:Int):(atR k n l t).1.size≤1000:=by
 unfold atR;split
 ·show(0:Nat)≤1000;omega
 split
 ·show(0:Nat)≤1000;omega
 ·rename_i h _
  have h2:sv k n l=true:=by simpa using h
  dsimp only;rw[zpy h2];exact zqA (zp6 h2 t)
theorem ziU (x:ByteArray) (at_:Int→ByteArray) (en:Int):∀(P:List Gp) (cs:List Ch),(offL x at_ en P cs).length≤cs.length+2*P.length
 | [],cs=>by simp[offL]
 |g::P,cs=>by
  rw[ziS];have h:=ziU x at_ en P ((cs.dropWhile fun c=>decide (c.1<g.1)).dropWhile fun c=>decide (c.1≤zeS en g));have h1:=(List.dropWhile_sublist (l:=cs.dropWhile fun c=>decide (c.1<g.1)) (fun c=>decide (c.1≤zeS en g))).length_le
  have h2:(cs.takeWhile fun c=>decide (c.1<g.1)).length+(cs.dropWhile fun c=>decide (c.1<g.1)).length=cs.length:=by
   rw[←List.length_append,List.takeWhile_append_dropWhile]
  have h3:(if zeS en g≤1099511627776 then [(zeS en g,at_ (zeS en g))]else []).length≤1:=by split<;>simp
  simp only[List.length_append,List.length_cons];omega
theorem ziT (k n:Int) (l:List Ch) (en:Int) (hen:en≤1099511627776) (P:List Gp) (hP:P.length≤1000) (hl:Fit l) (hl2:l.length≤100000):Fit (offL (vi k n) (fun t=>(atR k n l t).1) en P l):=by
 refine⟨by have:=ziU (vi k n) (fun t=>(atR k n l t).1) en P l;omega,fun c hc=>?_⟩;rcases ziW _ _ _ hen _ _ _ hc with h|⟨g,-,rfl⟩|⟨g,-,rfl,-⟩
 ·exact hl.2 c h
 ·have:=zqe k n;dsimp only;omega
 ·have:=zaV k n l (zeS en g);dsimp only;omega
theorem zaA (acc:List Gp) (g:Gp):(zay acc g).length≤acc.length+1:=by
 rcases znp acc with rfl|⟨A,h,rfl⟩
 ·rw[zaC];simp
 ·rw[zaD];split<;>simp
theorem zeZ:∀(l:List Gp) (b:Int) (acc:List Gp) (en:Int) (P:List Gp) (en':Int),zeV b acc en l=some (P,en')→P.length≤acc.length+l.length
 | [],b,acc,en,P,en',h=>by
   injection h with h;injection h with h1 h2;subst h1;simp
 |g::t,b,acc,en,P,en',h=>by
  rw[zeW]at h;split at h
  ·cases h
  ·have h1:=zeZ t _ _ _ _ _ h;have h2:=zaA acc g;simp;omega
structure FB (t:Tr):Prop where
 tx:t.dt.length≤100000∧t.vn.length≤100000∧t.cm.length≤100000
 l:t.S.length≤1000∧t.V.length≤1000
 n:(∀s∈t.S,s.1.length≤100000)∧∀x∈t.V,x.nm.length≤100000
 g:∀s∈t.G,Fit s.2.2∧s.2.2.length≤100000
 p:t.P.length≤1000
theorem zm7 {t:Tr} (h:FB t):∀s∈sig1 t,Fit s.2.2∧s.2.2.length≤100000:=by
 intro s hs;obtain⟨n,-,rfl⟩:=List.mem_map.1 hs;unfold sgI;by_cases hn:n.toNat<t.G.length
 ·unfold List.getD;rw[List.getElem?_eq_getElem hn];exact h.g _ (List.getElem_mem hn)
 ·unfold List.getD;rw[List.getElem?_eq_none (by omega)];exact⟨zeA,by simp⟩
theorem zdw {t:Tr} (hd:zdr t=0):(∀v∈(zju t.S t.V).2.1,0≤v.sg∧v.sg<(sig1 t).length)∧(sig1 t).length≤64∧(zju t.S t.V).2.1.length=t.V.length:=by
 obtain⟨-,hO,-,h64⟩:=zdt hd;have hs:(sig1 t).length=(vrF t.S t.V).2.length:=by unfold sig1;rw[List.length_map,hO]
 rw[hs,hO];refine⟨fun v hv=>?_,h64,?_⟩
 ·obtain⟨x,-,-,h0,hx⟩:=ziy _ _ v hv;have:=(List.getElem?_eq_some_iff.1 hx).1;have h2:v.sg.toNat<(vrF t.S t.V).2.length:=this;exact⟨h0,by omega⟩
 ·have:=congrArg List.length (ziz (fun _:Vr=>(0:Int)) (fun _ _=>rfl) (vr2 t.S t.V) [])
  have h3:(vrF t.S t.V).1.length=(vr2 t.S t.V).length:=by
   unfold vrF;simpa using this
  show(vrF t.S t.V).1.length=_;rw[h3];unfold vr2;rw[zgi];simp[vr1]
theorem zii {t:Tr} (h:FB t) (hn:zh6 (sig1 t)=0):∀s∈zic (sig1 t),Fit s.2.2∧s.2.2.length≤4096∧sv s.1 s.2.1 s.2.2=true:=by
 intro s hs;obtain⟨x,hx,rfl⟩:=List.mem_map.1 hs
 have h0:∀(G:List Sg),zh6 G=0→∀y∈G,(zij y.1 y.2.1 y.2.2).2=0:=by
  intro G;induction G with
  |nil=>intro _ y hy;cases hy
  |cons z G ih=>
   intro hG y hy;unfold zh6 zeu at hG;split at hG
   ·rename_i hz;exact absurd hG hz
   ·rename_i hz
    rcases List.mem_cons.1 hy with rfl|hy
    ·simpa using hz
    ·exact ih hG y hy
 have h1:=h0 _ hn x hx;obtain⟨e,-,-,-,h4⟩:=ziL h1;rw[e];exact⟨zeB (zm7 h x hx).1 (zib _ _ _),h4,ziM h1⟩
def stg (t:Tr):Nat→Tr
 |0=>tr0
 |1=>{tr0 with sc:=t.sc,dt:=t.dt,vn:=t.vn,cm:=t.cm}
 |2=>{tr0 with sc:=t.sc,dt:=t.dt,vn:=t.vn,cm:=t.cm,S:=(zju t.S t.V).1,V:=(zju t.S t.V).2.1,G:=sig1 t}
 |3=>{tr0 with sc:=t.sc,dt:=t.dt,vn:=t.vn,cm:=t.cm,S:=(zju t.S t.V).1,V:=(zju t.S t.V).2.1,G:=sig1 t}
 |4=>{tr0 with sc:=t.sc,dt:=t.dt,vn:=t.vn,cm:=t.cm,S:=(zju t.S t.V).1,V:=(zju t.S t.V).2.1,G:=zic (sig1 t)}
 |5=>match zoL t (zic (sig1 t))with
  |none=>tr0
  |some (P,en)=>⟨t.sc,t.dt,t.vn,t.cm,(zju t.S t.V).1,(zju t.S t.V).2.1,zic (sig1 t),P,en⟩
 |_=>(zbx t).1
def cod (t:Tr):Nat→Int
 |0=>zoJ t
 |1=>zdr t
 |2=>zeu (fitE (sig1 t)) (zju t.S t.V).2.1
 |3=>zh6 (sig1 t)
 |4=>match zoL t (zic (sig1 t))with
  |none=>2
  |some _=>0
 |_=>match zoL t (zic (sig1 t))with
  |none=>0
  |some r=>zct r.1 r.2 (zic (sig1 t))
theorem cod4 (t:Tr):cod t 4=match zoL t (zic (sig1 t))with
 |none=>2
 |some _=>0:=rfl
theorem cod5 (t:Tr):cod t 5=match zoL t (zic (sig1 t))with
 |none=>0
 |some r=>zct r.1 r.2 (zic (sig1 t)):=rfl
theorem zbB {t:Tr} {k:Nat} (hk:k<6) (h0:∀j<k,cod t j=0) (h:cod t k≠0):(zbx t).2=cod t k:=by
 unfold zbx;match k,hk with
 |0,_=>rw[if_pos (show zoJ t≠0 from h)];rfl
 |1,_=>
  have a0:zoJ t=0:=h0 0 (by omega);rw[if_neg (by simp[a0]),if_pos (show zdr t≠0 from h)];rfl
 |2,_=>
  have a0:zoJ t=0:=h0 0 (by omega);have a1:zdr t=0:=h0 1 (by omega);rw[if_neg (by simp[a0]),if_neg (by simp[a1]),if_pos (show zeu (fitE (sig1 t)) (zju t.S t.V).2.1≠0 from h)];rfl
 |3,_=>
  have a0:zoJ t=0:=h0 0 (by omega);have a1:zdr t=0:=h0 1 (by omega);have a2:zeu (fitE (sig1 t)) (zju t.S t.V).2.1=0:=h0 2 (by omega);rw[if_neg (by simp[a0]),if_neg (by simp[a1]),if_neg (by simp[a2]),if_pos (show zh6 (sig1 t)≠0 from h)];rfl
 |4,_=>
  have a0:zoJ t=0:=h0 0 (by omega);have a1:zdr t=0:=h0 1 (by omega);have a2:zeu (fitE (sig1 t)) (zju t.S t.V).2.1=0:=h0 2 (by omega);have a3:zh6 (sig1 t)=0:=h0 3 (by omega);rw[if_neg (by simp[a0]),if_neg (by simp[a1]),if_neg (by simp[a2]),if_neg (by simp[a3])];rw[cod4]at h⊢;cases e:zoL t (zic (sig1 t))with
  |none=>rfl
  |some r=>rw[e]at h;exact absurd rfl h
 |5,_=>
  have a0:zoJ t=0:=h0 0 (by omega);have a1:zdr t=0:=h0 1 (by omega);have a2:zeu (fitE (sig1 t)) (zju t.S t.V).2.1=0:=h0 2 (by omega);have a3:zh6 (sig1 t)=0:=h0 3 (by omega);rw[if_neg (by simp[a0]),if_neg (by simp[a1]),if_neg (by simp[a2]),if_neg (by simp[a3])];have a4:=h0 4 (by omega);rw[cod4]at a4;rw[cod5]at h⊢;cases e:zoL t (zic (sig1 t))with
  |none=>rw[e]at a4;exact absurd a4 (by decide)
  |some r=>
   rw[e]at h;obtain⟨P,en⟩:=r;dsimp only at h⊢;rw[if_pos h]
theorem zbH {t:Tr} (h0:∀j<6,cod t j=0):(zbx t).2=0∧∃P en,zoL t (zic (sig1 t))=some (P,en)∧(zbx t).1=⟨t.sc,t.dt,t.vn,t.cm,(zju t.S t.V).1,(zju t.S t.V).2.1,clrL P en (zic (sig1 t)),P,en⟩:=by
 have a0:zoJ t=0:=h0 0 (by omega);have a1:zdr t=0:=h0 1 (by omega);have a2:zeu (fitE (sig1 t)) (zju t.S t.V).2.1=0:=h0 2 (by omega);have a3:zh6 (sig1 t)=0:=h0 3 (by omega);have a4:=h0 4 (by omega);have a5:=h0 5 (by omega);rw[cod4]at a4;rw[cod5]at a5;unfold zbx;rw[if_neg (by simp[a0]),if_neg (by simp[a1]),if_neg (by simp[a2]),if_neg (by simp[a3])];cases e:zoL t (zic (sig1 t))with
 |none=>rw[e]at a4;exact absurd a4 (by decide)
 |some r=>
  rw[e]at a5;obtain⟨P,en⟩:=r;dsimp only at a5⊢;rw[if_neg (by simp[a5])];exact⟨rfl,P,en,rfl,rfl⟩
theorem zoS {t:Tr} (h:FB t) (hn:zh6 (sig1 t)=0) {P:List Gp} {en:Int} (e:zoL t (zic (sig1 t))=some (P,en)):P.length≤1000∧(∀g∈P,g.2≤1099511627777)∧en≤1099511627776:=by
 unfold zoL at e;split at e
 ·cases e
 ·rename_i hen
  cases hg:zeV 0 [] t.en t.P with
  |none=>rw[hg]at e;cases e
  |some r=>
   rw[hg]at e;obtain⟨P2,en2⟩:=r;injection e with e;injection e with e1 e2;subst e1;have h1:=zeZ _ _ _ _ _ _ hg;obtain⟨⟨c,hc⟩,-,-,h4,-⟩:=ze0 _ _ _ _ _ _ hg ⟨trivial,(fun g hg=>by cases hg),(fun g hg=>by cases hg)⟩ (fun x hx=>by cases hx);refine⟨by have:=h.p;simp at h1;show P2.length≤1000;omega,hc.most,?_⟩
   have hl:∀(G:List Sg) (e0:Int),e0≤1099511627776→(∀s∈G,∀c∈s.2.2,c.1≤1099511627776)→zg0 G e0≤1099511627776:=by
    intro G;induction G with
    |nil=>intro e0 h0 _;exact h0
    |cons s G ih=>
     intro e0 h0 hG;unfold zg0;rw[List.foldl_cons];refine ih _ ?_ (fun s hs=>hG s (List.mem_cons_of_mem _ hs));cases hl:s.2.2.getLast? with
     |none=>exact h0
     |some c=>
      have:=hG s (List.mem_cons_self ..) c (List.mem_of_getLast? hl);exact Int.max_le.2 ⟨h0,this⟩
   rw[←e2];refine hl _ _ (by omega) (fun s hs c hc=>?_);have h5:=(zii h hn s hs).2.2;exact(zoi h5 c hc).2.1
open Go.RowKit
def fewG (lim:Int):Int→List Sg→Bool
 |_,[]=>true
 |n,s::G=>!decide (lim<n+s.2.2.length)&&few s.2.2 lim&&fewG lim (n+s.2.2.length) G
def fewT (t:Tr) (lim:Int):Bool:=fewH t.S t.V&&(decide (t.G.length≤70)&&decide (t.P.length≤20)&&decide (t.dt.length+t.vn.length+t.cm.length≤700))&&fewG lim 0 t.G
theorem zlr (t:Tr) (p:TP) (lim:Int) (w:World) (ht:TrM w t p) (hl:0≤lim∧lim≤1000) (htx:t.dt.length≤140737488355328∧t.vn.length≤140737488355328∧t.cm.length≤140737488355328):
 Calls Tryz.prog 13 #[p.v t,.int .i64 lim] w fun e w'=>e=.returned (.bool (fewT t lim))∧Below w.heap.size w w':=by
 obtain⟨a1,k1,e1,-,-⟩:=ht.s.shape;obtain⟨a2,k2,e2,-,-⟩:=ht.v.shape;obtain⟨a3,k3,e3,hk3,hm3⟩:=ht.g.s.shape;obtain⟨a4,k4,e4,-,-⟩:=ht.q.shape;have hGL:=ht.len;unfold maxLen at hm3;have hb1:Below w.heap.size w (w.alloc (.cells #[.int .i64 t.sc,.string (bsB t.dt),.string (bsB t.vn),.string (bsB t.cm),.slice a1 t.S.length k1,.slice a2 t.V.length k2,.slice a3 t.G.length k3,.slice a4 t.P.length k4,.int .i64 t.en] 27)):=(Below.refl _ _).alloc (Nat.le_refl _) _;have HX:=lhd (zal.fresh w #[.int .i64 t.sc,.string (bsB t.dt),.string (bsB t.vn),.string (bsB t.cm),.slice a1 t.S.length k1,.slice a2 t.V.length k2,.slice a3 t.G.length k3,.slice a4 t.P.length k4,.int .i64 t.en] 27);have HT:=lhd (ht.below hb1);have HB1:=lhd hb1;have hfh:=zlq p.vs p.vv t.S t.V _ (ht.s.below hb1) (ht.v.below hb1);rw[e1,e2]at hfh;have HFH:=lhd hfh;have HE3:=lhd e3;have HGL:=lhd hGL;rw[hGL]at hk3;unfold TP.v;rw[e1,e2,e3,e4,hGL];have z1:(bsB t.dt).size=t.dt.length:=rfl;have z2:(bsB t.vn).size=t.vn.length:=rfl;have z3:(bsB t.cm).size=t.cm.length:=rfl;obtain⟨u1,u2,u3⟩:=htx;by_cases h0:fewH t.S t.V=true
 ·rw[h0]at HFH;by_cases h1:t.G.length≤70
  ·have b1:¬(70:Int)<(t.G.length:Int):=by omega
   by_cases h2:t.P.length≤20
   ·have b2:¬(20:Int)<(t.P.length:Int):=by omega
    by_cases h3:t.dt.length+t.vn.length+t.cm.length≤700
    ·have b3:¬(700:Int)<((bsB t.dt).size:Int)+(bsB t.vn).size+(bsB t.cm).size:=by omega
     have HFT:=lhd (show fewT t lim=fewG lim 0 t.G by unfold fewT;rw[h0,decide_eq_true h1,decide_eq_true h2,decide_eq_true h3];rfl);clear ht e1 e2 e3 e4 hGL hb1 hfh h0 h1 h2 h3;go_enter Tryz.func13,Tryz.ntmps13;go_wp2_with fail;refine(HFH.out).mono ?_;rintro e w2 ⟨rfl,rfl⟩;go_wp2_with fail;have hwz:w.heap.size<(w.alloc (.cells #[.int .i64 t.sc,.string (bsB t.dt),.string (bsB t.vn),.string (bsB t.cm),.slice a1 t.S.length k1,.slice a2 t.V.length k2,.slice a3 t.G.length k3,.slice a4 t.P.length k4,.int .i64 t.en] 27)).heap.size:=by simp
     generalize w.alloc (.cells #[.int .i64 t.sc,.string (bsB t.dt),.string (bsB t.vn),.string (bsB t.cm),.slice a1 t.S.length k1,.slice a2 t.V.length k2,.slice a3 t.G.length k3,.slice a4 t.P.length k4,.int .i64 t.en] 27)=w1 at*;have c6:=HX.out.cell (j:=6) rfl;clear b1 b2 b3 z1 z2 z3 u1 u2 u3;go_loopw [6,5] (fun i n_ wr=>∃(k:Nat) (n:Int),k≤t.G.length∧i=.int .i64 k∧n_=.int .i64 n∧0≤n∧n≤lim∧fewG lim n (t.G.drop k)=fewG lim 0 t.G∧wr=w1) (fun i _ _=>t.G.length-(intOf i).toNat)
     case atStart=>exact⟨0,0,Nat.zero_le _,rfl,rfl,by omega,by omega,rfl,rfl⟩
     case round=>
      obtain⟨k,n,hk,rfl,rfl,hn1,hn2,hgo,rfl⟩:=hrel;have HGO:=lhd hgo;clear hgo;by_cases hlt:k<t.G.length
      ·have hm:k<p.M.length:=by rw[HGL.out];exact hlt
       have hsg:=HT.out.g;rw[HE3.out]at hsg;obtain⟨b,o,rfl,s0,s1,s2,s3⟩:=hsg.at hm
       have hMk:p.M[k].1=t.G[k]:=by
        have h1:(p.M.map Prod.fst)[k]? =some p.M[k].1:=by rw[List.getElem?_map,List.getElem?_eq_getElem hm];rfl
        rw[HT.out.m,List.getElem?_eq_getElem hlt]at h1;exact(Option.some.inj h1).symm
       have HDR:=lhd (List.drop_eq_getElem_cons hlt);rw[hMk]at s3;generalize t.G[k]=x at*;obtain⟨kd,wd,cl⟩:=x;dsimp only at s3;generalize p.M[k].2=vx at*;obtain⟨xa,xc,rfl,hc1,hc2⟩:=s3.shape;unfold maxLen at hc2;have HFW:=lhd (zkS (.slice xa cl.length xc) cl lim wr s3);have hgo2:=HGO.out;rw[HDR.out]at hgo2;have hgo3:(!decide (lim<n+(cl.length:Int))&&few cl lim&&fewG lim (n+(cl.length:Int)) (t.G.drop (k+1)))=fewG lim 0 t.G:=hgo2;clear s0 s1 s3 hsg hMk hm hgo2;by_cases hcl:cl.length≤140737488355328
       rotate_left
       ·have hfw:few cl lim=false:=by unfold few;rw[decide_eq_false (by omega),Bool.and_false]
        have HR:=lhd (show false=fewT t lim by rw[HFT.out,←hgo3,hfw,Bool.and_false];rfl);rw[hfw]at HFW;clear hgo3 hfw hcl;by_cases hq:lim<wrap64 (n+(cl.length:Int))
        ·go_wp2_with fail;go_ret;exact⟨zli HR.out,HB1.out⟩
        ·go_wp2_with fail;refine HFW.out.mono ?_;rintro e w2 ⟨rfl,rfl⟩;go_wp2_with fail;go_ret;exact⟨zli HR.out,HB1.out⟩
       by_cases h1:lim<n+(cl.length:Int)
       ·have HR:=lhd (show false=fewT t lim by rw[HFT.out,←hgo3,decide_eq_true h1];rfl);have bb:decide (lim<n+(cl.length:Int))=true:=by simpa using h1
        clear hgo3;go_wp2_with fail;go_ret;exact⟨zli HR.out,HB1.out⟩
       ·have bb:decide (lim<n+(cl.length:Int))=false:=by simpa using h1
        cases hfw:few cl lim with
        |false=>
         have HR:=lhd (show false=fewT t lim by rw[HFT.out,←hgo3,hfw,Bool.and_false];rfl);rw[hfw]at HFW;clear hgo3 hfw;go_wp2_with fail;refine HFW.out.mono ?_;rintro e w2 ⟨rfl,rfl⟩;go_wp2_with fail;go_ret;exact⟨zli HR.out,HB1.out⟩
        |true=>
         have HG2:=lhd (show fewG lim (n+(cl.length:Int)) (t.G.drop (k+1))=fewG lim 0 t.G by rw[←hgo3,hfw,bb];rfl);rw[hfw]at HFW;clear hgo3 hfw;go_wp2_with fail;refine HFW.out.mono ?_;rintro e w2 ⟨rfl,rfl⟩;go_wp2_with fail;go_roundw;case rel=>exact⟨k+1,n+(cl.length:Int),hlt,by go_num,by go_num,by omega,by omega,HG2.out,by trivial⟩
         case measure=>simp[intOf];omega
      ·obtain rfl:k=t.G.length:=by omega
       have HR:=lhd (show true=fewT t lim by rw[HFT.out,←HGO.out,List.drop_length];rfl);go_wp2_with fail;go_ret;exact⟨zli HR.out,HB1.out⟩
    ·have b3:(700:Int)<((bsB t.dt).size:Int)+(bsB t.vn).size+(bsB t.cm).size:=by omega
     have HR:=lhd (show false=fewT t lim by unfold fewT;rw[h0,decide_eq_true h1,decide_eq_true h2,decide_eq_false h3];rfl);clear ht e1 e2 e3 e4 hGL hb1 hfh h0 h1 h2 h3;go_enter Tryz.func13,Tryz.ntmps13;go_wp2_with fail;refine(HFH.out).mono ?_;rintro e w2 ⟨rfl,rfl⟩;go_wp2_with fail;go_ret;exact⟨zli HR.out,HB1.out⟩
   ·have b2:(20:Int)<(t.P.length:Int):=by omega
    have HR:=lhd (show false=fewT t lim by unfold fewT;rw[h0,decide_eq_true h1,decide_eq_false h2];rfl);clear ht e1 e2 e3 e4 hGL hb1 hfh h0 h1 h2;go_enter Tryz.func13,Tryz.ntmps13;go_wp2_with fail;refine(HFH.out).mono ?_;rintro e w2 ⟨rfl,rfl⟩;go_wp2_with fail;go_ret;exact⟨zli HR.out,HB1.out⟩
  ·have b1:(70:Int)<(t.G.length:Int):=by omega
   have HR:=lhd (show false=fewT t lim by unfold fewT;rw[h0,decide_eq_false h1];rfl);clear ht e1 e2 e3 e4 hGL hb1 hfh h0 h1;go_enter Tryz.func13,Tryz.ntmps13;go_wp2_with fail;refine(HFH.out).mono ?_;rintro e w2 ⟨rfl,rfl⟩;go_wp2_with fail;go_ret;exact⟨zli HR.out,HB1.out⟩
 ·have h00:fewH t.S t.V=false:=by simpa using h0
  rw[h00]at HFH;have HR:=lhd (show false=fewT t lim by unfold fewT;rw[h00];rfl);clear ht e1 e2 e3 e4 hGL hb1 hfh h0 h00;go_enter Tryz.func13,Tryz.ntmps13;go_wp2_with fail;refine(HFH.out).mono ?_;rintro e w2 ⟨rfl,rfl⟩;go_wp2_with fail;go_ret;exact⟨zli HR.out,HB1.out⟩
def hasS (t:Tr) (n tm lo hi:Int):Bool:=decide (0≤n)&&decide (n<(t.G.length:Int))&&decide (lo≤tm)&&decide (tm≤hi)
def znz (t:Tr) (n tm:Int):ByteArray×Int:=if hasS t n tm 0 t.en=true then atR (sgI t.G n).1 (sgI t.G n).2.1 (sgI t.G n).2.2 tm else(⟨#[]⟩,2)
theorem TrM.sg {w:World} {t:Tr} {p:TP} (h:TrM w t p) {j:Nat} (hj:j<p.M.length):sgI t.G (j:Int)=p.M[j].1:=by
 unfold sgI;rw[←h.m];simp[List.getD,hj]
theorem zfj {t:Tr} {n tm lo hi:Int}:hasS t n tm lo hi=true↔0≤n∧n<(t.G.length:Int)∧lo≤tm∧tm≤hi:=by
 unfold hasS;simp only[Bool.and_eq_true,decide_eq_true_iff,and_assoc]
structure SrcB (t:Tr):Prop where
 f:∀s∈t.G,Fit s.2.2
 e: -1≤t.en∧t.en≤1099511627776
abbrev boxT (t:Tr) (a1 a2 a3 a4:Option Addr) (k1 k2 k3 k4:Nat):Array Value:=#[.int .i64 t.sc,.string (bsB t.dt),.string (bsB t.vn),.string (bsB t.cm),.slice a1 t.S.length k1,.slice a2 t.V.length k2,.slice a3 t.G.length k3,.slice a4 t.P.length k4,.int .i64 t.en]
theorem TrM.open {w:World} {t:Tr} {p:TP} (h:TrM w t p):∃a1 k1 a2 k2 a3 k3 a4 k4,p.v t=.agg (boxT t a1 a2 a3 a4 k1 k2 k3 k4)∧p.vs=.slice a1 t.S.length k1∧p.vv=.slice a2 t.V.length k2∧p.vg=.slice a3 p.M.length k3∧p.vp=.slice a4 t.P.length k4∧t.G.length≤k3∧k3≤maxLen:=by
 obtain⟨a1,k1,e1,-,-⟩:=h.s.shape;obtain⟨a2,k2,e2,-,-⟩:=h.v.shape;obtain⟨a3,k3,e3,h3,m3⟩:=h.g.s.shape;obtain⟨a4,k4,e4,-,-⟩:=h.q.shape;refine⟨a1,k1,a2,k2,a3,k3,a4,k4,?_,e1,e2,e3,e4,by rw[←h.len];exact h3,m3⟩;unfold TP.v;rw[e1,e2,e3,e4,h.len]
theorem znB (t:Tr) (p:TP) (n tm lo hi:Int) (w:World) (ht:TrM w t p):
 Calls Tryz.prog 369 #[p.v t,.int .i64 n,.int .i64 tm,.int .i64 lo,.int .i64 hi] w fun e W'=>e=.returned (.bool (hasS t n tm lo hi))∧Below w.heap.size w W':=by
 obtain⟨a1,k1,a2,k2,a3,k3,a4,k4,e,-⟩:=ht.open;rw[e];have HB:=lhd (show Below w.heap.size w (w.alloc (.cells (boxT t a1 a2 a3 a4 k1 k2 k3 k4) 148))from(Below.refl _ _).alloc (Nat.le_refl _) _);clear ht e;by_cases h1:0≤n
 ·have b1:decide (0≤n)=true:=by simpa using h1
  by_cases h2:n<(t.G.length:Int)
  ·have b2:decide (n<(t.G.length:Int))=true:=by simpa using h2
   by_cases h3:lo≤tm
   ·have b3:decide (lo≤tm)=true:=by simpa using h3
    by_cases h4:tm≤hi
    ·have b4:decide (tm≤hi)=true:=by simpa using h4
     have HR:=lhd (show true=hasS t n tm lo hi by unfold hasS;rw[b1,b2,b3,b4];rfl);go_enter Tryz.func369,Tryz.ntmps369;go_wp2_with fail;go_ret;first|exact⟨zli HR.out,HB.out⟩|exact⟨rfl,HB.out⟩
    ·have b4:decide (tm≤hi)=false:=by simpa using h4
     have HR:=lhd (show false=hasS t n tm lo hi by unfold hasS;rw[b1,b2,b3,b4];rfl);go_enter Tryz.func369,Tryz.ntmps369;go_wp2_with fail;go_ret;first|exact⟨zli HR.out,HB.out⟩|exact⟨rfl,HB.out⟩
   ·have b3:decide (lo≤tm)=false:=by simpa using h3
    have HR:=lhd (show false=hasS t n tm lo hi by unfold hasS;rw[b1,b2,b3];rfl);go_enter Tryz.func369,Tryz.ntmps369;go_wp2_with fail;go_ret;first|exact⟨zli HR.out,HB.out⟩|exact⟨rfl,HB.out⟩
  ·have b2:decide (n<(t.G.length:Int))=false:=by simpa using h2
   have HR:=lhd (show false=hasS t n tm lo hi by unfold hasS;rw[b1,b2];rfl);go_enter Tryz.func369,Tryz.ntmps369;go_wp2_with fail;go_ret;first|exact⟨zli HR.out,HB.out⟩|exact⟨rfl,HB.out⟩
 ·have b1:decide (0≤n)=false:=by simpa using h1
  have HR:=lhd (show false=hasS t n tm lo hi by unfold hasS;rw[b1];rfl);go_enter Tryz.func369,Tryz.ntmps369;go_wp2_with fail;go_ret;first|exact⟨zli HR.out,HB.out⟩|exact⟨rfl,HB.out⟩
def mxL (l:List Ch) (e:Int):Int:=l.foldl (fun e c=>max e c.1) e
theorem zhH {l:List Ch} {q:Nat} (h:q<l.length) (e:Int):mxL (l.take (q+1)) e=max (mxL (l.take q) e) l[q].1:=by
 unfold mxL;rw[List.take_succ_eq_append_getElem h,List.foldl_append];rfl
theorem zgZ {G:List Sg} {k:Nat} (h:k<G.length) (e:Int):zgT (G.take (k+1)) e=mxL G[k].2.2 (zgT (G.take k) e):=by
 unfold zgT mxL;rw[List.take_succ_eq_append_getElem h,List.foldl_append];rfl
theorem zlu (v:Value) (L:List (Sg×Value)) (w:World) (hs:Sigs w v L) (hl:L.length≤100000):
 Calls Tryz.prog 65 #[v] w fun e w'=>e=.returned (.int .i64 (zgT (L.map Prod.fst) (-1)))∧Below w.heap.size w w':=by
 obtain⟨a,cap,rfl,hca,hm⟩:=hs.s.shape;unfold maxLen at hm;have HS:=lhd hs;clear hs;go_enter Tryz.func65,Tryz.ntmps65;go_wp2_with fail;go_loopw [3,4] (fun n_ i wr=>∃k:Nat,k≤L.length∧i=.int .i64 k∧n_=.int .i64 (zgT ((L.map Prod.fst).take k) (-1))∧Below w.heap.size w wr) (fun _ i _=>L.length-(intOf i).toNat)
 case atStart=>exact⟨0,Nat.zero_le _,rfl,rfl,Below.refl _ _⟩
 case round=>
  obtain⟨k,hk,rfl,rfl,hb⟩:=hrel;have HB:=lhd hb;clear hb;by_cases hlt:k<L.length
  ·obtain⟨b,o,rfl,d0,d1,d2,hd⟩:=(HS.out.below HB.out).at hlt
   have HT:=lhd (show zgT ((L.map Prod.fst).take (k+1)) (-1)=mxL L[k].1.2.2 (zgT ((L.map Prod.fst).take k) (-1))by
    have hk':k<(L.map Prod.fst).length:=by simpa using hlt
    rw[zgZ hk',List.getElem_map])
   have hwk:=zhO k (by omega);obtain⟨x,hx⟩:∃x,L[k]=x:=⟨_,rfl⟩;rw[hx]at d0 d1 d2 hd HT;obtain⟨⟨kk,nn,l⟩,xv⟩:=x;dsimp only at d0 d1 d2 hd HT;obtain⟨xa,xc,rfl,hlx,hxm⟩:=hd.shape;unfold maxLen at hxm;have HD:=lhd hd;have HX:=lhd hx;generalize zgT ((L.map Prod.fst).take k) (-1)=n0 at*;clear hd hx;obtain⟨wo,rfl⟩:∃wo:World,wo=wr:=⟨_,rfl⟩;go_wp2_with fail;go_loopw [3,5] (fun n_ j wr2=>∃q:Nat,q≤l.length∧j=.int .i64 q∧n_=.int .i64 (mxL (l.take q) n0)∧wr2=wo) (fun _ j _=>l.length-(intOf j).toNat)
   case atStart=>exact⟨0,Nat.zero_le _,rfl,rfl,rfl⟩
   case round=>
    obtain⟨q,hq,rfl,rfl,rfl⟩:=hrel;by_cases hql:q<l.length
    ·obtain⟨b2,o2,rfl,c0,c1⟩:=HD.out.ch hql;have HTK:=lhd (zhH hql n0);generalize l[q]=c at*;obtain⟨ct,cv⟩:=c;dsimp only at c0 c1 HTK;have hw2:IntKind.i64.wrap ((q:Int)+1)=(q:Int)+1:=IntWalk.i64_in _ (by omega);generalize mxL (l.take q) n0=m0 at*;go_wp2_with fail;go_roundw;case rel=>exact⟨q+1,hql,by go_num,by rw[HTK.out],by first|trivial|rfl⟩
     case measure=>simp[intOf];omega
    ·obtain rfl:q=l.length:=by omega
     go_wp2_with fail;go_roundw;case rel=>exact⟨k+1,hlt,by go_num,by rw[HT.out,List.take_length],HB.out⟩
     case measure=>simp[intOf];omega
  ·obtain rfl:k=L.length:=by omega
   go_wp2_with fail;go_ret;refine⟨?_,HB.out⟩;rw[List.take_of_length_le (by simp)];rfl
theorem zqL (c:UInt8) (t:Bs):zqK (c::t)=(!decide (c=36)&&(c::t).all prn):=by
 unfold zqK;simp
theorem zlV (s:Bs) (w:World) (hm:s.length≤100000):Calls Tryz.prog 222 #[.string (bsB s)] w fun e w'=>e=.returned (.bool (zqK s))∧w=w':=by
 obtain⟨R,hR⟩:∃R,R=zqK s:=⟨_,rfl⟩;rw[←hR];have HRR:=lhd hR;have hz:=zbw s;have HL:=lhd (zbq s);clear hR;have HS:=lhd hz;obtain⟨x,hx⟩:∃x,x=bsB s:=⟨_,rfl⟩;rw[←hx]at hz HL⊢;have HX:=lhd hx;clear hx;go_enter Tryz.func222,Tryz.ntmps222;go_wp2_with fail;go_loopw [3] (fun i wr=>∃k:Nat,k≤x.size∧i=.int .i64 k∧(x.data.toList.take k).all prn=true∧w=wr) (fun i _=>x.size-(intOf i).toNat)
 case atStart=>exact⟨0,Nat.zero_le _,rfl,rfl,rfl⟩
 case round=>
  obtain⟨k,hk,rfl,hall,rfl⟩:=hrel;have HA:=lhd hall;clear hall;by_cases hlt:k<x.size
  ·have hlt2:(k:Int)<(x.size:Int):=by omega
   have HT:=lhd (zaM (p:=prn) hlt);have HN:=lhd (fun h=>zaL (p:=prn) hlt h);have HP:=lhd (zlS (x[k]'hlt) w);have hw1:=zhO k (by omega);cases hp:prn (x[k]'hlt)
   ·have HR:=lhd (show R=false by
     rw[HRR.out];have h1:=HN.out hp;rw[HL.out]at h1;cases s with
     |nil=>rfl
     |cons c t=>rw[zqL,h1,Bool.and_false])
    rw[hp]at HP;clear hp;go_wp2_with fail;refine HP.out.mono ?_;rintro e w1 ⟨rfl,rfl⟩;go_wp2_with fail;go_ret;exact⟨zli HR.out.symm,rfl⟩
   ·have HA2:=lhd (show(x.data.toList.take (k+1)).all prn=true by
     rw[HT.out,HA.out,hp];rfl)
    rw[hp]at HP;clear hp;go_wp2_with fail;refine HP.out.mono ?_;rintro e w1 ⟨rfl,rfl⟩;go_wp2_with fail;go_roundw;case rel=>exact⟨k+1,by omega,by go_num,HA2.out,by first|trivial|rfl⟩
    case measure=>simp[intOf];omega
  ·obtain rfl:k=x.size:=by omega
   have hall:s.all prn=true:=by
    have:=HA.out;rwa [List.take_of_length_le (by simp),HL.out]at this
   cases s with
   |nil=>
    have HR:=lhd (show R=false by rw[HRR.out];rfl);have hx:=HX.out;obtain rfl:x=⟨#[]⟩:=hx;clear hall hz;go_wp2_with fail;go_ret;exact⟨zli HR.out.symm,rfl⟩
   |cons c t=>
    have h0:0<x.size:=by rw[hz];simp
    have hte:=zoZ (s:=x) (by omega);have htn:¬x.toList=[]:=by intro h;rw[h]at hte;cases hte
    have hne:¬x=(⟨#[]⟩:ByteArray):=by rintro rfl;exact absurd h0 (by decide)
    have hix:x[0]'h0=c:=by
     have:=HX.out;subst this;rfl
    have e36:=zpi c 36 (by decide);by_cases hc:c=36
    ·have HR:=lhd (show R=false by rw[HRR.out,zqL,decide_eq_true hc];rfl);have b3:((c.toNat:Int)==36)=true:=by rw[show(36:Int)=((36:Nat):Int)from rfl,e36];simp[hc]
     have b5:((c.toNat:Int) !=36)=false:=by rw[bne,b3];rfl
     clear hall hz e36 hc;go_wp2_with fail;go_ret;exact⟨zli (by first|exact HR.out.symm|exact b5.trans HR.out.symm),rfl⟩
    ·have HR:=lhd (show R=true by rw[HRR.out,zqL,decide_eq_false hc,hall];rfl);have b3:((c.toNat:Int)==36)=false:=by rw[show(36:Int)=((36:Nat):Int)from rfl,e36];simpa using hc
     have b5:((c.toNat:Int) !=36)=true:=by rw[bne,b3];rfl
     clear hall hz e36 hc;go_wp2_with fail;go_ret;exact⟨zli (by first|exact HR.out.symm|exact b5.trans HR.out.symm),rfl⟩
theorem zjD {W:World} {B e size n:Nat} {v:Value} {xs:List Value} (h:W.ownsRow B e size v n xs) (hn:0<n):∃g cap,v=.slice (some ⟨g,0,none⟩) n cap∧zal W g xs∧v.ownBlock=some g:=by
 obtain⟨m,rfl⟩:∃m,n=m+1:=⟨n-1,by omega⟩;obtain⟨g,cap,rfl⟩:=zjH h;exact⟨g,cap,rfl,zjE h,rfl⟩
theorem znq (c:UInt8) (t cur:Bs):spl (c::t) cur=if c=32 then cur::spl t []else spl t (cur++ [c]):=by rw[spl]
theorem zbp (a b:Bs):bsB a++bsB b=bsB (a++b):=by
 apply ByteArray.ext;simp[bsB]
theorem zbs {s:Bs} {k:Nat} (hk:k<s.length):(bsB s).extract k (k+1)=bsB [s[k]]:=by
 apply ByteArray.ext;rw[ByteArray.data_extract];apply Array.ext
 ·simp[bsB];omega
 ·intro i h1 h2;have:i=0:=by simp[bsB]at h2;omega
  subst this;simp[bsB]
structure SpI (w:World) (s:Bs) (k:Nat) (v:Value) (W:World) (P:List Bs) (cur:Bs):Prop where
 o:W.ownsRow w.heap.size 9 1 v (P.length+1) (strs (P++ [cur]))
 b:Below w.heap.size w W
 e:spl s []=P++spl (s.drop k) cur
 l:P.length≤k
 c:cur.length≤k
theorem SpI.drew {w W:World} {s:Bs} {k:Nat} {v:Value} {P:List Bs} {cur:Bs} (h:SpI w s k v W P cur):SpI w s k v W.drew P cur:=⟨h.o.drew,h.b.drew,h.e,h.l,h.c⟩
theorem SpI.start (w:World) (s:Bs):SpI w s 0 (.slice (some ⟨w.heap.size,0,none⟩) 1 1) (w.alloc (.cells #[.string ⟨#[]⟩] 9)) [] []:=
 ⟨World.ownsRow_lit w #[.string ⟨#[]⟩] 1 (Nat.le_refl _) (by unfold maxLen;omega) rfl,(Below.refl _ _).alloc (Nat.le_refl _) _,by simp,Nat.le_refl _,Nat.le_refl _⟩
theorem SpI.sep {w W W':World} {s:Bs} {k:Nat} {v v':Value} {P:List Bs} {cur:Bs} (h:SpI w s k v W P cur) (hk:k<s.length) (hc:s[k]=32) {o:Obj} (hg:(W.alloc o).grownBy W' v.ownBlock)
 (ho:W'.ownsRow w.heap.size 9 1 v' (P.length+1+1) (strs (P++ [cur])++ [.string ⟨#[]⟩])):SpI w s (k+1) v' W' (P++ [cur]) []:=by
 refine⟨?_,?_,?_,?_,Nat.zero_le _⟩
 ·have e1:strs (P++ [cur])++ [.string ⟨#[]⟩]=strs (P++ [cur]++ [[]]):=by simp[strs,strV];rfl
  rw[e1]at ho;simpa using ho
 ·exact(h.b.alloc h.b.size _).grown hg (by have:=h.b.size;simp;omega) (fun q hq=>(h.o.lt q hq).1)
 ·rw[h.e,List.drop_eq_getElem_cons hk,znq,if_pos hc];simp
 ·simp;have:=h.l;omega
theorem SpI.add {w W:World} {s:Bs} {k g cap:Nat} {P:List Bs} {cur:Bs} (h:SpI w s k (.slice (some ⟨g,0,none⟩) (P.length+1) cap) W P cur) (hk:k<s.length) (hc:s[k]≠32):
 SpI w s (k+1) (.slice (some ⟨g,0,none⟩) (P.length+1) cap) (W.setCell ⟨g,P.length,none⟩ (.string (bsB cur++bsB [s[k]]))) P (cur++ [s[k]]):=by
 refine⟨?_,?_,?_,?_,by have:=h.c;simp;omega⟩
 ·have h1:=h.o.stored P.length (.string (bsB cur++bsB [s[k]]))
  have e1:(strs (P++ [cur])).set P.length (.string (bsB cur++bsB [s[k]]))=strs (P++ [cur++ [s[k]]]):=by
   rw[zbp];simp[strs,strV]
  rw[e1]at h1;exact h1.1
 ·exact h.b.setCell (h.o.lt g rfl).1 _
 ·rw[h.e,List.drop_eq_getElem_cons hk,znq,if_neg hc]
 ·have:=h.l;omega
theorem zlz (s:Bs) (w:World) (hm:s.length≤100000):Calls Tryz.prog 221 #[.string (bsB s)] w fun e w'=>∃v,e=.returned v∧w'.ownsRow w.heap.size 9 1 v (spl s []).length (strs (spl s []))∧Below w.heap.size w w':=by
 obtain⟨i0,hi0,iz0,iz1,iz2⟩:=info_parts (P:=Tryz.prog) znZ;have hz:=zbw s;go_enter Tryz.func221,Tryz.ntmps221;go_wp2_with fail;go_loopw [3,4] (fun v i wr=>∃k:Nat,k≤s.length∧i=.int .i64 k∧∃P cur,SpI w s k v wr P cur) (fun _ i _=>s.length-(intOf i).toNat)
 case atStart=>exact⟨0,Nat.zero_le _,rfl,_,_,SpI.start w s⟩
 case round=>
  obtain⟨k,hk,rfl,P,cur,hI⟩:=hrel;have hPk:=hI.l;by_cases hlt:k<s.length
  ·have hlt2:k<(bsB s).size:=by rw[hz];exact hlt
   have hlt3:(k:Int)<((bsB s).size:Int):=by omega
   have hw1:=zhO k (by omega);have hix:(bsB s)[k]'hlt2=s[k]:=by simp[bsB];rfl
   have e32:=zpi s[k] 32 (by decide);obtain⟨g,cap,rfl⟩:=zjH hI.o;by_cases hc:s[k]=32
   ·have b3:((s[k].toNat:Int)==32)=true:=by rw[show(32:Int)=((32:Nat):Int)from rfl,e32];simp[hc]
    have HI:=lhd hI;have HSEP:=lhd (fun v' W' o hg ho=>hI.sep (v':=v') (W':=W') (o:=o) hlt hc hg ho);clear e32 hI hc;go_wp2_with (at_builtin;refine wpList_append_own _ rfl _ _ 171 rfl w.heap.size 9 i0 (.string ⟨#[]⟩) 1 16 Tryz.underlying171 hi0 iz0 iz1 iz2 rfl (by decide) _ _ _ rfl (World.ownsRow.alloc (by exact HI.out.o) _) ⟨wr.heap.size,0,none⟩ 1 1 [.string ⟨#[]⟩] rfl rfl (World.news_of_block (cs:=#[.string ⟨#[]⟩]) (t:=9) (fr:=(0,0)) (by exact heap_alloc_new wr _)) (by simp[Value.oneCell']) (by unfold maxLen;omega) (by omega) (by have:=HI.out.b.size;simp;omega) ?_)
    intro v7 w7 ho7 hg7 _;have HS2:=lhd (HSEP.out v7 w7 _ hg7 ho7);clear ho7 hg7 HSEP HI;go_wp2_with fail;go_roundw;case rel=>exact⟨k+1,hlt,by go_num,_,_,HS2.out⟩
    case measure=>simp[intOf];omega
   ·have b3:((s[k].toNat:Int)==32)=false:=by rw[show(32:Int)=((32:Nat):Int)from rfl,e32];simpa using hc
    have hld:=hI.o.cellAt P.length (by omega);rw[show(strs (P++ [cur]))[P.length]? =some (.string (bsB cur))by simp[strs,strV]]at hld;have hfr:=hI.o.frozenAt P.length;have HADD:=lhd (hI.add hlt hc);have hex:=zbs hlt;have hcat:¬9223372036854775807<(bsB cur).size+(bsB [s[k]]).size:=by have:=hI.c;rw[zbw,zbw,List.length_singleton];omega
    have hi1:(0:Int)≤(k:Int)+1:=by omega
    have hi2:(k:Int)+1≤(s.length:Int):=by omega
    have hi3:(k:Int)≤(k:Int)+1:=by omega
    obtain⟨n,hn⟩:∃n,P.length+1=n:=⟨_,rfl⟩;have hw2:IntKind.i64.wrap ((n:Int)-1)=(P.length:Int):=by rw[←hn,show(((P.length+1:Nat):Int)-1)=(P.length:Int)by omega];exact IntWalk.i64_in _ (by omega)
    rw[hn]at HADD⊢;have hpn:P.length<n:=by omega
    have HLD:=lhd hld;clear e32 hI hc hn hld;go_upto_region 7 with fail;refine zq0 (S:=fun w'=>w'.cell? ⟨g,P.length,none⟩=some (.string (bsB cur))) (X:=fun j=>decide (17≤j)) (by kernel_rfl) ?_;have HS:=HLD;refine zqT (i:=0) (v:=?_) rfl (by kernel_rfl) (by kernel_rfl) (by kernel_rfl) (by kernel_rfl) (fun _ _ _ h=>h) (Or.inl ⟨by rfl,?_⟩) HS.out ?_;rotate_left
    ·intro w hSw;(try dsimp only at hSw)
     go_simp;all_goals with_reducible rfl
    simp only[tkS];refine zqT (i:=1) (v:=?_) rfl (by kernel_rfl) (by kernel_rfl) (by kernel_rfl) (by kernel_rfl) (fun _ _ _ h=>h) (Or.inl ⟨by rfl,?_⟩) HS.out ?_;rotate_left
    ·intro w hSw;(try dsimp only at hSw)
     go_simp;all_goals with_reducible rfl
    simp only[tkS];refine zqT (i:=2) (v:=?_) rfl (by kernel_rfl) (by kernel_rfl) (by kernel_rfl) (by kernel_rfl) (fun _ _ _ h=>h) (Or.inl ⟨by rfl,?_⟩) HS.out ?_;rotate_left
    ·intro w hSw;(try dsimp only at hSw)
     go_simp;all_goals with_reducible rfl
    simp only[tkS];refine zqT (i:=3) (v:=?_) rfl (by kernel_rfl) (by kernel_rfl) (by kernel_rfl) (by kernel_rfl) (fun _ _ _ h=>h) (Or.inl ⟨by rfl,?_⟩) HS.out ?_;rotate_left
    ·intro w hSw;(try dsimp only at hSw)
     go_simp;all_goals with_reducible rfl
    simp only[tkS];refine zqT (i:=4) (v:=?_) rfl (by kernel_rfl) (by kernel_rfl) (by kernel_rfl) (by kernel_rfl) (fun _ _ _ h=>h) (Or.inl ⟨by rfl,?_⟩) HS.out ?_;rotate_left
    ·intro w hSw;(try dsimp only at hSw)
     go_simp;all_goals with_reducible rfl
    simp only[tkS];refine zqT (i:=5) (v:=?_) rfl (by kernel_rfl) (by kernel_rfl) (by kernel_rfl) (by kernel_rfl) (fun _ _ _ h=>h) (Or.inl ⟨by rfl,?_⟩) HS.out ?_;rotate_left
    ·intro w hSw;(try dsimp only at hSw)
     go_simp;all_goals with_reducible rfl
    simp only[tkS];refine zqT (i:=6) (v:=?_) rfl (by kernel_rfl) (by kernel_rfl) (by kernel_rfl) (by kernel_rfl) (fun _ _ _ h=>h) (Or.inl ⟨by rfl,?_⟩) HS.out ?_;rotate_left
    ·intro w hSw;(try dsimp only at hSw)
     go_simp;all_goals with_reducible rfl
    simp only[tkS];refine zqT (i:=7) (v:=?_) rfl (by kernel_rfl) (by kernel_rfl) (by kernel_rfl) (by kernel_rfl) (fun _ _ _ h=>h) (Or.inl ⟨by rfl,?_⟩) HS.out ?_;rotate_left
    ·intro w hSw;(try dsimp only at hSw)
     go_simp;all_goals with_reducible rfl
    simp only[tkS];refine zqT (i:=8) (v:=?_) rfl (by kernel_rfl) (by kernel_rfl) (by kernel_rfl) (by kernel_rfl) (fun _ _ _ h=>h) (Or.inl ⟨by rfl,?_⟩) HS.out ?_;rotate_left
    ·intro w hSw;(try dsimp only at hSw)
     go_simp;all_goals with_reducible rfl
    simp only[tkS];refine zqT (i:=9) (v:=?_) rfl (by kernel_rfl) (by kernel_rfl) (by kernel_rfl) (by kernel_rfl) (fun _ _ _ h=>h) (Or.inl ⟨by rfl,?_⟩) HS.out ?_;rotate_left
    ·intro w hSw;(try dsimp only at hSw)
     go_simp;all_goals with_reducible rfl
    simp only[tkS];refine zqT (i:=10) (v:=?_) rfl (by kernel_rfl) (by kernel_rfl) (by kernel_rfl) (by kernel_rfl) (fun _ _ _ h=>h) (Or.inl ⟨by rfl,?_⟩) HS.out ?_;rotate_left
    ·intro w hSw;(try dsimp only at hSw)
     go_simp;all_goals with_reducible rfl
    simp only[tkS];refine zqT (i:=11) (v:=?_) rfl (by kernel_rfl) (by kernel_rfl) (by kernel_rfl) (by kernel_rfl) (fun _ _ _ h=>h) (Or.inl ⟨by rfl,?_⟩) HS.out ?_;rotate_left
    ·intro w hSw;(try dsimp only at hSw)
     go_simp;all_goals with_reducible rfl
    simp only[tkS];refine zqT (i:=12) (v:=?_) rfl (by kernel_rfl) (by kernel_rfl) (by kernel_rfl) (by kernel_rfl) (fun _ _ _ h=>h) (Or.inl ⟨by rfl,?_⟩) HS.out ?_;rotate_left
    ·intro w hSw;(try dsimp only at hSw)
     go_simp;all_goals with_reducible rfl
    simp only[tkS];refine zqT (i:=13) (v:=?_) rfl (by kernel_rfl) (by kernel_rfl) (by kernel_rfl) (by kernel_rfl) (fun _ _ _ h=>h) (Or.inl ⟨by rfl,?_⟩) HS.out ?_;rotate_left
    ·intro w hSw;(try dsimp only at hSw)
     go_simp;all_goals with_reducible rfl
    simp only[tkS];refine zqT (i:=14) (v:=?_) rfl (by kernel_rfl) (by kernel_rfl) (by kernel_rfl) (by kernel_rfl) (fun _ _ _ h=>h) (Or.inl ⟨by rfl,?_⟩) HS.out ?_;rotate_left
    ·intro w hSw;(try dsimp only at hSw)
     go_simp;all_goals with_reducible rfl
    simp only[tkS];refine zqT (i:=15) (v:=?_) rfl (by kernel_rfl) (by kernel_rfl) (by kernel_rfl) (by kernel_rfl) (fun _ _ _ h=>h) (Or.inl ⟨by rfl,?_⟩) HS.out ?_;rotate_left
    ·intro w hSw;(try dsimp only at hSw)
     go_simp;split
     ·exfalso
      have h9:=hcat;omega
     all_goals with_reducible rfl
    simp only[tkS];refine zqT (i:=16) (v:=?_) rfl (by kernel_rfl) (by kernel_rfl) (by kernel_rfl) (by kernel_rfl) (fun _ _ _ h=>h) (Or.inl ⟨by rfl,?_⟩) HS.out ?_;rotate_left
    ·intro w hSw;(try dsimp only at hSw)
     go_simp;all_goals with_reducible rfl
    simp only[tkS];refine zqS (i:=17) (by kernel_rfl) rfl (fun K hK=>?_);have c17:=HLD.out;go_simp;refine hK.out _ _ (fun h=>by simp at h) ?_;clear hK;try simp only[tkS]
    refine⟨by kernel_rfl,?_⟩;go_wp2_with fail;go_roundw;case rel=>exact⟨k+1,hlt,by go_num,_,_,HADD.out.drew⟩
    case measure=>simp[intOf];omega
  ·obtain rfl:k=s.length:=by omega
   have h1:=hI.e;rw[List.drop_length,show spl [] cur=[cur]from rfl]at h1;have h2:=hI.o;rw[←h1]at h2;have h3:(spl s []).length=P.length+1:=by rw[h1];simp
   rw[←h3]at h2;have HO:=lhd h2;have HB:=lhd hI.b;clear h1 h2 h3 hI;go_wp2_with fail;go_ret;exact⟨_,rfl,HO.out,HB.out⟩
def zqF (s:Bs):Bool:=decide (s≠ [])&&(decide (s.length≤200)&&(spl s []).all zqK)
theorem zqG (s:Bs):(decide (s=[])||zqF s)=zqM s:=by
 unfold zqF zqM;by_cases h:s=[]
 ·rw[decide_eq_true h];simp
 ·rw[decide_eq_false h,decide_eq_true (show s≠ []from h)];simp only[Bool.false_or,Bool.true_and];rw[Bool.and_comm]
theorem zlD (s:Bs) (w:World) (hm:s.length≤100000):Calls Tryz.prog 169 #[.string (bsB s)] w fun e w'=>(∃a n cap,e=.returned (.slice a n cap)∧decide (0<n)=zqF s)∧Below w.heap.size w w':=by
 have hz:=zbw s;obtain⟨R,hR⟩:∃R,R=zqF s:=⟨_,rfl⟩;rw[←hR];by_cases hs0:s=[]
 ·subst hs0;have HR:=lhd (show R=false by rw[hR];rfl);have hb1:(⟨#[]⟩:ByteArray).toList.isEmpty=true:=by rw[ByteArray.toList_eq];rfl
  clear hR;show Calls Tryz.prog 169 #[.string ⟨#[]⟩] w fun e w'=>(∃a n cap,e=.returned (.slice a n cap)∧decide (0<n)=R)∧Below w.heap.size w w';go_enter Tryz.func169,Tryz.ntmps169;go_wp2_with fail;go_ret;exact⟨⟨_,_,_,rfl,by rw[HR.out];rfl⟩,Below.refl _ _⟩
 ·have hne:(bsB s).toList.isEmpty=false:=zoZ (by rw[zbw];exact fun h=>hs0 (List.length_eq_zero_iff.1 h));have htn:¬(bsB s).toList=[]:=by intro h;rw[h]at hne;cases hne
  have hxn:¬bsB s=(⟨#[]⟩:ByteArray):=fun h=>htn (by rw[h,ByteArray.toList_eq])
  have hR:R=(decide (s.length≤200)&&(spl s []).all zqK):=by
   rw[hR];unfold zqF;rw[decide_eq_true hs0,Bool.true_and]
  by_cases h2:s.length≤200
  rotate_left
  ·have HR:=lhd (show R=false by rw[hR,decide_eq_false h2,Bool.false_and]);have b2:(200:Int)<(s.length:Int):=by omega
   clear hR h2 hs0;generalize bsB s=x at*;go_enter Tryz.func169,Tryz.ntmps169;go_wp2_with fail;go_ret;exact⟨⟨_,_,_,rfl,by rw[HR.out];rfl⟩,Below.refl _ _⟩
  have b2:¬(200:Int)<(s.length:Int):=by omega
  rw[decide_eq_true h2,Bool.true_and]at hR;have HSP:=lhd (zlz s w hm);have HLE:=lhd (fun y hy=>znt s [] y hy);have hcz:(spl s []).length≤s.length+1:=by rw[znu];have:=List.count_le_length (a:=(32:UInt8)) (l:=s);omega
  have hpz:0<(spl s []).length:=by rw[znu];omega
  clear hs0;generalize spl s []=L at*;have HRR:=lhd hR;clear hR;generalize bsB s=x at*;go_enter Tryz.func169,Tryz.ntmps169;go_wp2_with fail;refine HSP.out.mono ?_;rintro e w1 ⟨v,rfl,ho,hb⟩;have HO:=lhd ho;have HB:=lhd hb;obtain⟨a,cap,rfl,-,-⟩:=(SlR.of_own ho).shape;clear ho hb HSP;go_wp2_with fail;go_loopw [4] (fun i wr=>∃k:Nat,k≤L.length∧i=.int .i64 k∧(L.take k).all zqK=true∧w1=wr) (fun i _=>L.length-(intOf i).toNat)
  case atStart=>exact⟨0,Nat.zero_le _,rfl,rfl,rfl⟩
  case round=>
   obtain⟨k,hk,rfl,hal,rfl⟩:=hrel;have HA:=lhd hal;clear hal;by_cases hlt:k<L.length
   ·obtain⟨g,cap',hv,hr,-⟩:=zjD HO.out (by omega);injection hv with e1 _ e3;subst e1 e3;have d0:w1.cell? ⟨g,k,none⟩=some (.string (bsB L[k])):=hr.cell (by simp[strs,strV,hlt]);have hle:=HLE.out L[k] (List.getElem_mem hlt);have HW:=lhd (zlV L[k] w1 (by simp at hle;omega));have hw1:=zhO k (by omega);by_cases hw:zqK L[k]=true
    ·rw[hw]at HW
     have HA2:=lhd (show(L.take (k+1)).all zqK=true by
      rw[List.take_succ_eq_append_getElem hlt,List.all_append,HA.out];simp[hw])
     clear hw hle hr;generalize L[k]=y at*;go_wp2_with fail;refine HW.out.mono ?_;rintro e w2 ⟨rfl,rfl⟩;go_wp2_with fail;go_roundw;case rel=>exact⟨k+1,hlt,by go_num,HA2.out,by first|trivial|rfl⟩
     case measure=>simp[intOf];omega
    ·have hwf:zqK L[k]=false:=by simpa using hw
     rw[hwf]at HW
     have HR:=lhd (show R=false by
      rw[HRR.out,←Bool.not_eq_true];intro h;exact hw (List.all_eq_true.1 h _ (List.getElem_mem hlt)))
     clear hw hwf hle hr;generalize L[k]=y at*;go_wp2_with fail;refine HW.out.mono ?_;rintro e w2 ⟨rfl,rfl⟩;go_wp2_with fail;go_ret;exact⟨⟨_,_,_,rfl,by rw[HR.out];rfl⟩,HB.out⟩
   ·obtain rfl:k=L.length:=by omega
    have HR:=lhd (show R=true by rw[HRR.out];have:=HA.out;rwa [List.take_length]at this);have HP:=lhd hpz;go_wp2_with fail;go_ret;exact⟨⟨_,_,_,rfl,by rw[HR.out,decide_eq_true HP.out]⟩,HB.out⟩
theorem zlB (s:Bs) (w:World) (hm:s.length≤100000):Calls Tryz.prog 124 #[.string (bsB s)] w fun e w'=>e=.returned (.bool (zqM s))∧Below w.heap.size w w':=by
 obtain⟨R,hR⟩:∃R,R=zqM s:=⟨_,rfl⟩;rw[←hR];rw[←zqG]at hR;have HW:=lhd (zlD s w hm);by_cases hs0:s=[]
 ·subst hs0;have HR:=lhd (show R=true by rw[hR];rfl);clear hR HW;show Calls Tryz.prog 124 #[.string ⟨#[]⟩] w fun e w'=>e=.returned (.bool R)∧Below w.heap.size w w';go_enter Tryz.func124,Tryz.ntmps124;go_wp2_with fail;go_ret;exact⟨zli HR.out.symm,Below.refl _ _⟩
 ·have hne:(bsB s).toList.isEmpty=false:=zoZ (by rw[zbw];exact fun h=>hs0 (List.length_eq_zero_iff.1 h));have htn:¬(bsB s).toList=[]:=by intro h;rw[h]at hne;cases hne
  have hxn:¬bsB s=(⟨#[]⟩:ByteArray):=fun h=>htn (by rw[h,ByteArray.toList_eq]);rw[decide_eq_false hs0,Bool.false_or]at hR;have HR:=lhd hR;clear hR hs0;generalize zqF s=q at*;generalize bsB s=x at*;go_enter Tryz.func124,Tryz.ntmps124;go_wp2_with fail;refine HW.out.mono ?_;rintro e w2 ⟨⟨a,n,cap,rfl,hn⟩,hb⟩;have HB:=lhd hb;have HN:=lhd (show R=decide (0<n)by rw[HR.out,←hn]);clear hn hb;go_wp2_with fail;go_ret;exact⟨zli HN.out.symm,HB.out⟩
def zkB (s:Sg) (g:Gp):Bool:=if s.1=0 then decide (val (vi s.1 s.2.1) s.2.2 g.1=vi s.1 s.2.1)&&decide ((zjP s.2.2 (g.1+1) (g.2-1)).length=0)else true
def gapR (P:List Gp) (en:Int) (i:Nat):Prop:=∀h:i<P.length,0≤P[i].1∧P[i].1<P[i].2∧P[i].2≤en+1∧∀j,(hj:j+1=i)→P[j].2<P[i].1
structure ValidR (t:Tr):Prop where
 sc:¬(t.sc< -15∨2<t.sc)
 wd:(zqM t.dt&&zqM t.vn&&zqM t.cm)=true
 hr:∃m,HierR t.S t.V m
 n:t.G.length≤64
 lo:0≤t.en
 hi:t.en≤1099511627776
 p:t.P.length≤16
 f:∀v∈t.V,v.sg<(t.G.length:Int)∧fitE t.G v=0
 nm:t.V.foldl (fun a v=>max a (v.sg+1)) 0=(t.G.length:Int)
 s:∀s∈t.G,sv s.1 s.2.1 s.2.2=true
 g:∀i,gapR t.P t.en i
 q:∀g∈t.P,∀s∈t.G,zkB s g=true
 ct:zcZ t.G≤4096
 ls:zgT t.G (-1)≤t.en
theorem ze2 {en:Int}:∀(P:List Gp) (b:Int),zae b P→(∀g∈P,0≤g.1∧g.2≤en+1)→∀i,gapR P en i
 | [],_,_,_,_=>fun h=>by simp at h
 | [g],b,⟨h1,h2,_⟩,hm,i=>fun h=>by
   have:i=0:=by simp at h;omega
   subst this;have:=hm g (by simp);exact⟨this.1,h2,this.2,fun j hj=>by omega⟩
 |g::k::P,b,⟨h1,h2,h3⟩,hm,0=>fun h=>by
  have:=hm g (by simp);exact⟨this.1,h2,this.2,fun j hj=>by omega⟩
 |g::k::P,b,⟨h1,h2,h3⟩,hm,i+1=>fun h=>by
  have ih:=ze2 (k::P) (g.2+1) h3 (fun x hx=>hm x (by simp[hx])) i (by simpa using h);refine⟨ih.1,ih.2.1,ih.2.2.1,fun j hj=>?_⟩;obtain rfl:j=i:=by omega
  cases j with
  |zero=>have:=h3.1;show g.2<k.1;omega
  |succ j=>exact ih.2.2.2 j rfl
theorem ze3 {en:Int}:∀(P:List Gp) (b:Int),(∀i,gapR P en i)→(∀h:0<P.length,b≤P[0].1)→zae b P
 | [],_,_,_=>trivial
 |g::P,b,h,hb=>by
  have h0:=h 0 (by simp);refine⟨hb (by simp),h0.2.1,ze3 (en:=en) P (g.2+1) (fun i hi=>?_) (fun hP=>?_)⟩
  ·have:=h (i+1) (by simpa using hi);refine⟨this.1,this.2.1,this.2.2.1,fun j hj=>?_⟩;subst hj;exact this.2.2.2 (j+1) rfl
  ·have:=(h 1 (by simpa using hP)).2.2.2 0 rfl;have h2:g.2<P[0].1:=this;omega
theorem ze1 {P:List Gp} {en:Int} (h:∀i,gapR P en i):∀g∈P,0≤g.1∧g.1<g.2∧g.2≤en+1:=fun g hg=>by
 obtain⟨i,hi,rfl⟩:=List.mem_iff_getElem.1 hg;have:=h i hi;exact⟨this.1,this.2.1,this.2.2.1⟩
theorem zog {k n:Int} (hk:k≠3):∀(l:List Ch) (a:Int) (v:ByteArray),svGo k n a v l=true→∀c∈l,val v l c.1=c.2∧val v l (c.1-1)≠c.2
 | [],_,_,_,c,hc=>by cases hc
 |d::l,a,v,h,c,hc=>by
  obtain⟨h1,h2,h3,h4,h5⟩:=(zn9 ..).1 h;have hnd:=zob h5;rcases List.mem_cons.1 hc with rfl|hc
  ·refine⟨?_,?_⟩
   ·rw[zpG,if_pos (Int.le_refl _),zpL hnd (by omega)]
   ·rw[zpG,if_neg (by omega),zpL hnd (by omega)];exact fun e=>h4 hk e.symm
  ·have hd:=hnd.mem c hc;have ih:=zog hk l _ _ h5 c hc;rw[zpG,zpG,if_pos (by omega),if_pos (by omega)];exact ih
theorem zpI {v:ByteArray} {a t:Int}:∀{l:List Ch},a≤t→(∀c∈l,¬(a<c.1∧c.1≤t))→val v l t=val v l a
 | [],_,_=>rfl
 |c::l,hat,h=>by
  have hc:=h c (by simp);rw[zpG,zpG];have ih:=fun v=>zpI (v:=v) (l:=l) hat fun d hd=>h d (by simp[hd]);by_cases h1:c.1≤a
  ·rw[if_pos (by omega),if_pos h1,ih]
  ·rw[if_neg (by omega),if_neg h1,ih]
theorem ValidR.times {t:Tr} (h:ValidR t):Times t.P t.en t.G:=by
 refine⟨ze3 t.P 0 h.g (fun hP=>(h.g 0 hP).1),fun g hg=>?_,h.lo,h.hi,fun s hs c hc=>?_⟩
 ·have:=ze1 h.g g hg;have:=h.hi;omega
 ·have:=(zgV t.G (-1)).2 s hs c hc;have:=h.ls;omega
theorem ValidR.valid {t:Tr} (h:ValidR t):zp9 t:=by
 obtain⟨m,hh⟩:=h.hr;have hT:=h.times;have ho:=zfH.1 hh;have hc:=(zce.1 hh.c);have hv:=fun v hv=>(zdB hc.d v hv).2.2
 have hm:m=t.G.length:=by
  have:=zmM t.V 0 m hv hh.q;have h2:=h.nm;rw[show((0:Nat):Int)=0 from rfl]at this;omega
 rw[hm]at ho;have h1:zdr t=0:=zds ho (fun n hn=>(zlZ.1 hn).2) (by rw[zlY];exact h.n)
 have e1:sig1 t=t.G:=by
  unfold sig1;rw[ho];exact zl0 t.G
 obtain⟨e2,e3⟩:=zid h.s
 have hx:∀s∈t.G,s.1=0→offF t.P t.en s=(s,0):=by
  rintro⟨k,n,cs⟩ hs h0;have h0:k=0:=h0;subst h0;have hsv:=h.s _ hs;refine zi7 hT hsv (hT.ch _ hs) fun u u0 u1 hu=>?_;unfold inG at hu;rw[List.any_eq_true]at hu;obtain⟨g,hg,hu⟩:=hu;rw[Bool.and_eq_true,decide_eq_true_iff,decide_eq_true_iff]at hu;have hq:=h.q g hg _ hs;unfold zkB at hq;rw[if_pos rfl,Bool.and_eq_true,decide_eq_true_iff,decide_eq_true_iff]at hq;obtain⟨q1,q2⟩:=hq;have q2:=List.eq_nil_of_length_eq_zero q2;have hgp:=ze1 h.g g hg;have q1:val (vi 0 n) cs g.1=vi 0 n:=q1
  refine(zpI (a:=g.1) hu.1 (fun c hc hcc=>by
   have hce:=hT.ch _ hs c hc
   have hm2:c∈zjP cs (g.1+1) (g.2-1):=by
    refine zjT.2 ⟨hc,by omega,?_⟩;have hlt:=hu.2;unfold zeS at hlt;split at hlt<;>omega
   have q2:zjP cs (g.1+1) (g.2-1)=[]:=q2;rw[q2]at hm2;cases hm2)).trans q1
 have e4:clrL t.P t.en t.G=t.G:=by
  unfold clrL;rw[List.map_congr_left (g:=id) (fun s hs=>?_),List.map_id];split
  ·rename_i h0;rw[hx s hs h0];rfl
  ·rfl
 have hb:Built t t t.P t.en:=by
  refine⟨?_,h1,?_,?_,?_,?_,?_⟩
  ·unfold zoJ;rw[if_neg h.sc,if_pos h.wd]
  ·rw[ho,e1];exact fun v hv=>(h.f v hv).2
  ·rw[e1];exact e3
  ·rw[e1,e2];exact hT.f rfl rfl
  ·rw[e1,e2];refine zcu h.p (fun s hs h0=>by rw[hx s hs h0]) ?_;rw[e4];exact h.ct
  ·rw[ho,e1,e2,e4]
 exact hb.build
theorem ValidR.of {t:Tr} (h:zp9 t):ValidR t:=by
 have hV:=zqa h;obtain⟨P,en,hb⟩:=zby h;obtain⟨hTN,hT,hs,hmap,hx,h16,hct,-,hin⟩:=hb.sigs;obtain⟨b1,b2,b3,b4,b5,b6,b7⟩:=hb;have eP:t.P=P:=by rw[b7]
 have eE:t.en=en:=by rw[b7]
 subst eP eE;have hh:HierR t.S t.V t.G.length:=zfH.2 hV.o;have hc:=zce.1 hV.c;have hv:=fun v hv=>(zdB hc.d v hv).2.2
 have hsg:∀v∈t.V,v.sg<(t.G.length:Int):=fun v hv'=>by
  have h1:=zmM t.V 0 _ hv hh.q
  have h2:∀(l:List Vr) (a:Int),a≤l.foldl (fun a v=>max a (v.sg+1)) a∧∀v∈l,v.sg+1≤l.foldl (fun a v=>max a (v.sg+1)) a:=fun l=>by
   induction l with
   |nil=>exact fun a=>⟨Int.le_refl _,fun v hv=>by cases hv⟩
   |cons x l ih=>
    intro a;rw[List.foldl_cons];obtain⟨i1,i2⟩:=ih (max a (x.sg+1));refine⟨by omega,fun v hv=>?_⟩;rcases List.mem_cons.1 hv with rfl|hv
    ·omega
    ·exact i2 v hv
  have:=(h2 t.V 0).2 v hv';rw[show((0:Nat):Int)=0 from rfl]at h1;omega
 unfold zoJ at b1;refine⟨?_,?_,⟨_,hh⟩,hV.n,hT.lo,hT.hi,h16,fun v hv'=>⟨hsg v hv',hV.f v hv'⟩,?_,hs,?_,?_,hct,?_⟩
 ·intro h1;rw[if_pos h1]at b1;cases b1
 ·split at b1
  ·cases b1
  ·split at b1
   ·assumption
   ·cases b1
 ·have:=zmM t.V 0 _ hv hh.q;rw[show((0:Nat):Int)=0 from rfl]at this;exact this
 ·exact ze2 t.P 0 hT.ok fun g hg=>⟨(hT.ok.mem g hg).1,by have:=(hT.most g hg).2;omega⟩
 ·intro g hg s hs';unfold zkB;split
  ·rename_i h0
   obtain⟨k,n,cs⟩:=s;have h0:k=0:=h0;subst h0;have hxs:=hx _ hs' rfl;have hg1:=hT.ok.mem g hg;have hg2:=hT.most g hg;have hhi:=hT.hi;have hgt:=zeT (en:=t.en) hg1.2 hg2.1
   have hi:∀u,g.1≤u→u<g.2→val (vi 0 n) cs u=vi 0 n:=fun u u0 u1=>by
    refine hxs u (by omega) (by omega) ?_;unfold inG;rw[List.any_eq_true];exact⟨g,hg,by simp;omega⟩
   rw[Bool.and_eq_true,decide_eq_true_iff,decide_eq_true_iff];refine⟨hi g.1 (Int.le_refl _) hg1.2,?_⟩;cases hp:zjP cs (g.1+1) (g.2-1)with
   |nil=>rfl
   |cons c l=>
    exfalso
    have hm:c∈zjP cs (g.1+1) (g.2-1):=by rw[hp];simp
    obtain⟨m1,m2,m3⟩:=zjT.1 hm;obtain⟨z1,z2⟩:=zog (k:=0) (n:=n) (by decide) cs _ _ (zoh.1 (hs _ hs')).2.2 c m1;rw[hi c.1 (by omega) (by omega)]at z1;rw[hi (c.1-1) (by omega) (by omega)]at z2;exact z2 z1
  ·rfl
 ·refine zgX t.G _ (by have:=hT.lo;omega) hT.ch
theorem zqb {t:Tr}:ValidR t↔zp9 t:=⟨ValidR.valid,ValidR.of⟩
end Go.Proofs.YtbiadennhnokhaaGreatDoor
