import Derived.Test.YtcdekelomkcahaaGreatDoorZ00
import Derived.Test.YtcdekelomkcahaaGreatDoorZ25
import Derived.Test.YtcdekelomkcahaaGreatDoorZ36
import Derived.Test.YtcdekelomkcahaaGreatDoorZ43
set_option maxRecDepth 100000
set_option maxHeartbeats 16000000
namespace Go.Proofs.YtcdekelomkcahaaGreatDoor
open Go.RowKit
set_option linter.unusedSimpArgs false
def wdsN (l:List Wd):Nat:=(l.map fun x=>x.1.length+1).sum
theorem zpJ {l m:List Wd} (h:l.Sublist m):wdsN l≤wdsN m:=by
 induction h with
 |slnil=>exact Nat.le_refl _
 |cons a _ ih=>simp[wdsN]at ih⊢;omega
 |cons_cons a _ ih=>simp[wdsN]at ih⊢;omega
theorem zge:∀l:List Wd,(zgc (txt l)).length≤wdsN l
 | []=>Nat.le_refl _
 | [w]=>by show w.1.length≤_;simp[wdsN]
 |w::x::l=>by
  have:=zge (x::l);show(w.1++32::zgc (txt (x::l))).length≤_;rw[List.length_append,List.length_cons];have e:wdsN (w::x::l)=w.1.length+1+wdsN (x::l):=by simp[wdsN]
  omega
theorem zpI {l:List Wd} {x:Wd} (h:x∈l):x.1.length≤wdsN l:=by
 have h1:=zpJ (List.singleton_sublist.2 h);have:wdsN [x]=x.1.length+1:=by simp[wdsN]
 omega
theorem zmi (s:DS) (w:Wd) (c:List Wd):(secP s w c).wrong.length≤s.wrong.length+1∧(secP s w c).skip≤max s.skip 0+1:=by
 have hp:∀(t:DS) (e:Int) (v:Wd),(t.prob e v).wrong.length=t.wrong.length+1∧(t.prob e v).skip=t.skip:=fun t e v=>⟨by simp[DS.prob],rfl⟩;unfold secP;split
 ·unfold zcG;(repeat' split)<;>(try simp only[hp])<;>omega
 split
 ·unfold zpc;(repeat' split)<;>(try simp only[hp])<;>omega
 split
 ·unfold zb9;(repeat' split)<;>(try simp only[hp])<;>omega
 split
 ·unfold zlQ;(repeat' split)<;>(try simp only[hp])<;>omega
 split
 ·unfold zl1;split
  ·dsimp only;omega
  ·split
   ·simp only[hp];omega
   ·unfold ziM;split<;>(dsimp only;omega)
 split
 ·unfold upP;dsimp only;(repeat' split)<;>(try simp only[hp])<;>omega
 split
 ·unfold varP;(repeat' split)<;>(try simp only[hp])<;>omega
 split
 ·unfold endD;dsimp only;split<;>(try simp only[hp])<;>omega
 ·simp only[hp];omega
theorem zni (s:DS) (w:Wd) (t:List Wd):(zcF s w t).1.wrong.length≤s.wrong.length+1∧(zcF s w t).1.skip≤max s.skip 0+1:=by
 have hp:∀(t:DS) (e:Int) (v:Wd),(t.prob e v).wrong.length=t.wrong.length+1∧(t.prob e v).skip=t.skip:=fun t e v=>⟨by simp[DS.prob],rfl⟩;unfold zcF;split
 ·simp only[hp];omega
 split
 ·simp only[hp];omega
 split
 ·exact zmi s w _
 ·simp only[hp];omega
theorem zmP {w:World} {b o n cap i k:Nat} {ws:List Wd} (h:SlR w (.slice (some ⟨b,o,none⟩) n cap) n (wds ws)) (hn:n=ws.length) (hn0:0<n) (hi:i+k≤n):SlR w (.slice (some ⟨b,o+i*4,none⟩) k (cap-i)) k (wds ((ws.drop i).take k)):=by
 obtain⟨b',o',cap',hv,h1,h2,hcell⟩:=h.at hn0;injection hv with e1 _ e3;injection e1 with e1;injection e1 with e1 e2 _;subst e1 e2 e3;refine⟨_,_,rfl,by omega,by omega,fun h=>(by cases h),fun hk=>⟨b,o+i*4,rfl,fun j u hj=>?_⟩⟩;have e:wds ws=wds (ws.take i)++(wds ((ws.drop i).take k)++wds ((ws.drop i).drop k)):=by rw[←zpK,←zpK,List.take_append_drop,List.take_append_drop]
 have hj2:=(List.getElem?_eq_some_iff.1 hj).1
 have hk2:=hcell (i*4+j) u (by
  rw[e,List.getElem?_append_right (by rw[zpQ,List.length_take];omega),zpQ,List.length_take,Nat.min_eq_left (by omega)];rw[show i*4+j-4*i=j by omega,List.getElem?_append_left hj2];exact hj)
 rwa [show o+(i*4+j)=o+i*4+j by omega]at hk2
theorem zcr (t:List Wd):zck t=t.take (zck t).length:=by
 have h:=List.takeWhile_append_dropWhile (p:=fun w:Wd=>decide (w.1≠sEnd)) (l:=t);have:=List.take_left (l₁:=zck t) (l₂:=t.dropWhile fun w=>decide (w.1≠sEnd));unfold zck at this⊢;rw[h]at this;exact this.symm
theorem zjm {W:World} {b base size:Nat} {C:Array Value} {T:TypeId} (hb:W.heap[b]? =some (.cells C T (0,0))) (h0:base≤b) (hC:C.size=size):W.ownsRow base T size (.slice (some ⟨b,0,none⟩) 1 1) 1 C.toList:=by
 refine⟨by simp[hC],.inr ⟨b,1,C,rfl,h0,hb,Nat.le_refl _,by unfold maxLen;decide,by rw[hC,Nat.one_mul],?_⟩⟩;rw[Nat.one_mul,List.take_of_length_le (by simp[hC])]
abbrev set6 (W:World) (b:Nat) (u0 u1 u2 u3 u4 u5:Value):World:=(((((W.setCell ⟨b,0,none⟩ u0).setCell ⟨b,1,none⟩ u1).setCell ⟨b,2,none⟩ u2).setCell ⟨b,3,none⟩ u3).setCell ⟨b,4,none⟩ u4).setCell ⟨b,5,none⟩ u5
theorem zln {W:World} {B B' e T size n b c:Nat} {v:Value} {xs:List Value} {v0 v1 v2 v3 v4 v5:Value} (h:W.ownsRow B e size v n xs) (hd:W.ownsRow B' T 6 (.slice (some ⟨b,0,none⟩) 1 c) 1 [v0,v1,v2,v3,v4,v5]) (hne:e≠T) (u0 u1 u2 u3 u4 u5:Value):(set6 W b u0 u1 u2 u3 u4 u5).drew.ownsRow B e size v n xs:=by
 have e0:=zjr hd 0 u0;have e1:=zjr e0 1 u1;have e2:=zjr e1 2 u2;have e3:=zjr e2 3 u3;have e4:=zjr e3 4 u4;exact zjb (zjs (zjs (zjs (zjs (zjs (zjs h hd hne 0 u0) e0 hne 1 u1) e1 hne 2 u2) e2 hne 3 u3) e3 hne 4 u4) e4 hne 5 u5) (Below.refl _ _).drew
theorem za0 {W a:World} {B b:Nat} (h:Below B a W) (hb:B≤b) (u0 u1 u2 u3 u4 u5:Value):Below B a (set6 W b u0 u1 u2 u3 u4 u5).drew:=
 Below.drew ((((((h.setCell (p:=⟨b,0,none⟩) hb u0).setCell (p:=⟨b,1,none⟩) hb u1).setCell (p:=⟨b,2,none⟩) hb u2).setCell (p:=⟨b,3,none⟩) hb u3).setCell (p:=⟨b,4,none⟩) hb u4).setCell (p:=⟨b,5,none⟩) hb u5)
theorem row6 {W:World} {B' T b c:Nat} {v0 v1 v2 v3 v4 v5:Value} (hd:W.ownsRow B' T 6 (.slice (some ⟨b,0,none⟩) 1 c) 1 [v0,v1,v2,v3,v4,v5]) (u0 u1 u2 u3 u4 u5:Value):zaq (set6 W b u0 u1 u2 u3 u4 u5) b [u0,u1,u2,u3,u4,u5]:=by
 have e0:=zjr hd 0 u0;have e1:=zjr e0 1 u1;have e2:=zjr e1 2 u2;have e3:=zjr e2 3 u3;have e4:=zjr e3 4 u4;exact zjo (zjr e4 5 u5)
theorem zmF {W:World} {b B:Nat} {s:DS} {c:DC} {vS vD vr:Value} (hne:b≠B) (u0 u1 u2 u3 u4 u5:Value) (h:zaq W B (zdR c s vS vD vr)):(set6 W b u0 u1 u2 u3 u4 u5).drew.cell? ⟨B,0,none⟩=some (.int .i64 s.sc)∧(set6 W b u0 u1 u2 u3 u4 u5).drew.cell? ⟨B,1,none⟩=some (.string (bsB s.dt))∧(set6 W b u0 u1 u2 u3 u4 u5).drew.cell? ⟨B,2,none⟩=some (.string (bsB s.vn))∧(set6 W b u0 u1 u2 u3 u4 u5).drew.cell? ⟨B,3,none⟩=some (.string (bsB s.cm))∧(set6 W b u0 u1 u2 u3 u4 u5).drew.cell? ⟨B,4,none⟩=some vS∧(set6 W b u0 u1 u2 u3 u4 u5).drew.cell? ⟨B,5,none⟩=some vD∧(set6 W b u0 u1 u2 u3 u4 u5).drew.cell? ⟨B,12,none⟩=some vr:=by
 have:=((((((h.setFar hne 0 u0).setFar hne 1 u1).setFar hne 2 u2).setFar hne 3 u3).setFar hne 4 u4).setFar hne 5 u5).drew;exact⟨this.cell (j:=0) rfl,this.cell (j:=1) rfl,this.cell (j:=2) rfl,this.cell (j:=3) rfl,this.cell (j:=4) rfl,this.cell (j:=5) rfl,this.cell (j:=12) rfl⟩
theorem znz (x:BsM):tF ds0 x=none:=by
 unfold tF ds0;simp
theorem zkt (c:UInt8) (x:Bs):Lib.hasPrefix x [c]=decide (x.head? =some c):=(zks c x).1
theorem zcd (c:UInt8) (x:Bs) (w:World):Calls Tryz.prog 48 #[.string (bsB x),.string ⟨#[c]⟩] w fun e w'=>e=.returned (.bool (decide (x.head? =some c)))∧w'=w:=by
 have:=Tryz.strings_HasPrefix (bsB x) ⟨#[c]⟩ w;rw[zbh,show(⟨#[c]⟩:ByteArray).data.toList=[c]from rfl,zkt]at this;exact this
theorem znl (x:Wd):znk x=(decide (x.1.head? =some 35)||decide (x.1∈cmdW)):=by
 unfold znk cmdW;rw[Bool.eq_iff_iff];simp only[Bool.or_eq_true,decide_eq_true_iff,List.mem_cons,List.not_mem_nil,or_false];constructor
 ·rintro((((h|h)|h)|h)|h)<;>simp[h]
 ·rintro(h|h|h|h|h)<;>simp[h]
def zar (ws:List Wd) (w:World) (e:Ending) (w':World):Prop:=
 ∃vS vD vr,e=.returned (.tuple #[.agg #[.int .i64 (zjK ws).1.sc,.string (bsB (zjK ws).1.dt),.string (bsB (zjK ws).1.vn),.string (bsB (zjK ws).1.cm),vS,vD],.int .i64 (zjK ws).2,vr])∧
  w'.ownsRow w.heap.size 84 3 vS (zjK ws).1.S.length (scs (zjK ws).1.S)∧w'.ownsRow w.heap.size 50 10 vD (zjK ws).1.D.length (dcls (zjK ws).1.D)∧w'.ownsRow w.heap.size 55 4 vr (zjK ws).1.wrong.length (prbs (zjK ws).1.wrong)∧Below w.heap.size w w'
structure PR (c:DC) (ws:List Wd) (j:Nat) (s:DS) (vS vD vr:Value) (W:World):Prop where
 h:DPar c s vS vD vr W
 v:VP s
 k:j≤ws.length
 e:zjK ws=((dRun s (ws.drop j)).1,(dRun s (ws.drop j)).2+j)
 l:s.wrong.length≤j
 q:s.skip≤j
theorem PR.next {c:DC} {ws:List Wd} {k:Nat} {s:DS} {vS vD vr:Value} {W:World} (h:PR c ws k s vS vD vr W) {x:Wd} (hx:ws.drop k=x::ws.drop (k+1)) (he:s.ended=false) {s2:DS} {n:Nat} (hd:zcF s x (ws.drop (k+1))=(s2,some n)) (hn:k+n+1≤ws.length) {vS' vD' vr':Value} {W':World} (H:DPar c s2 vS' vD' vr' W'):
 PR c ws (k+n+1) s2 vS' vD' vr' W':=by
 have hg:=zni s x (ws.drop (k+1));have hv:=zph h.v x (ws.drop (k+1));rw[hd]at hg hv;dsimp only at hg hv;refine⟨H,hv,hn,?_,by have:=h.l;omega,by have:=h.q;omega⟩;rw[h.e,hx,zcC he hd,List.drop_drop,show k+1+n=k+n+1 by omega];dsimp only;rw[show(dRun s2 (ws.drop (k+n+1))).2+(n+1)+k=(dRun s2 (ws.drop (k+n+1))).2+(k+n+1)by omega]
theorem zqF (w:World):(zeroValue 97).run Tryz.prog w=.ok .nilFunc w:=by kernel_rfl
theorem zdC {w:World} {b n:Nat} {f:BsM→Option Value} (h:SMap Tryz.prog 9 w b n f) {x:Bs} (hc:x.length≤140737488351232):
 (Instr.lookup 90 (.map (some b)) (.string (bsB x)) true).run Tryz.prog w=.ok (.tuple #[(f x).getD .nilFunc,.bool (f x).isSome]) w:=by
 have:=h.look (t:=90) Tryz.underlying9 Tryz.underlying90 (zqF w) (bsB x) (by rw[zbk];unfold maxLen;omega);rw[zbh]at this;exact this
theorem zdh (v:Value) (ws:List Wd) (w:World) (hs:SlR w v ws.length (wds ws)) (hg:Glob w) (he:zag w) (hm:Glm w) (hw:ws.length≤10000) (ht:wdsN ws≤2000000):
 Calls Tryz.prog 23 #[v] w (zar ws w):=by
 obtain⟨a,cap,rfl,hcap,hcm⟩:=hs.shape;have HS:=lhd hs;have HG:=lhd hg;have HE:=lhd he;have HM:=lhd hm;have HT:=lhd ht;have hmm:= @run_makeMap Tryz.prog;clear hs hg he hm ht;have hbk:=heap_alloc_new w (.cells #[.int .i64 0,.string ⟨#[]⟩,.string ⟨#[]⟩,.string ⟨#[]⟩,.slice none 0 0,.slice none 0 0] 25);have hb1:Below w.heap.size w (w.alloc (.cells #[.int .i64 0,.string ⟨#[]⟩,.string ⟨#[]⟩,.string ⟨#[]⟩,.slice none 0 0,.slice none 0 0] 25)):=(Below.refl _ _).alloc (Nat.le_refl _) _;have hz1:(w.alloc (.cells #[.int .i64 0,.string ⟨#[]⟩,.string ⟨#[]⟩,.string ⟨#[]⟩,.slice none 0 0,.slice none 0 0] 25)).heap.size=w.heap.size+1:=by simp
 generalize hw1:w.alloc (.cells #[.int .i64 0,.string ⟨#[]⟩,.string ⟨#[]⟩,.string ⟨#[]⟩,.slice none 0 0,.slice none 0 0] 25)=w1 at*;have ht1:=zav.made w1 Tryz.prog 9;have hg1:=zav.made (w1.alloc (.map #[] 0)) Tryz.prog 9;have hz2:(w1.alloc (.map #[] 0)).heap.size=w.heap.size+1+1:=by simp[hz1]
 have hz3:((w1.alloc (.map #[] 0)).alloc (.map #[] 0)).heap.size=w.heap.size+1+1+1:=by simp[hz1]
 rw[hz1]at ht1;rw[hz2]at hg1;have ht4:=(ht1.alloc (.map #[] 0)).alloc (.cells #[.int .i64 0,.string ⟨#[]⟩,.string ⟨#[]⟩,.string ⟨#[]⟩,.slice none 0 0,.slice none 0 0,.map (some (w.heap.size+1)),.bool false,.int .i64 (-1),.int .i64 0,.map (some (w.heap.size+1+1)),.bool false,.slice none 0 0] 89);have hg4:=hg1.alloc (.cells #[.int .i64 0,.string ⟨#[]⟩,.string ⟨#[]⟩,.string ⟨#[]⟩,.slice none 0 0,.slice none 0 0,.map (some (w.heap.size+1)),.bool false,.int .i64 (-1),.int .i64 0,.map (some (w.heap.size+1+1)),.bool false,.slice none 0 0] 89);have hp4:=zji ((w1.alloc (.map #[] 0)).alloc (.map #[] 0)) #[.int .i64 0,.string ⟨#[]⟩,.string ⟨#[]⟩,.string ⟨#[]⟩,.slice none 0 0,.slice none 0 0,.map (some (w.heap.size+1)),.bool false,.int .i64 (-1),.int .i64 0,.map (some (w.heap.size+1+1)),.bool false,.slice none 0 0] 89 w.heap.size 13 (by omega) rfl;rw[hz3]at hp4;have hb4:Below w1.heap.size w1 (((w1.alloc (.map #[] 0)).alloc (.map #[] 0)).alloc (.cells #[.int .i64 0,.string ⟨#[]⟩,.string ⟨#[]⟩,.string ⟨#[]⟩,.slice none 0 0,.slice none 0 0,.map (some (w.heap.size+1)),.bool false,.int .i64 (-1),.int .i64 0,.map (some (w.heap.size+1+1)),.bool false,.slice none 0 0] 89)):=(((Below.refl _ _).alloc (Nat.le_refl _) _).alloc (by omega) _).alloc (by omega) _;have hz4:(((w1.alloc (.map #[] 0)).alloc (.map #[] 0)).alloc (.cells #[.int .i64 0,.string ⟨#[]⟩,.string ⟨#[]⟩,.string ⟨#[]⟩,.slice none 0 0,.slice none 0 0,.map (some (w.heap.size+1)),.bool false,.int .i64 (-1),.int .i64 0,.map (some (w.heap.size+1+1)),.bool false,.slice none 0 0] 89)).heap.size=w.heap.size+1+1+1+1:=by simp[hz1]
 go_enter Tryz.func23,Tryz.ntmps23;go_upto_region 2 with fail;generalize (((w1.alloc (.map #[] 0)).alloc (.map #[] 0)).alloc (.cells #[.int .i64 0,.string ⟨#[]⟩,.string ⟨#[]⟩,.string ⟨#[]⟩,.slice none 0 0,.slice none 0 0,.map (some (w.heap.size+1)),.bool false,.int .i64 (-1),.int .i64 0,.map (some (w.heap.size+1+1)),.bool false,.slice none 0 0] 89))=w4 at*;have c0:=(zjo hp4).cell (j:=0) rfl;have f0:=(zjo hp4).free (j:=0) (by simp);have hp5:=zjr hp4 0 (.int .i64 (-9));have ht5:=ht4.setCell (a:=⟨w.heap.size+1+1+1,0,none⟩) (by show w.heap.size+1≠w.heap.size+1+1+1;omega) (.int .i64 (-9));have hg5:=hg4.setCell (a:=⟨w.heap.size+1+1+1,0,none⟩) (by show w.heap.size+1+1≠w.heap.size+1+1+1;omega) (.int .i64 (-9));have hb5:Below w.heap.size w (w4.setCell ⟨w.heap.size+1+1+1,0,none⟩ (.int .i64 (-9))):=(zd5 hb1 hb4).setCell (p:=⟨w.heap.size+1+1+1,0,none⟩) (by show w.heap.size≤w.heap.size+1+1+1;omega) _
 have hbk5:(w4.setCell ⟨w.heap.size+1+1+1,0,none⟩ (.int .i64 (-9))).heap[w.heap.size]? =some (.cells #[.int .i64 0,.string ⟨#[]⟩,.string ⟨#[]⟩,.string ⟨#[]⟩,.slice none 0 0,.slice none 0 0] 25 (0,0)):=by
  rw[Below.heap_setCell _ _ _ _ (by show w.heap.size≠w.heap.size+1+1+1;omega),hb4.block _ (by omega)];exact hbk
 have hz5:(w4.setCell ⟨w.heap.size+1+1+1,0,none⟩ (.int .i64 (-9))).heap.size=w.heap.size+1+1+1+1:=by simp[hz4]
 go_wp2_with fail;generalize w4.setCell ⟨w.heap.size+1+1+1,0,none⟩ (.int .i64 (-9))=w5 at*;refine(zdD (w.heap.size+1+1+1) w5).mono ?_;rintro e w6 ⟨kb,n,pt,tq,rfl,hkb,hk6,hx0,hx1,hx2,hb6⟩;obtain⟨c,hcd⟩:∃c:DC,c={wk:=w6,w0:=w,B:=w.heap.size+1+1+1,tb:=w.heap.size+1,cb:=w.heap.size+1+1,kb:=kb,m:=n,G:=secF (fun _=>true) (w.heap.size+1+1+1) pt tq}:=⟨_,rfl⟩
 have HP0:=lhd (show PR c ws 0 ds0 (.slice none 0 0) (.slice none 0 0) (.slice none 0 0) w6 from
  {h:=by
    rw[hcd];exact⟨zjb hp5 hb6,World.ownsRow_nil _ _ _ _,World.ownsRow_nil _ _ _ _,World.ownsRow_nil _ _ _ _,(ht5.below hb6 ht5.lt).ext fun x=>(znz x).symm,(hg5.below hb6 hg5.lt),hk6,⟨by show w.heap.size+1≠w.heap.size+1+1;omega,by show w.heap.size+1≠kb;omega,by show w.heap.size+1+1≠kb;omega⟩,by show w.heap.size≤w.heap.size+1;omega,by show w.heap.size≤w.heap.size+1+1;omega,zd5 hb5 hb6,zah.refl _ _⟩
   v:=zpd,k:=Nat.zero_le _,e:=by rw[List.drop_zero];rfl,l:=Nat.le_refl _,q:=Int.le_refl _})
 have DB0:=lhd (show ∀W,zah c.B c.wk W→W.heap[w.heap.size]? =some (.cells #[.int .i64 0,.string ⟨#[]⟩,.string ⟨#[]⟩,.string ⟨#[]⟩,.slice none 0 0,.slice none 0 0] 25 (0,0))from fun W hk=>by
  rw[hcd]at hk;refine hk _ _ _ _ (by show w.heap.size≠w.heap.size+1+1+1;omega) (by decide) (by decide) (by decide) ?_;show w6.heap[w.heap.size]? =_;rw[hb6.block _ (by omega)];exact hbk5)
 have BX0:=lhd (show ∀W,zah c.B c.wk W→(W.cell? ⟨pt 0,0,none⟩=some (.pointer (some ⟨c.B,0,none⟩))∧W.cell? ⟨tq 0,0,none⟩=some (.pointer (some ⟨c.B,1,none⟩)))∧(W.cell? ⟨pt 1,0,none⟩=some (.pointer (some ⟨c.B,0,none⟩))∧W.cell? ⟨tq 1,0,none⟩=some (.pointer (some ⟨c.B,2,none⟩)))∧(W.cell? ⟨pt 2,0,none⟩=some (.pointer (some ⟨c.B,0,none⟩))∧W.cell? ⟨tq 2,0,none⟩=some (.pointer (some ⟨c.B,3,none⟩)))from fun W hk=>by
  rw[hcd]at hk⊢
  have key:∀p q j,BxT (w.heap.size+1+1+1) w5 w6 p q j→W.cell? ⟨p,0,none⟩=some (.pointer (some ⟨w.heap.size+1+1+1,0,none⟩))∧W.cell? ⟨q,0,none⟩=some (.pointer (some ⟨w.heap.size+1+1+1,j,none⟩)):=fun p q j h=>
   ⟨(zjo (zjm (base:=0) (hk _ _ _ _ (by have:=h.1;show p≠w.heap.size+1+1+1;omega) (by decide) (by decide) (by decide) h.2.2.1) (Nat.zero_le _) rfl)).cell (j:=0) rfl,(zjo (zjm (base:=0) (hk _ _ _ _ (by have:=h.2.1;show q≠w.heap.size+1+1+1;omega) (by decide) (by decide) (by decide) h.2.2.2) (Nat.zero_le _) rfl)).cell (j:=0) rfl⟩
  exact⟨key _ _ _ hx0,key _ _ _ hx1,key _ _ _ hx2⟩)
 have CB:=lhd (show c.B=w.heap.size+1+1+1 by rw[hcd]);have CK:=lhd (show c.kb=kb by rw[hcd]);have CG:=lhd (show c.G=secF (fun _=>true) c.B pt tq by rw[hcd]);have CW:=lhd (show c.w0=w by rw[hcd]);clear hcd hbk hb1 ht1 hg1 ht4 hg4 hp4 hb4 c0 f0 hp5 ht5 hg5 hb5 hbk5 hkb hk6 hx0 hx1 hx2 hb6 hmm hw1 hz2 hz3 hz4 hz5 hz1;rw[←CB.out,←CK.out];go_wp2_with fail;go_loopw [7] (fun i wr=>∃(k:Nat) (s:DS) (vS vD vr:Value),i=.int .i64 k∧PR c ws k s vS vD vr wr) (fun i _=>ws.length-(intOf i).toNat)
 case atStart=>exact⟨0,_,_,_,_,rfl,HP0.out⟩
 case round=>
  obtain⟨k,s,vS,vD,vr,rfl,hpr⟩:=hrel;obtain⟨aS,cS,rfl,-,-⟩:=(SlR.of_own hpr.h.S).shape;obtain⟨aD,cD,rfl,-,-⟩:=(SlR.of_own hpr.h.D).shape;obtain⟨aR,cR,rfl,-,-⟩:=(SlR.of_own hpr.h.r).shape;have HPR:=lhd hpr;clear hpr;have c11:=HPR.out.h.row.cell (j:=11) rfl;by_cases hend:s.ended=true
  ·have hE:zjK ws=(s,k):=by rw[HPR.out.e,zcB hend,Nat.zero_add]
   rw[hend]at c11;clear hend;rcases Nat.lt_or_ge k ws.length with hlt|hlt
   all_goals
    have HEE:=lhd hE;have HH:=lhd HPR.out.h;clear hE;go_upto_region 18 with fail;have hdb:=DB0.out _ HH.out.kp;have HDO:=lhd (zjm (base:=w.heap.size) (size:=6) hdb (Nat.le_refl _) rfl);have p0:=HH.out.row.cell (j:=0) rfl;have p1:=HH.out.row.cell (j:=1) rfl;have p2:=HH.out.row.cell (j:=2) rfl;have p3:=HH.out.row.cell (j:=3) rfl;have p4:=HH.out.row.cell (j:=4) rfl;have p5:=HH.out.row.cell (j:=5) rfl;have p12:=HH.out.row.cell (j:=12) rfl;have q0:=(zjo HDO.out).cell (j:=0) rfl;have g0:=(zjo HDO.out).free (j:=0) (by simp);have q1:=(zjo HDO.out).cell (j:=1) rfl;have g1:=(zjo HDO.out).free (j:=1) (by simp);have q2:=(zjo HDO.out).cell (j:=2) rfl;have g2:=(zjo HDO.out).free (j:=2) (by simp);have q3:=(zjo HDO.out).cell (j:=3) rfl;have g3:=(zjo HDO.out).free (j:=3) (by simp);have q4:=(zjo HDO.out).cell (j:=4) rfl;have g4:=(zjo HDO.out).free (j:=4) (by simp);have q5:=(zjo HDO.out).cell (j:=5) rfl;have g5:=(zjo HDO.out).free (j:=5) (by simp);have HF:=lhd (row6 HDO.out (.int .i64 (s).sc) (.string (bsB (s).dt)) (.string (bsB (s).vn)) (.string (bsB (s).cm)) (.slice aS s.S.length cS) (.slice aD s.D.length cD));have hHRS:=HH.out.S;rw[CW.out]at hHRS;have HRS:=lhd (zln hHRS HDO.out (by decide) (.int .i64 (s).sc) (.string (bsB (s).dt)) (.string (bsB (s).vn)) (.string (bsB (s).cm)) (.slice aS s.S.length cS) (.slice aD s.D.length cD));have hHRD:=HH.out.D;rw[CW.out]at hHRD;have HRD:=lhd (zln hHRD HDO.out (by decide) (.int .i64 (s).sc) (.string (bsB (s).dt)) (.string (bsB (s).vn)) (.string (bsB (s).cm)) (.slice aS s.S.length cS) (.slice aD s.D.length cD));have hHRR:=HH.out.r;rw[CW.out]at hHRR;have HRR:=lhd (zln hHRR HDO.out (by decide) (.int .i64 (s).sc) (.string (bsB (s).dt)) (.string (bsB (s).vn)) (.string (bsB (s).cm)) (.slice aS s.S.length cS) (.slice aD s.D.length cD));have hHB:=HH.out.b;rw[CW.out]at hHB;clear hHRS hHRD hHRR;have HFB:=lhd (za0 (b:=w.heap.size) hHB (Nat.le_refl _) (.int .i64 (s).sc) (.string (bsB (s).dt)) (.string (bsB (s).vn)) (.string (bsB (s).cm)) (.slice aS s.S.length cS) (.slice aD s.D.length cD));clear hdb;refine wp_region_held_drew (S:=fun w'=>w'.cell? ⟨c.B,0,none⟩=some (.int .i64 (s).sc)∧w'.cell? ⟨c.B,1,none⟩=some (.string (bsB (s).dt))∧w'.cell? ⟨c.B,2,none⟩=some (.string (bsB (s).vn))∧w'.cell? ⟨c.B,3,none⟩=some (.string (bsB (s).cm))∧w'.cell? ⟨c.B,4,none⟩=some (.slice aS s.S.length cS)∧w'.cell? ⟨c.B,5,none⟩=some (.slice aD s.D.length cD)∧w'.cell? ⟨c.B,12,none⟩=some (.slice aR s.wrong.length cR)) (by kernel_rfl) ⟨p0,p1,p2,p3,p4,p5,p12⟩ (fun hHeld=>?_);refine tkH 0 hHeld (v:=?_) ?_ ?_;rotate_left
    ·intro w h;(try dsimp only at h);go_simp;all_goals with_reducible rfl
    simp only[tkS];refine tkH 1 hHeld (v:=?_) ?_ ?_;rotate_left
    ·intro w h;(try dsimp only at h);go_simp;all_goals with_reducible rfl
    simp only[tkS];refine tkH 2 hHeld (v:=?_) ?_ ?_;rotate_left
    ·intro w h;(try dsimp only at h);go_simp;all_goals with_reducible rfl
    simp only[tkS];refine tkH 3 hHeld (v:=?_) ?_ ?_;rotate_left
    ·intro w h;(try dsimp only at h);go_simp;all_goals with_reducible rfl
    simp only[tkS];refine tkH 4 hHeld (v:=?_) ?_ ?_;rotate_left
    ·intro w h;(try dsimp only at h);go_simp;all_goals with_reducible rfl
    simp only[tkS];refine tkH 5 hHeld (v:=?_) ?_ ?_;rotate_left
    ·intro w h;(try dsimp only at h);go_simp;all_goals with_reducible rfl
    simp only[tkS];refine tkH 6 hHeld (v:=?_) ?_ ?_;rotate_left
    ·intro w h;(try dsimp only at h);go_simp;all_goals with_reducible rfl
    simp only[tkS];refine tkH 7 hHeld (v:=?_) ?_ ?_;rotate_left
    ·intro w h;(try dsimp only at h);go_simp;all_goals with_reducible rfl
    simp only[tkS];refine tkH 8 hHeld (v:=?_) ?_ ?_;rotate_left
    ·intro w h;(try dsimp only at h);go_simp;all_goals with_reducible rfl
    simp only[tkS];refine oneH 9 (fun K hK=>?_);go_simp;have hbne:w.heap.size≠c.B:=by have:=CB.out;omega
    have hs6:=zmF hbne (.int .i64 (s).sc) (.string (bsB (s).dt)) (.string (bsB (s).vn)) (.string (bsB (s).cm)) (.slice aS s.S.length cS) (.slice aD s.D.length cD) HH.out.row;refine hK.out _ _ hs6 (fun hHeld=>?_);clear hK;try simp only[tkS]
    refine oneH 10 (fun K hK=>?_);go_simp;refine hK.out _ _ hs6 (fun hHeld=>?_);clear hK;try simp only[tkS]
    refine oneH 11 (fun K hK=>?_);go_simp;refine hK.out _ _ hs6 (fun hHeld=>?_);clear hK;try simp only[tkS]
    refine wpAnyH_done (by kernel_rfl) ?_ _;clear hHeld hs6;go_wp2_with fail;have hrr:=HF.out;refine bodyPost_ret (v:=.tuple #[.agg #[.int .i64 (s).sc,.string (bsB (s).dt),.string (bsB (s).vn),.string (bsB (s).cm),(.slice aS s.S.length cS),(.slice aD s.D.length cD)],.int .i64 k,(.slice aR s.wrong.length cR)]) (by simp[results,Tryz.results23,go_sem,hrr.cell (j:=0) rfl,hrr.cell (j:=1) rfl,hrr.cell (j:=2) rfl,hrr.cell (j:=3) rfl,hrr.cell (j:=4) rfl,hrr.cell (j:=5) rfl]) rfl ?_;unfold zar;rw[HEE.out];exact⟨_,_,_,rfl,HRS.out,HRD.out,HRR.out,HFB.out⟩
  have hend:s.ended=false:=by simpa using hend
  rw[hend]at c11;by_cases hlt:k<ws.length
  rotate_left
  ·have hE:zjK ws=(s,k):=by rw[HPR.out.e,List.drop_of_length_le (by omega),zcD,Nat.zero_add]
   clear hend;have HEE:=lhd hE;have HH:=lhd HPR.out.h;clear hE;go_upto_region 18 with fail;have hdb:=DB0.out _ HH.out.kp;have HDO:=lhd (zjm (base:=w.heap.size) (size:=6) hdb (Nat.le_refl _) rfl);have p0:=HH.out.row.cell (j:=0) rfl;have p1:=HH.out.row.cell (j:=1) rfl;have p2:=HH.out.row.cell (j:=2) rfl;have p3:=HH.out.row.cell (j:=3) rfl;have p4:=HH.out.row.cell (j:=4) rfl;have p5:=HH.out.row.cell (j:=5) rfl;have p12:=HH.out.row.cell (j:=12) rfl;have q0:=(zjo HDO.out).cell (j:=0) rfl;have g0:=(zjo HDO.out).free (j:=0) (by simp);have q1:=(zjo HDO.out).cell (j:=1) rfl;have g1:=(zjo HDO.out).free (j:=1) (by simp);have q2:=(zjo HDO.out).cell (j:=2) rfl;have g2:=(zjo HDO.out).free (j:=2) (by simp);have q3:=(zjo HDO.out).cell (j:=3) rfl;have g3:=(zjo HDO.out).free (j:=3) (by simp);have q4:=(zjo HDO.out).cell (j:=4) rfl;have g4:=(zjo HDO.out).free (j:=4) (by simp);have q5:=(zjo HDO.out).cell (j:=5) rfl;have g5:=(zjo HDO.out).free (j:=5) (by simp);have HF:=lhd (row6 HDO.out (.int .i64 (s).sc) (.string (bsB (s).dt)) (.string (bsB (s).vn)) (.string (bsB (s).cm)) (.slice aS s.S.length cS) (.slice aD s.D.length cD));have hHRS:=HH.out.S;rw[CW.out]at hHRS;have HRS:=lhd (zln hHRS HDO.out (by decide) (.int .i64 (s).sc) (.string (bsB (s).dt)) (.string (bsB (s).vn)) (.string (bsB (s).cm)) (.slice aS s.S.length cS) (.slice aD s.D.length cD));have hHRD:=HH.out.D;rw[CW.out]at hHRD;have HRD:=lhd (zln hHRD HDO.out (by decide) (.int .i64 (s).sc) (.string (bsB (s).dt)) (.string (bsB (s).vn)) (.string (bsB (s).cm)) (.slice aS s.S.length cS) (.slice aD s.D.length cD));have hHRR:=HH.out.r;rw[CW.out]at hHRR;have HRR:=lhd (zln hHRR HDO.out (by decide) (.int .i64 (s).sc) (.string (bsB (s).dt)) (.string (bsB (s).vn)) (.string (bsB (s).cm)) (.slice aS s.S.length cS) (.slice aD s.D.length cD));have hHB:=HH.out.b;rw[CW.out]at hHB;clear hHRS hHRD hHRR;have HFB:=lhd (za0 (b:=w.heap.size) hHB (Nat.le_refl _) (.int .i64 (s).sc) (.string (bsB (s).dt)) (.string (bsB (s).vn)) (.string (bsB (s).cm)) (.slice aS s.S.length cS) (.slice aD s.D.length cD));clear hdb;refine wp_region_held_drew (S:=fun w'=>w'.cell? ⟨c.B,0,none⟩=some (.int .i64 (s).sc)∧w'.cell? ⟨c.B,1,none⟩=some (.string (bsB (s).dt))∧w'.cell? ⟨c.B,2,none⟩=some (.string (bsB (s).vn))∧w'.cell? ⟨c.B,3,none⟩=some (.string (bsB (s).cm))∧w'.cell? ⟨c.B,4,none⟩=some (.slice aS s.S.length cS)∧w'.cell? ⟨c.B,5,none⟩=some (.slice aD s.D.length cD)∧w'.cell? ⟨c.B,12,none⟩=some (.slice aR s.wrong.length cR)) (by kernel_rfl) ⟨p0,p1,p2,p3,p4,p5,p12⟩ (fun hHeld=>?_);refine tkH 0 hHeld (v:=?_) ?_ ?_;rotate_left
   ·intro w h;(try dsimp only at h);go_simp;all_goals with_reducible rfl
   simp only[tkS];refine tkH 1 hHeld (v:=?_) ?_ ?_;rotate_left
   ·intro w h;(try dsimp only at h);go_simp;all_goals with_reducible rfl
   simp only[tkS];refine tkH 2 hHeld (v:=?_) ?_ ?_;rotate_left
   ·intro w h;(try dsimp only at h);go_simp;all_goals with_reducible rfl
   simp only[tkS];refine tkH 3 hHeld (v:=?_) ?_ ?_;rotate_left
   ·intro w h;(try dsimp only at h);go_simp;all_goals with_reducible rfl
   simp only[tkS];refine tkH 4 hHeld (v:=?_) ?_ ?_;rotate_left
   ·intro w h;(try dsimp only at h);go_simp;all_goals with_reducible rfl
   simp only[tkS];refine tkH 5 hHeld (v:=?_) ?_ ?_;rotate_left
   ·intro w h;(try dsimp only at h);go_simp;all_goals with_reducible rfl
   simp only[tkS];refine tkH 6 hHeld (v:=?_) ?_ ?_;rotate_left
   ·intro w h;(try dsimp only at h);go_simp;all_goals with_reducible rfl
   simp only[tkS];refine tkH 7 hHeld (v:=?_) ?_ ?_;rotate_left
   ·intro w h;(try dsimp only at h);go_simp;all_goals with_reducible rfl
   simp only[tkS];refine tkH 8 hHeld (v:=?_) ?_ ?_;rotate_left
   ·intro w h;(try dsimp only at h);go_simp;all_goals with_reducible rfl
   simp only[tkS];refine oneH 9 (fun K hK=>?_);go_simp;have hbne:w.heap.size≠c.B:=by have:=CB.out;omega
   have hs6:=zmF hbne (.int .i64 (s).sc) (.string (bsB (s).dt)) (.string (bsB (s).vn)) (.string (bsB (s).cm)) (.slice aS s.S.length cS) (.slice aD s.D.length cD) HH.out.row;refine hK.out _ _ hs6 (fun hHeld=>?_);clear hK;try simp only[tkS]
   refine oneH 10 (fun K hK=>?_);go_simp;refine hK.out _ _ hs6 (fun hHeld=>?_);clear hK;try simp only[tkS]
   refine oneH 11 (fun K hK=>?_);go_simp;refine hK.out _ _ hs6 (fun hHeld=>?_);clear hK;try simp only[tkS]
   refine wpAnyH_done (by kernel_rfl) ?_ _;clear hHeld hs6;go_wp2_with fail;have hrr:=HF.out;refine bodyPost_ret (v:=.tuple #[.agg #[.int .i64 (s).sc,.string (bsB (s).dt),.string (bsB (s).vn),.string (bsB (s).cm),(.slice aS s.S.length cS),(.slice aD s.D.length cD)],.int .i64 k,(.slice aR s.wrong.length cR)]) (by simp[results,Tryz.results23,go_sem,hrr.cell (j:=0) rfl,hrr.cell (j:=1) rfl,hrr.cell (j:=2) rfl,hrr.cell (j:=3) rfl,hrr.cell (j:=4) rfl,hrr.cell (j:=5) rfl]) rfl ?_;unfold zar;rw[HEE.out];exact⟨_,_,_,rfl,HRS.out,HRD.out,HRR.out,HFB.out⟩
  obtain⟨b,o,rfl,d0,d1,d2,d3⟩:=SlR.wds (HS.out.below (CW.out▸HPR.out.h.b)) hlt;obtain⟨⟨tx,o1,o2,o3⟩,hx⟩:∃x,x=ws[k]:=⟨_,rfl⟩;rw[←hx]at d0 d1 d2 d3;dsimp only at d0 d1 d2 d3;have HDR:=lhd (show ws.drop k=(tx,o1,o2,o3)::ws.drop (k+1)by rw[hx];exact List.drop_eq_getElem_cons hlt)
  have HTX:=lhd (show tx.length≤2000000 by
   have:=zpI (l:=ws) (x:=ws[k]) (List.getElem_mem hlt);rw[←hx]at this;have:=HT.out;dsimp only at*;omega)
  have HEN:=lhd hend;have hbA:Below wr.heap.size wr (wr.alloc (.cells #[.string (bsB tx),.int .i64 o1,.int .i64 o2,.int .i64 o3] 58)):=(Below.refl _ _).alloc (Nat.le_refl _) _;have hbk9:=heap_alloc_new wr (.cells #[.string (bsB tx),.int .i64 o1,.int .i64 o2,.int .i64 o3] 58);have HXA:=lhd (zaq.fresh wr #[.string (bsB tx),.int .i64 o1,.int .i64 o2,.int .i64 o3] 58);have HZA:=lhd (show wr.heap.size<(wr.alloc (.cells #[.string (bsB tx),.int .i64 o1,.int .i64 o2,.int .i64 o3] 58)).heap.size by simp);have HA:=lhd (HPR.out.h.later hbA);clear hend hx hbA;go_upto_region 7 with fail;generalize wr.alloc (.cells #[.string (bsB tx),.int .i64 o1,.int .i64 o2,.int .i64 o3] 58)=wA at*;clear d0 d1 d2 d3 c11;generalize wr.heap.size=bw at*;have HBW:=lhd hbk9;clear hbk9;have HSX:=lhd (show ∀V,Below wA.heap.size wA V→V.cell? ⟨bw,0,none⟩=some (.string (bsB tx))from fun V hV=>(HXA.out.below hV HZA.out).cell (j:=0) rfl);go_cut [46]from 38 to 47 (fun u wc=>u=.bool (znk (tx,o1,o2,o3))∧Below wA.heap.size wA wc)
  case first=>
   have HPRE:=lhd (fun W=>zcd 35 tx W);have hbq:Below wA.heap.size wA wA.drew:=(Below.refl _ _).drew;by_cases h35:tx.head? =some 35
   ·have HST:=lhd (show znk (tx,o1,o2,o3)=true by rw[znl,decide_eq_true h35];rfl);rw[decide_eq_true h35]at HPRE;clear h35;refine wp_region_held_drew (S:=fun w'=>w'.cell? ⟨bw,0,none⟩=some (.string (bsB tx))) (by kernel_rfl) (HSX.out _ hbq) (fun hHeld=>?_);refine tkH 0 hHeld (v:=?_) ?_ ?_;rotate_left
    ·intro w h;(try dsimp only at h);go_simp;all_goals with_reducible rfl
    simp only[tkS];refine tkH 1 hHeld (v:=?_) ?_ ?_;rotate_left
    ·intro w h;(try dsimp only at h);go_simp;all_goals with_reducible rfl
    simp only[tkS];refine oneH 2 (fun K hK=>?_);go_simp;refine(HPRE.out _).mono ?_;rintro e w' ⟨rfl,rfl⟩;clear hHeld;go_wp2_with fail;refine hK.out _ _ (HSX.out _ hbq) (fun hHeld=>?_);clear hK;try simp only[tkS]
    refine tkH 3 hHeld (v:=?_) ?_ ?_;rotate_left
    ·intro w h;(try dsimp only at h);go_simp;all_goals with_reducible rfl
    simp only[tkS];refine wpAnyH_take (i:=4) (v:=undef) rfl (by kernel_rfl) (by kernel_rfl) (by kernel_rfl) (fun _ _ _ h=>h) (Or.inr ⟨by rfl,rfl⟩) hHeld ?_;simp only[tkS];refine wpAnyH_take (i:=5) (v:=undef) rfl (by kernel_rfl) (by kernel_rfl) (by kernel_rfl) (fun _ _ _ h=>h) (Or.inr ⟨by rfl,rfl⟩) hHeld ?_;simp only[tkS];refine wpAnyH_take (i:=6) (v:=undef) rfl (by kernel_rfl) (by kernel_rfl) (by kernel_rfl) (fun _ _ _ h=>h) (Or.inr ⟨by rfl,rfl⟩) hHeld ?_;simp only[tkS];refine wpAnyH_take (i:=7) (v:=undef) rfl (by kernel_rfl) (by kernel_rfl) (by kernel_rfl) (fun _ _ _ h=>h) (Or.inr ⟨by rfl,rfl⟩) hHeld ?_;simp only[tkS];refine tkH 8 hHeld (v:=?_) ?_ ?_;rotate_left
    ·intro w h;(try dsimp only at h);go_simp;all_goals with_reducible rfl
    simp only[tkS];refine wpAnyH_done (by kernel_rfl) ?_ _;clear hHeld;go_wp2_with fail;go_meet
    case rel=>exact⟨by rw[HST.out],hbq⟩
   ·have HST:=lhd (show znk (tx,o1,o2,o3)=decide (tx∈cmdW)by rw[znl,decide_eq_false h35];rfl);rw[decide_eq_false h35]at HPRE;clear h35;have hb9:Below wA.heap.size wA (wA.drew.alloc (.cells (strs cmdW).toArray 9)):=hbq.alloc hbq.size _;have HCT:=lhd (zcq _ cmdW tx _ (zhb wA.drew cmdW 9 (by decide)) (by decide) (by decide));refine wp_region_held_drew (S:=fun w'=>w'.cell? ⟨bw,0,none⟩=some (.string (bsB tx))) (by kernel_rfl) (HSX.out _ hbq) (fun hHeld=>?_);refine tkH 0 hHeld (v:=?_) ?_ ?_;rotate_left
    ·intro w h;(try dsimp only at h);go_simp;all_goals with_reducible rfl
    simp only[tkS];refine tkH 1 hHeld (v:=?_) ?_ ?_;rotate_left
    ·intro w h;(try dsimp only at h);go_simp;all_goals with_reducible rfl
    simp only[tkS];refine oneH 2 (fun K hK=>?_);go_simp;refine(HPRE.out _).mono ?_;rintro e w' ⟨rfl,rfl⟩;clear hHeld;go_wp2_with fail;refine hK.out _ _ (HSX.out _ hbq) (fun hHeld=>?_);clear hK;try simp only[tkS]
    refine tkH 3 hHeld (v:=?_) ?_ ?_;rotate_left
    ·intro w h;(try dsimp only at h);go_simp;all_goals with_reducible rfl
    simp only[tkS];refine tkH 5 hHeld (v:=?_) ?_ ?_;rotate_left
    ·intro w h;(try dsimp only at h);go_simp;all_goals with_reducible rfl
    simp only[tkS];refine tkH 6 hHeld (v:=?_) ?_ ?_;rotate_left
    ·intro w h;(try dsimp only at h);go_simp;all_goals with_reducible rfl
    simp only[tkS];refine oneH 4 (fun K hK=>?_);go_simp;refine(zdq wA.drew).mono ?_;rintro e w' ⟨rfl,rfl⟩;clear hHeld;go_wp2_with fail;refine hK.out _ _ (HSX.out _ hb9) (fun hHeld=>?_);clear hK;try simp only[tkS]
    refine oneH 7 (fun K hK=>?_);go_simp;refine HCT.out.mono ?_;rintro e w' ⟨rfl,rfl⟩;clear hHeld;go_wp2_with fail;refine hK.out _ _ (HSX.out _ hb9) (fun hHeld=>?_);clear hK;try simp only[tkS]
    refine tkH 8 hHeld (v:=?_) ?_ ?_;rotate_left
    ·intro w h;(try dsimp only at h);go_simp;all_goals with_reducible rfl
    simp only[tkS];refine wpAnyH_done (by kernel_rfl) ?_ _;clear hHeld;go_wp2_with fail;go_meet
    case rel=>exact⟨by rw[HST.out],hb9⟩
  case rest=>
  obtain⟨rfl,hbC⟩:=hcut;have HC:=lhd (HA.out.later hbC);have HXC:=lhd (HXA.out.below hbC HZA.out);have HZC:=lhd (Nat.lt_of_lt_of_le HZA.out hbC.size);obtain⟨wD,hwd⟩:∃wD,wD=wc:=⟨_,rfl⟩;subst hwd;have HBW2:=lhd ((hbC.block bw HZA.out).trans HBW.out);have HBC:=lhd (show Below w.heap.size w wD from CW.out▸HC.out.b);clear hbC HXA HZA HA HSX;have x0:=HXC.out.cell (j:=0) rfl;have x1:=HXC.out.cell (j:=1) rfl;have x2:=HXC.out.cell (j:=2) rfl;have x3:=HXC.out.cell (j:=3) rfl;have hwl:s.wrong.length≤1000000:=by have:=HPR.out.l;omega
  cases hst:znk (tx,o1,o2,o3)
  rotate_left
  ·have HSTP:=lhd (show zjK ws=(s.prob 3 (tx,o1,o2,o3),k)by
    rw[HPR.out.e,HDR.out,zcE HEN.out (s2:=s.prob 3 (tx,o1,o2,o3)) (by unfold zcF;rw[if_pos hst]),Nat.zero_add])
   clear hst;go_wp2_with fail;refine(zdz c _ _ _ _ 3 (tx,o1,o2,o3) _ HC.out hwl).mono ?_;rintro e w9 ⟨rfl,vS9,vD9,vr9,h9⟩;obtain⟨aS9,cS9,rfl,-,-⟩:=(SlR.of_own h9.S).shape;obtain⟨aD9,cD9,rfl,-,-⟩:=(SlR.of_own h9.D).shape;obtain⟨aR9,cR9,rfl,-,-⟩:=(SlR.of_own h9.r).shape;have hE:=HSTP.out;clear x0 x1 x2 x3;have HEE:=lhd hE;have HH:=lhd h9;clear hE;go_upto_region 18 with fail;have hdb:=DB0.out _ HH.out.kp;have HDO:=lhd (zjm (base:=w.heap.size) (size:=6) hdb (Nat.le_refl _) rfl);have p0:=HH.out.row.cell (j:=0) rfl;have p1:=HH.out.row.cell (j:=1) rfl;have p2:=HH.out.row.cell (j:=2) rfl;have p3:=HH.out.row.cell (j:=3) rfl;have p4:=HH.out.row.cell (j:=4) rfl;have p5:=HH.out.row.cell (j:=5) rfl;have p12:=HH.out.row.cell (j:=12) rfl;have q0:=(zjo HDO.out).cell (j:=0) rfl;have g0:=(zjo HDO.out).free (j:=0) (by simp);have q1:=(zjo HDO.out).cell (j:=1) rfl;have g1:=(zjo HDO.out).free (j:=1) (by simp);have q2:=(zjo HDO.out).cell (j:=2) rfl;have g2:=(zjo HDO.out).free (j:=2) (by simp);have q3:=(zjo HDO.out).cell (j:=3) rfl;have g3:=(zjo HDO.out).free (j:=3) (by simp);have q4:=(zjo HDO.out).cell (j:=4) rfl;have g4:=(zjo HDO.out).free (j:=4) (by simp);have q5:=(zjo HDO.out).cell (j:=5) rfl;have g5:=(zjo HDO.out).free (j:=5) (by simp);have HF:=lhd (row6 HDO.out (.int .i64 ((s.prob 3 (tx,o1,o2,o3))).sc) (.string (bsB ((s.prob 3 (tx,o1,o2,o3))).dt)) (.string (bsB ((s.prob 3 (tx,o1,o2,o3))).vn)) (.string (bsB ((s.prob 3 (tx,o1,o2,o3))).cm)) (.slice aS9 (s.prob 3 (tx,o1,o2,o3)).S.length cS9) (.slice aD9 (s.prob 3 (tx,o1,o2,o3)).D.length cD9));have hHRS:=HH.out.S;rw[CW.out]at hHRS;have HRS:=lhd (zln hHRS HDO.out (by decide) (.int .i64 ((s.prob 3 (tx,o1,o2,o3))).sc) (.string (bsB ((s.prob 3 (tx,o1,o2,o3))).dt)) (.string (bsB ((s.prob 3 (tx,o1,o2,o3))).vn)) (.string (bsB ((s.prob 3 (tx,o1,o2,o3))).cm)) (.slice aS9 (s.prob 3 (tx,o1,o2,o3)).S.length cS9) (.slice aD9 (s.prob 3 (tx,o1,o2,o3)).D.length cD9));have hHRD:=HH.out.D;rw[CW.out]at hHRD;have HRD:=lhd (zln hHRD HDO.out (by decide) (.int .i64 ((s.prob 3 (tx,o1,o2,o3))).sc) (.string (bsB ((s.prob 3 (tx,o1,o2,o3))).dt)) (.string (bsB ((s.prob 3 (tx,o1,o2,o3))).vn)) (.string (bsB ((s.prob 3 (tx,o1,o2,o3))).cm)) (.slice aS9 (s.prob 3 (tx,o1,o2,o3)).S.length cS9) (.slice aD9 (s.prob 3 (tx,o1,o2,o3)).D.length cD9));have hHRR:=HH.out.r;rw[CW.out]at hHRR;have HRR:=lhd (zln hHRR HDO.out (by decide) (.int .i64 ((s.prob 3 (tx,o1,o2,o3))).sc) (.string (bsB ((s.prob 3 (tx,o1,o2,o3))).dt)) (.string (bsB ((s.prob 3 (tx,o1,o2,o3))).vn)) (.string (bsB ((s.prob 3 (tx,o1,o2,o3))).cm)) (.slice aS9 (s.prob 3 (tx,o1,o2,o3)).S.length cS9) (.slice aD9 (s.prob 3 (tx,o1,o2,o3)).D.length cD9));have hHB:=HH.out.b;rw[CW.out]at hHB;clear hHRS hHRD hHRR;have HFB:=lhd (za0 (b:=w.heap.size) hHB (Nat.le_refl _) (.int .i64 ((s.prob 3 (tx,o1,o2,o3))).sc) (.string (bsB ((s.prob 3 (tx,o1,o2,o3))).dt)) (.string (bsB ((s.prob 3 (tx,o1,o2,o3))).vn)) (.string (bsB ((s.prob 3 (tx,o1,o2,o3))).cm)) (.slice aS9 (s.prob 3 (tx,o1,o2,o3)).S.length cS9) (.slice aD9 (s.prob 3 (tx,o1,o2,o3)).D.length cD9));clear hdb;refine wp_region_held_drew (S:=fun w'=>w'.cell? ⟨c.B,0,none⟩=some (.int .i64 ((s.prob 3 (tx,o1,o2,o3))).sc)∧w'.cell? ⟨c.B,1,none⟩=some (.string (bsB ((s.prob 3 (tx,o1,o2,o3))).dt))∧w'.cell? ⟨c.B,2,none⟩=some (.string (bsB ((s.prob 3 (tx,o1,o2,o3))).vn))∧w'.cell? ⟨c.B,3,none⟩=some (.string (bsB ((s.prob 3 (tx,o1,o2,o3))).cm))∧w'.cell? ⟨c.B,4,none⟩=some (.slice aS9 (s.prob 3 (tx,o1,o2,o3)).S.length cS9)∧w'.cell? ⟨c.B,5,none⟩=some (.slice aD9 (s.prob 3 (tx,o1,o2,o3)).D.length cD9)∧w'.cell? ⟨c.B,12,none⟩=some (.slice aR9 (s.prob 3 (tx,o1,o2,o3)).wrong.length cR9)) (by kernel_rfl) ⟨p0,p1,p2,p3,p4,p5,p12⟩ (fun hHeld=>?_);refine tkH 0 hHeld (v:=?_) ?_ ?_;rotate_left
   ·intro w h;(try dsimp only at h);go_simp;all_goals with_reducible rfl
   simp only[tkS];refine tkH 1 hHeld (v:=?_) ?_ ?_;rotate_left
   ·intro w h;(try dsimp only at h);go_simp;all_goals with_reducible rfl
   simp only[tkS];refine tkH 2 hHeld (v:=?_) ?_ ?_;rotate_left
   ·intro w h;(try dsimp only at h);go_simp;all_goals with_reducible rfl
   simp only[tkS];refine tkH 3 hHeld (v:=?_) ?_ ?_;rotate_left
   ·intro w h;(try dsimp only at h);go_simp;all_goals with_reducible rfl
   simp only[tkS];refine tkH 4 hHeld (v:=?_) ?_ ?_;rotate_left
   ·intro w h;(try dsimp only at h);go_simp;all_goals with_reducible rfl
   simp only[tkS];refine tkH 5 hHeld (v:=?_) ?_ ?_;rotate_left
   ·intro w h;(try dsimp only at h);go_simp;all_goals with_reducible rfl
   simp only[tkS];refine tkH 6 hHeld (v:=?_) ?_ ?_;rotate_left
   ·intro w h;(try dsimp only at h);go_simp;all_goals with_reducible rfl
   simp only[tkS];refine tkH 7 hHeld (v:=?_) ?_ ?_;rotate_left
   ·intro w h;(try dsimp only at h);go_simp;all_goals with_reducible rfl
   simp only[tkS];refine tkH 8 hHeld (v:=?_) ?_ ?_;rotate_left
   ·intro w h;(try dsimp only at h);go_simp;all_goals with_reducible rfl
   simp only[tkS];refine oneH 9 (fun K hK=>?_);go_simp;have hbne:w.heap.size≠c.B:=by have:=CB.out;omega
   have hs6:=zmF hbne (.int .i64 ((s.prob 3 (tx,o1,o2,o3))).sc) (.string (bsB ((s.prob 3 (tx,o1,o2,o3))).dt)) (.string (bsB ((s.prob 3 (tx,o1,o2,o3))).vn)) (.string (bsB ((s.prob 3 (tx,o1,o2,o3))).cm)) (.slice aS9 (s.prob 3 (tx,o1,o2,o3)).S.length cS9) (.slice aD9 (s.prob 3 (tx,o1,o2,o3)).D.length cD9) HH.out.row;refine hK.out _ _ hs6 (fun hHeld=>?_);clear hK;try simp only[tkS]
   refine oneH 10 (fun K hK=>?_);go_simp;refine hK.out _ _ hs6 (fun hHeld=>?_);clear hK;try simp only[tkS]
   refine oneH 11 (fun K hK=>?_);go_simp;refine hK.out _ _ hs6 (fun hHeld=>?_);clear hK;try simp only[tkS]
   refine wpAnyH_done (by kernel_rfl) ?_ _;clear hHeld hs6;go_wp2_with fail;have hrr:=HF.out;refine bodyPost_ret (v:=.tuple #[.agg #[.int .i64 ((s.prob 3 (tx,o1,o2,o3))).sc,.string (bsB ((s.prob 3 (tx,o1,o2,o3))).dt),.string (bsB ((s.prob 3 (tx,o1,o2,o3))).vn),.string (bsB ((s.prob 3 (tx,o1,o2,o3))).cm),(.slice aS9 (s.prob 3 (tx,o1,o2,o3)).S.length cS9),(.slice aD9 (s.prob 3 (tx,o1,o2,o3)).D.length cD9)],.int .i64 k,(.slice aR9 (s.prob 3 (tx,o1,o2,o3)).wrong.length cR9)]) (by simp[results,Tryz.results23,go_sem,hrr.cell (j:=0) rfl,hrr.cell (j:=1) rfl,hrr.cell (j:=2) rfl,hrr.cell (j:=3) rfl,hrr.cell (j:=4) rfl,hrr.cell (j:=5) rfl]) rfl ?_;unfold zar;rw[HEE.out];exact⟨_,_,_,rfl,HRS.out,HRD.out,HRR.out,HFB.out⟩
  have HP36:=lhd (fun W=>zcd 36 tx W);have HST:=lhd hst;cases hlo:zg4 (tx,o1,o2,o3)
  rotate_left
  ·have HDS:=lhd (show zcF s (tx,o1,o2,o3) (ws.drop (k+1))=(s.prob 3 (tx,o1,o2,o3),some 0)by unfold zcF;rw[if_neg (by rw[hst];simp),if_pos hlo]);clear hst;have hwk:IntKind.i64.wrap ((k:Int)+1)=(k:Int)+1:=IntWalk.i64_in _ (by omega);by_cases h36:tx.head? =some 36
   ·have hte:tx=sEnd:=by
     unfold zg4 at hlo;rw[Bool.or_eq_true,decide_eq_true_iff,decide_eq_true_iff]at hlo;rcases hlo with h|h
     ·exact absurd h36 h
     ·exact h
    rw[decide_eq_true h36]at HP36;have heb:((bsB tx).toList==[36,101,110,100])=true:=by rw[beqB,zbh,hte];rfl
    clear hlo h36 hte;go_wp2_with fail;refine(HP36.out _).mono ?_;rintro e w' ⟨rfl,rfl⟩;go_wp2_with fail;refine(zdz c _ _ _ _ 3 (tx,o1,o2,o3) _ HC.out hwl).mono ?_;rintro e w9 ⟨rfl,vS9,vD9,vr9,h9⟩;have H9:=lhd h9;clear h9 x0 x1 x2 x3;go_wp2_with fail;go_roundw;case rel=>exact⟨_,_,_,_,_,by go_num,HPR.out.next HDR.out HEN.out HDS.out (by omega) H9.out⟩
    case measure=>simp[intOf];omega
   ·rw[decide_eq_false h36]at HP36;clear hlo h36;go_wp2_with fail;refine(HP36.out _).mono ?_;rintro e w' ⟨rfl,rfl⟩;go_wp2_with fail;refine(zdz c _ _ _ _ 3 (tx,o1,o2,o3) _ HC.out hwl).mono ?_;rintro e w9 ⟨rfl,vS9,vD9,vr9,h9⟩;have H9:=lhd h9;clear h9 x0 x1 x2 x3;go_wp2_with fail;go_roundw;case rel=>exact⟨_,_,_,_,_,by go_num,HPR.out.next HDR.out HEN.out HDS.out (by omega) H9.out⟩
    case measure=>simp[intOf];omega
  have h36:tx.head? =some 36:=by
   unfold zg4 at hlo;rw[Bool.or_eq_false_iff,decide_eq_false_iff_not,decide_eq_false_iff_not,Classical.not_not]at hlo;exact hlo.1
  have hte:tx≠sEnd:=by
   unfold zg4 at hlo;rw[Bool.or_eq_false_iff,decide_eq_false_iff_not,decide_eq_false_iff_not]at hlo;exact hlo.2
  have heb:((bsB tx).toList==[36,101,110,100])=false:=by rw[beqB,zbh,decide_eq_false (show ¬tx=[36,101,110,100]from hte)]
  rw[decide_eq_true h36]at HP36;have HLO:=lhd hlo;have HSEC:=lhd (fun W (hW:Below w.heap.size w W)=>zgH _ ws k W (HS.out.below hW) hlt (by omega));rw[zmh ws k hlt]at HSEC;clear hlo h36 hte hst;obtain⟨G,hG⟩:∃G,G=secF (fun _=>true) c.B pt tq tx:=⟨_,rfl⟩
  have HLK:=lhd (show(Instr.lookup 90 (.map (some c.kb)) (.string (bsB tx)) true).run Tryz.prog wD=.ok (.tuple #[G.getD .nilFunc,.bool G.isSome]) wD by
   rw[hG];exact zdC (CG.out▸HC.out.k) (by have:=HTX.out;omega))
  cases hh:zeE (ws.drop (k+1))
  ·have HDS:=lhd (show zcF s (tx,o1,o2,o3) (ws.drop (k+1))=(s.prob 3 (tx,o1,o2,o3),some (ws.drop (k+1)).length)by unfold zcF;rw[if_neg (by rw[HST.out];simp),if_neg (by rw[HLO.out];simp),if_neg (by rw[hh];simp)]);rw[hh]at HSEC;simp only[Bool.false_eq_true,if_false]at HSEC;clear hh hG;generalize G.getD .nilFunc=gv at*;generalize G.isSome=gs at*;have hlk:=HLK.out;go_wp2_with fail;refine(HP36.out _).mono ?_;rintro e w' ⟨rfl,he'⟩;have he':=he'.symm;subst he';go_wp2_with fail;refine(HSEC.out _ HBC.out).mono ?_;rintro e w' ⟨rfl,he'⟩;have he':=he'.symm;subst he';go_wp2_with fail;refine(zdz c _ _ _ _ 3 (tx,o1,o2,o3) _ HC.out hwl).mono ?_;rintro e w9 ⟨rfl,vS9,vD9,vr9,h9⟩;have H9:=lhd h9;clear h9 x0 x1 x2 x3;go_wp2_with fail;go_roundw;case rel=>exact⟨_,_,_,_,_,by rw[show ws.length=k+(ws.drop (k+1)).length+1 by rw[List.length_drop];omega],HPR.out.next HDR.out HEN.out HDS.out (by rw[List.length_drop];omega) H9.out⟩
   case measure=>simp[intOf];omega
  have hlc:=zcp hh;rw[List.length_drop]at hlc;have HDS:=lhd (show zcF s (tx,o1,o2,o3) (ws.drop (k+1))=(secP s (tx,o1,o2,o3) (zck (ws.drop (k+1))),some ((zck (ws.drop (k+1))).length+1))by unfold zcF;rw[if_neg (by rw[HST.out];simp),if_neg (by rw[HLO.out];simp),if_pos hh]);rw[hh]at HSEC;simp only[if_true]at HSEC;have hct:=zcr (ws.drop (k+1));have HCS:=lhd (fun W (hW:Below w.heap.size w W)=>zmP (i:=k+1) (k:=(zck (ws.drop (k+1))).length) (HS.out.below hW) rfl (by omega) (by omega));rw[←hct]at HCS;have HCN:=lhd (show wdsN (zck (ws.drop (k+1)))≤2000000 from Nat.le_trans (zpJ ((List.takeWhile_prefix _).sublist.trans (List.drop_sublist _ _))) HT.out);clear hh hct;generalize zck (ws.drop (k+1))=cw at*;have hcwl:cw.length≤10000:=by omega
  have hsk:s.skip≤1000000:=by have:=HPR.out.q;omega
  have HBV:=lhd (show Below w.heap.size w wD.drew from HBC.out.drew);have HV:=lhd (show DPar (c.from wD) s _ _ _ wD.drew from(HC.out.start wD (zah.refl _ _)).later (Below.refl _ _).drew);have HCV:=lhd (HCS.out _ HBV.out);have HXC2:=lhd (show ∀x∈cw,x.1.length≤2000000 from fun x hx=>Nat.le_trans (zpI hx) HCN.out)
  have HXW:=lhd (show ∀x∈txt cw,x.length≤2000000 from fun x hx=>by
   obtain⟨y,hy,rfl⟩:=List.mem_map.1 hx;exact HXC2.out y hy)
  have HJL:=lhd (Nat.le_trans (zge cw) HCN.out)
  have HSV:=lhd (show ∀V,zah c.B wD V→V.cell? ⟨bw,0,none⟩=some (.string (bsB tx))∧V.cell? ⟨bw,1,none⟩=some (.int .i64 o1)∧V.cell? ⟨bw,2,none⟩=some (.int .i64 o2)∧V.cell? ⟨bw,3,none⟩=some (.int .i64 o3)from fun V hV=>by
   have hne:bw≠c.B:=fun e=>by
    have h0:=HC.out.row.cell (j:=0) rfl;rw[←e,x0]at h0;cases h0
   have hr:=zjo (zjm (base:=0) (size:=4) (hV _ _ _ _ hne (by decide) (by decide) (by decide) HBW2.out) (Nat.zero_le _) rfl);exact⟨hr.cell (j:=0) rfl,hr.cell (j:=1) rfl,hr.cell (j:=2) rfl,hr.cell (j:=3) rfl⟩)
  have hnx:IntKind.i64.wrap ((k:Int)+1+((cw.length:Int)+1)-1)=(k:Int)+1+(cw.length:Int):=by rw[show(k:Int)+1+((cw.length:Int)+1)-1=(k:Int)+1+(cw.length:Int)by omega];exact IntWalk.i64_in _ (by omega)
  have hwk:IntKind.i64.wrap ((k:Int)+1)=(k:Int)+1:=IntWalk.i64_in _ (by omega);have hcap1:¬cap=k+1:=by omega
  have HSL1:=lhd (show(0:Int)≤(k:Int)+1+(cw.length:Int)∧(k:Int)+1+(cw.length:Int)≤(cap:Int)by omega);have HSL2:=lhd (show(0:Int)≤(k:Int)+1∧(k:Int)+1≤max ((k:Int)+1+(cw.length:Int)) 0 by omega);have HSL3:=lhd (show((k:Int)+1+(cw.length:Int)).toNat-(k+1)=cw.length by omega);by_cases ht0:tx=zlw
  ·subst ht0;have hG2:G=some (txV (pt 0) (tq 0)):=by rw[hG];unfold secF;rw[zmj (k:=0) rfl];rfl
   have HSP:=lhd (show secP s (zlw,o1,o2,o3) cw=zcG s (zlw,o1,o2,o3) cw from by unfold secP;rw[if_pos rfl]);rw[HSP.out]at HDS;have hlk:=HLK.out;rw[hG2]at hlk;simp only[Option.getD_some,Option.isSome_some]at hlk;clear hG hG2;go_wp2_with fail;refine(HP36.out _).mono ?_;rintro e w' ⟨rfl,he'⟩;have he':=he'.symm;subst he';go_wp2_with fail;refine(HSEC.out _ HBC.out).mono ?_;rintro e w' ⟨rfl,he'⟩;have he':=he'.symm;subst he';go_wp2_with fail;refine wp_region_held_drew (S:=fun w'=>w'.cell? ⟨bw,0,none⟩=some (.string (bsB zlw))∧w'.cell? ⟨bw,1,none⟩=some (.int .i64 o1)∧w'.cell? ⟨bw,2,none⟩=some (.int .i64 o2)∧w'.cell? ⟨bw,3,none⟩=some (.int .i64 o3)) (by kernel_rfl) ⟨x0,x1,x2,x3⟩ (fun hHeld=>?_);refine tkH 0 hHeld (v:=?_) ?_ ?_;rotate_left
   ·intro w h;(try dsimp only at h);go_simp;all_goals with_reducible rfl
   simp only[tkS];refine tkH 1 hHeld (v:=?_) ?_ ?_;rotate_left
   ·intro w h;(try dsimp only at h);go_simp;all_goals with_reducible rfl
   simp only[tkS];refine tkH 2 hHeld (v:=?_) ?_ ?_;rotate_left
   ·intro w h;(try dsimp only at h);go_simp;all_goals with_reducible rfl
   simp only[tkS];refine tkH 3 hHeld (v:=?_) ?_ ?_;rotate_left
   ·intro w h;(try dsimp only at h);go_simp;all_goals with_reducible rfl
   simp only[tkS];refine tkH 4 hHeld (v:=?_) ?_ ?_;rotate_left
   ·intro w h;(try dsimp only at h);go_simp;all_goals with_reducible rfl
   simp only[tkS];refine tkH 5 hHeld (v:=?_) ?_ ?_;rotate_left
   ·intro w h;(try dsimp only at h);go_simp;all_goals with_reducible rfl
   simp only[tkS];refine tkH 6 hHeld (v:=?_) ?_ ?_;rotate_left
   ·intro w h;(try dsimp only at h);go_simp;all_goals with_reducible rfl
   simp only[tkS];refine wpAnyH_take (i:=7) (v:=.slice (some ⟨b,o+(k+1)*4,none⟩) cw.length (cap-(k+1))) rfl (by kernel_rfl) (by kernel_rfl) (by kernel_rfl) (fun _ _ _ h=>h) (Or.inl ⟨by rfl,?_⟩) hHeld ?_
   ·intro w hSw;(try dsimp only at hSw)
    go_simp;rw[if_pos HSL1.out,if_pos HSL2.out,HSL3.out]
   simp only[tkS];refine oneH 8 (fun K hK=>?_);go_simp;refine(zdr (c.from wD) s _ _ _ (pt 0) (tq 0) (zlw,o1,o2,o3) _ _ cw _ HV.out rfl (BX0.out _ HC.out.kp).1.1 (BX0.out _ HC.out.kp).1.2 HCV.out (by omega) HXW.out HJL.out hwl).mono ?_;rintro e w9 ⟨rfl,vS9,vD9,vr9,h9⟩;have HS9:=lhd (HSV.out w9 h9.kp);have H9:=lhd (h9.back HC.out.kp);clear hHeld h9 x0 x1 x2 x3;go_wp2_with fail;refine hK.out _ _ HS9.out (fun hHeld=>?_);clear hK;try simp only[tkS]
   refine wpAnyH_done (by kernel_rfl) ?_ _;clear hHeld;go_wp2_with fail;go_roundw;case rel=>exact⟨_,_,_,_,_,by rw[show(k:Int)+1+((cw.length:Int)+1)=((k+(cw.length+1)+1:Nat):Int)by omega],HPR.out.next HDR.out HEN.out HDS.out (by omega) H9.out⟩
   case measure=>simp[intOf];omega
  by_cases ht1:tx=zlF
  ·subst ht1;have hG2:G=some (txV (pt 1) (tq 1)):=by rw[hG];unfold secF;rw[zmj (k:=1) rfl];rfl
   have HSP:=lhd (show secP s (zlF,o1,o2,o3) cw=zpc s (zlF,o1,o2,o3) cw from by unfold secP;rw[if_neg (by dsimp only;decide),if_pos rfl]);rw[HSP.out]at HDS;have hlk:=HLK.out;rw[hG2]at hlk;simp only[Option.getD_some,Option.isSome_some]at hlk;clear hG hG2 ht0;go_wp2_with fail;refine(HP36.out _).mono ?_;rintro e w' ⟨rfl,he'⟩;have he':=he'.symm;subst he';go_wp2_with fail;refine(HSEC.out _ HBC.out).mono ?_;rintro e w' ⟨rfl,he'⟩;have he':=he'.symm;subst he';go_wp2_with fail;refine wp_region_held_drew (S:=fun w'=>w'.cell? ⟨bw,0,none⟩=some (.string (bsB zlF))∧w'.cell? ⟨bw,1,none⟩=some (.int .i64 o1)∧w'.cell? ⟨bw,2,none⟩=some (.int .i64 o2)∧w'.cell? ⟨bw,3,none⟩=some (.int .i64 o3)) (by kernel_rfl) ⟨x0,x1,x2,x3⟩ (fun hHeld=>?_);refine tkH 0 hHeld (v:=?_) ?_ ?_;rotate_left
   ·intro w h;(try dsimp only at h);go_simp;all_goals with_reducible rfl
   simp only[tkS];refine tkH 1 hHeld (v:=?_) ?_ ?_;rotate_left
   ·intro w h;(try dsimp only at h);go_simp;all_goals with_reducible rfl
   simp only[tkS];refine tkH 2 hHeld (v:=?_) ?_ ?_;rotate_left
   ·intro w h;(try dsimp only at h);go_simp;all_goals with_reducible rfl
   simp only[tkS];refine tkH 3 hHeld (v:=?_) ?_ ?_;rotate_left
   ·intro w h;(try dsimp only at h);go_simp;all_goals with_reducible rfl
   simp only[tkS];refine tkH 4 hHeld (v:=?_) ?_ ?_;rotate_left
   ·intro w h;(try dsimp only at h);go_simp;all_goals with_reducible rfl
   simp only[tkS];refine tkH 5 hHeld (v:=?_) ?_ ?_;rotate_left
   ·intro w h;(try dsimp only at h);go_simp;all_goals with_reducible rfl
   simp only[tkS];refine tkH 6 hHeld (v:=?_) ?_ ?_;rotate_left
   ·intro w h;(try dsimp only at h);go_simp;all_goals with_reducible rfl
   simp only[tkS];refine wpAnyH_take (i:=7) (v:=.slice (some ⟨b,o+(k+1)*4,none⟩) cw.length (cap-(k+1))) rfl (by kernel_rfl) (by kernel_rfl) (by kernel_rfl) (fun _ _ _ h=>h) (Or.inl ⟨by rfl,?_⟩) hHeld ?_
   ·intro w hSw;(try dsimp only at hSw)
    go_simp;rw[if_pos HSL1.out,if_pos HSL2.out,HSL3.out]
   simp only[tkS];refine oneH 8 (fun K hK=>?_);go_simp;refine(zdN (c.from wD) s _ _ _ (pt 1) (tq 1) (zlF,o1,o2,o3) _ _ cw _ HV.out rfl (BX0.out _ HC.out.kp).2.1.1 (BX0.out _ HC.out.kp).2.1.2 HCV.out (by omega) HXW.out HJL.out hwl).mono ?_;rintro e w9 ⟨rfl,vS9,vD9,vr9,h9⟩;have HS9:=lhd (HSV.out w9 h9.kp);have H9:=lhd (h9.back HC.out.kp);clear hHeld h9 x0 x1 x2 x3;go_wp2_with fail;refine hK.out _ _ HS9.out (fun hHeld=>?_);clear hK;try simp only[tkS]
   refine wpAnyH_done (by kernel_rfl) ?_ _;clear hHeld;go_wp2_with fail;go_roundw;case rel=>exact⟨_,_,_,_,_,by rw[show(k:Int)+1+((cw.length:Int)+1)=((k+(cw.length+1)+1:Nat):Int)by omega],HPR.out.next HDR.out HEN.out HDS.out (by omega) H9.out⟩
   case measure=>simp[intOf];omega
  by_cases ht2:tx=zlv
  ·subst ht2;have hG2:G=some (txV (pt 2) (tq 2)):=by rw[hG];unfold secF;rw[zmj (k:=2) rfl];rfl
   have HSP:=lhd (show secP s (zlv,o1,o2,o3) cw=zb9 s (zlv,o1,o2,o3) cw from by unfold secP;rw[if_neg (by dsimp only;decide),if_neg (by dsimp only;decide),if_pos rfl]);rw[HSP.out]at HDS;have hlk:=HLK.out;rw[hG2]at hlk;simp only[Option.getD_some,Option.isSome_some]at hlk;clear hG hG2 ht0 ht1;go_wp2_with fail;refine(HP36.out _).mono ?_;rintro e w' ⟨rfl,he'⟩;have he':=he'.symm;subst he';go_wp2_with fail;refine(HSEC.out _ HBC.out).mono ?_;rintro e w' ⟨rfl,he'⟩;have he':=he'.symm;subst he';go_wp2_with fail;refine wp_region_held_drew (S:=fun w'=>w'.cell? ⟨bw,0,none⟩=some (.string (bsB zlv))∧w'.cell? ⟨bw,1,none⟩=some (.int .i64 o1)∧w'.cell? ⟨bw,2,none⟩=some (.int .i64 o2)∧w'.cell? ⟨bw,3,none⟩=some (.int .i64 o3)) (by kernel_rfl) ⟨x0,x1,x2,x3⟩ (fun hHeld=>?_);refine tkH 0 hHeld (v:=?_) ?_ ?_;rotate_left
   ·intro w h;(try dsimp only at h);go_simp;all_goals with_reducible rfl
   simp only[tkS];refine tkH 1 hHeld (v:=?_) ?_ ?_;rotate_left
   ·intro w h;(try dsimp only at h);go_simp;all_goals with_reducible rfl
   simp only[tkS];refine tkH 2 hHeld (v:=?_) ?_ ?_;rotate_left
   ·intro w h;(try dsimp only at h);go_simp;all_goals with_reducible rfl
   simp only[tkS];refine tkH 3 hHeld (v:=?_) ?_ ?_;rotate_left
   ·intro w h;(try dsimp only at h);go_simp;all_goals with_reducible rfl
   simp only[tkS];refine tkH 4 hHeld (v:=?_) ?_ ?_;rotate_left
   ·intro w h;(try dsimp only at h);go_simp;all_goals with_reducible rfl
   simp only[tkS];refine tkH 5 hHeld (v:=?_) ?_ ?_;rotate_left
   ·intro w h;(try dsimp only at h);go_simp;all_goals with_reducible rfl
   simp only[tkS];refine tkH 6 hHeld (v:=?_) ?_ ?_;rotate_left
   ·intro w h;(try dsimp only at h);go_simp;all_goals with_reducible rfl
   simp only[tkS];refine wpAnyH_take (i:=7) (v:=.slice (some ⟨b,o+(k+1)*4,none⟩) cw.length (cap-(k+1))) rfl (by kernel_rfl) (by kernel_rfl) (by kernel_rfl) (fun _ _ _ h=>h) (Or.inl ⟨by rfl,?_⟩) hHeld ?_
   ·intro w hSw;(try dsimp only at hSw)
    go_simp;rw[if_pos HSL1.out,if_pos HSL2.out,HSL3.out]
   simp only[tkS];refine oneH 8 (fun K hK=>?_);go_simp;refine(zdp (c.from wD) s _ _ _ (pt 2) (tq 2) (zlv,o1,o2,o3) _ _ cw _ HV.out rfl (BX0.out _ HC.out.kp).2.2.1 (BX0.out _ HC.out.kp).2.2.2 HCV.out (by omega) HXW.out HJL.out hwl).mono ?_;rintro e w9 ⟨rfl,vS9,vD9,vr9,h9⟩;have HS9:=lhd (HSV.out w9 h9.kp);have H9:=lhd (h9.back HC.out.kp);clear hHeld h9 x0 x1 x2 x3;go_wp2_with fail;refine hK.out _ _ HS9.out (fun hHeld=>?_);clear hK;try simp only[tkS]
   refine wpAnyH_done (by kernel_rfl) ?_ _;clear hHeld;go_wp2_with fail;go_roundw;case rel=>exact⟨_,_,_,_,_,by rw[show(k:Int)+1+((cw.length:Int)+1)=((k+(cw.length+1)+1:Nat):Int)by omega],HPR.out.next HDR.out HEN.out HDS.out (by omega) H9.out⟩
   case measure=>simp[intOf];omega
  by_cases ht3:tx=zlD
  ·subst ht3;have hG2:G=some (mB 89 c.B):=by rw[hG];unfold secF;rw[zmj (k:=3) rfl];rfl
   have HSP:=lhd (show secP s (zlD,o1,o2,o3) cw=zlQ s (zlD,o1,o2,o3) cw from by unfold secP;rw[if_neg (by dsimp only;decide),if_neg (by dsimp only;decide),if_neg (by dsimp only;decide),if_pos rfl]);rw[HSP.out]at HDS;have hlk:=HLK.out;rw[hG2]at hlk;simp only[Option.getD_some,Option.isSome_some]at hlk;clear hG hG2 ht0 ht1 ht2;go_wp2_with fail;refine(HP36.out _).mono ?_;rintro e w' ⟨rfl,he'⟩;have he':=he'.symm;subst he';go_wp2_with fail;refine(HSEC.out _ HBC.out).mono ?_;rintro e w' ⟨rfl,he'⟩;have he':=he'.symm;subst he';go_wp2_with fail;refine wp_region_held_drew (S:=fun w'=>w'.cell? ⟨bw,0,none⟩=some (.string (bsB zlD))∧w'.cell? ⟨bw,1,none⟩=some (.int .i64 o1)∧w'.cell? ⟨bw,2,none⟩=some (.int .i64 o2)∧w'.cell? ⟨bw,3,none⟩=some (.int .i64 o3)) (by kernel_rfl) ⟨x0,x1,x2,x3⟩ (fun hHeld=>?_);refine tkH 0 hHeld (v:=?_) ?_ ?_;rotate_left
   ·intro w h;(try dsimp only at h);go_simp;all_goals with_reducible rfl
   simp only[tkS];refine tkH 1 hHeld (v:=?_) ?_ ?_;rotate_left
   ·intro w h;(try dsimp only at h);go_simp;all_goals with_reducible rfl
   simp only[tkS];refine tkH 2 hHeld (v:=?_) ?_ ?_;rotate_left
   ·intro w h;(try dsimp only at h);go_simp;all_goals with_reducible rfl
   simp only[tkS];refine tkH 3 hHeld (v:=?_) ?_ ?_;rotate_left
   ·intro w h;(try dsimp only at h);go_simp;all_goals with_reducible rfl
   simp only[tkS];refine tkH 4 hHeld (v:=?_) ?_ ?_;rotate_left
   ·intro w h;(try dsimp only at h);go_simp;all_goals with_reducible rfl
   simp only[tkS];refine tkH 5 hHeld (v:=?_) ?_ ?_;rotate_left
   ·intro w h;(try dsimp only at h);go_simp;all_goals with_reducible rfl
   simp only[tkS];refine tkH 6 hHeld (v:=?_) ?_ ?_;rotate_left
   ·intro w h;(try dsimp only at h);go_simp;all_goals with_reducible rfl
   simp only[tkS];refine wpAnyH_take (i:=7) (v:=.slice (some ⟨b,o+(k+1)*4,none⟩) cw.length (cap-(k+1))) rfl (by kernel_rfl) (by kernel_rfl) (by kernel_rfl) (fun _ _ _ h=>h) (Or.inl ⟨by rfl,?_⟩) hHeld ?_
   ·intro w hSw;(try dsimp only at hSw)
    go_simp;rw[if_pos HSL1.out,if_pos HSL2.out,HSL3.out]
   simp only[tkS];refine oneH 8 (fun K hK=>?_);go_simp;refine(zdH (c.from wD) s _ _ _ (zlD,o1,o2,o3) _ _ cw _ HV.out (HG.out.below HBV.out) (HM.out.below HBV.out) HCV.out (by omega) HJL.out hwl).mono ?_;rintro e w9 ⟨rfl,vS9,vD9,vr9,h9⟩;have HS9:=lhd (HSV.out w9 h9.kp);have H9:=lhd (h9.back HC.out.kp);clear hHeld h9 x0 x1 x2 x3;go_wp2_with fail;refine hK.out _ _ HS9.out (fun hHeld=>?_);clear hK;try simp only[tkS]
   refine wpAnyH_done (by kernel_rfl) ?_ _;clear hHeld;go_wp2_with fail;go_roundw;case rel=>exact⟨_,_,_,_,_,by rw[show(k:Int)+1+((cw.length:Int)+1)=((k+(cw.length+1)+1:Nat):Int)by omega],HPR.out.next HDR.out HEN.out HDS.out (by omega) H9.out⟩
   case measure=>simp[intOf];omega
  by_cases ht4:tx=zlC
  ·subst ht4;have hG2:G=some (mB 90 c.B):=by rw[hG];unfold secF;rw[zmj (k:=4) rfl];rfl
   have HSP:=lhd (show secP s (zlC,o1,o2,o3) cw=zl1 s (zlC,o1,o2,o3) cw from by unfold secP;rw[if_neg (by dsimp only;decide),if_neg (by dsimp only;decide),if_neg (by dsimp only;decide),if_neg (by dsimp only;decide),if_pos rfl]);rw[HSP.out]at HDS;have hlk:=HLK.out;rw[hG2]at hlk;simp only[Option.getD_some,Option.isSome_some]at hlk;clear hG hG2 ht0 ht1 ht2 ht3;go_wp2_with fail;refine(HP36.out _).mono ?_;rintro e w' ⟨rfl,he'⟩;have he':=he'.symm;subst he';go_wp2_with fail;refine(HSEC.out _ HBC.out).mono ?_;rintro e w' ⟨rfl,he'⟩;have he':=he'.symm;subst he';go_wp2_with fail;refine wp_region_held_drew (S:=fun w'=>w'.cell? ⟨bw,0,none⟩=some (.string (bsB zlC))∧w'.cell? ⟨bw,1,none⟩=some (.int .i64 o1)∧w'.cell? ⟨bw,2,none⟩=some (.int .i64 o2)∧w'.cell? ⟨bw,3,none⟩=some (.int .i64 o3)) (by kernel_rfl) ⟨x0,x1,x2,x3⟩ (fun hHeld=>?_);refine tkH 0 hHeld (v:=?_) ?_ ?_;rotate_left
   ·intro w h;(try dsimp only at h);go_simp;all_goals with_reducible rfl
   simp only[tkS];refine tkH 1 hHeld (v:=?_) ?_ ?_;rotate_left
   ·intro w h;(try dsimp only at h);go_simp;all_goals with_reducible rfl
   simp only[tkS];refine tkH 2 hHeld (v:=?_) ?_ ?_;rotate_left
   ·intro w h;(try dsimp only at h);go_simp;all_goals with_reducible rfl
   simp only[tkS];refine tkH 3 hHeld (v:=?_) ?_ ?_;rotate_left
   ·intro w h;(try dsimp only at h);go_simp;all_goals with_reducible rfl
   simp only[tkS];refine tkH 4 hHeld (v:=?_) ?_ ?_;rotate_left
   ·intro w h;(try dsimp only at h);go_simp;all_goals with_reducible rfl
   simp only[tkS];refine tkH 5 hHeld (v:=?_) ?_ ?_;rotate_left
   ·intro w h;(try dsimp only at h);go_simp;all_goals with_reducible rfl
   simp only[tkS];refine tkH 6 hHeld (v:=?_) ?_ ?_;rotate_left
   ·intro w h;(try dsimp only at h);go_simp;all_goals with_reducible rfl
   simp only[tkS];refine wpAnyH_take (i:=7) (v:=.slice (some ⟨b,o+(k+1)*4,none⟩) cw.length (cap-(k+1))) rfl (by kernel_rfl) (by kernel_rfl) (by kernel_rfl) (fun _ _ _ h=>h) (Or.inl ⟨by rfl,?_⟩) hHeld ?_
   ·intro w hSw;(try dsimp only at hSw)
    go_simp;rw[if_pos HSL1.out,if_pos HSL2.out,HSL3.out]
   simp only[tkS];refine oneH 8 (fun K hK=>?_);go_simp;refine(zdA (c.from wD) s _ _ _ (zlC,o1,o2,o3) _ _ cw _ HV.out hwl hsk (fun W1 h1=>zdy (c.from wD) s _ _ _ (zlC,o1,o2,o3) _ _ cw W1 (HV.out.later h1) HPR.out.v (HCV.out.below h1) HXC2.out (by omega))).mono ?_;rintro e w9 ⟨rfl,vS9,vD9,vr9,h9⟩;have HS9:=lhd (HSV.out w9 h9.kp);have H9:=lhd (h9.back HC.out.kp);clear hHeld h9 x0 x1 x2 x3;go_wp2_with fail;refine hK.out _ _ HS9.out (fun hHeld=>?_);clear hK;try simp only[tkS]
   refine wpAnyH_done (by kernel_rfl) ?_ _;clear hHeld;go_wp2_with fail;go_roundw;case rel=>exact⟨_,_,_,_,_,by rw[show(k:Int)+1+((cw.length:Int)+1)=((k+(cw.length+1)+1:Nat):Int)by omega],HPR.out.next HDR.out HEN.out HDS.out (by omega) H9.out⟩
   case measure=>simp[intOf];omega
  by_cases ht5:tx=zlE
  ·subst ht5;have hG2:G=some (mB 91 c.B):=by rw[hG];unfold secF;rw[zmj (k:=5) rfl];rfl
   have HSP:=lhd (show secP s (zlE,o1,o2,o3) cw=upP s (zlE,o1,o2,o3) cw from by unfold secP;rw[if_neg (by dsimp only;decide),if_neg (by dsimp only;decide),if_neg (by dsimp only;decide),if_neg (by dsimp only;decide),if_neg (by dsimp only;decide),if_pos rfl]);rw[HSP.out]at HDS;have hlk:=HLK.out;rw[hG2]at hlk;simp only[Option.getD_some,Option.isSome_some]at hlk;clear hG hG2 ht0 ht1 ht2 ht3 ht4;go_wp2_with fail;refine(HP36.out _).mono ?_;rintro e w' ⟨rfl,he'⟩;have he':=he'.symm;subst he';go_wp2_with fail;refine(HSEC.out _ HBC.out).mono ?_;rintro e w' ⟨rfl,he'⟩;have he':=he'.symm;subst he';go_wp2_with fail;refine wp_region_held_drew (S:=fun w'=>w'.cell? ⟨bw,0,none⟩=some (.string (bsB zlE))∧w'.cell? ⟨bw,1,none⟩=some (.int .i64 o1)∧w'.cell? ⟨bw,2,none⟩=some (.int .i64 o2)∧w'.cell? ⟨bw,3,none⟩=some (.int .i64 o3)) (by kernel_rfl) ⟨x0,x1,x2,x3⟩ (fun hHeld=>?_);refine tkH 0 hHeld (v:=?_) ?_ ?_;rotate_left
   ·intro w h;(try dsimp only at h);go_simp;all_goals with_reducible rfl
   simp only[tkS];refine tkH 1 hHeld (v:=?_) ?_ ?_;rotate_left
   ·intro w h;(try dsimp only at h);go_simp;all_goals with_reducible rfl
   simp only[tkS];refine tkH 2 hHeld (v:=?_) ?_ ?_;rotate_left
   ·intro w h;(try dsimp only at h);go_simp;all_goals with_reducible rfl
   simp only[tkS];refine tkH 3 hHeld (v:=?_) ?_ ?_;rotate_left
   ·intro w h;(try dsimp only at h);go_simp;all_goals with_reducible rfl
   simp only[tkS];refine tkH 4 hHeld (v:=?_) ?_ ?_;rotate_left
   ·intro w h;(try dsimp only at h);go_simp;all_goals with_reducible rfl
   simp only[tkS];refine tkH 5 hHeld (v:=?_) ?_ ?_;rotate_left
   ·intro w h;(try dsimp only at h);go_simp;all_goals with_reducible rfl
   simp only[tkS];refine tkH 6 hHeld (v:=?_) ?_ ?_;rotate_left
   ·intro w h;(try dsimp only at h);go_simp;all_goals with_reducible rfl
   simp only[tkS];refine wpAnyH_take (i:=7) (v:=.slice (some ⟨b,o+(k+1)*4,none⟩) cw.length (cap-(k+1))) rfl (by kernel_rfl) (by kernel_rfl) (by kernel_rfl) (fun _ _ _ h=>h) (Or.inl ⟨by rfl,?_⟩) hHeld ?_
   ·intro w hSw;(try dsimp only at hSw)
    go_simp;rw[if_pos HSL1.out,if_pos HSL2.out,HSL3.out]
   simp only[tkS];refine oneH 8 (fun K hK=>?_);go_simp;refine(zdJ (c.from wD) s _ _ _ (zlE,o1,o2,o3) _ _ cw _ HV.out HPR.out.v hwl hsk).mono ?_;rintro e w9 ⟨rfl,vS9,vD9,vr9,h9⟩;have HS9:=lhd (HSV.out w9 h9.kp);have H9:=lhd (h9.back HC.out.kp);clear hHeld h9 x0 x1 x2 x3;go_wp2_with fail;refine hK.out _ _ HS9.out (fun hHeld=>?_);clear hK;try simp only[tkS]
   refine wpAnyH_done (by kernel_rfl) ?_ _;clear hHeld;go_wp2_with fail;go_roundw;case rel=>exact⟨_,_,_,_,_,by rw[show(k:Int)+1+((cw.length:Int)+1)=((k+(cw.length+1)+1:Nat):Int)by omega],HPR.out.next HDR.out HEN.out HDS.out (by omega) H9.out⟩
   case measure=>simp[intOf];omega
  by_cases ht6:tx=sVar
  ·subst ht6;have hG2:G=some (mB 92 c.B):=by rw[hG];unfold secF;rw[zmj (k:=6) rfl];rfl
   have HSP:=lhd (show secP s (sVar,o1,o2,o3) cw=varP s (sVar,o1,o2,o3) cw from by unfold secP;rw[if_neg (by dsimp only;decide),if_neg (by dsimp only;decide),if_neg (by dsimp only;decide),if_neg (by dsimp only;decide),if_neg (by dsimp only;decide),if_neg (by dsimp only;decide),if_pos rfl]);rw[HSP.out]at HDS;have hlk:=HLK.out;rw[hG2]at hlk;simp only[Option.getD_some,Option.isSome_some]at hlk;clear hG hG2 ht0 ht1 ht2 ht3 ht4 ht5;go_wp2_with fail;refine(HP36.out _).mono ?_;rintro e w' ⟨rfl,he'⟩;have he':=he'.symm;subst he';go_wp2_with fail;refine(HSEC.out _ HBC.out).mono ?_;rintro e w' ⟨rfl,he'⟩;have he':=he'.symm;subst he';go_wp2_with fail;refine wp_region_held_drew (S:=fun w'=>w'.cell? ⟨bw,0,none⟩=some (.string (bsB sVar))∧w'.cell? ⟨bw,1,none⟩=some (.int .i64 o1)∧w'.cell? ⟨bw,2,none⟩=some (.int .i64 o2)∧w'.cell? ⟨bw,3,none⟩=some (.int .i64 o3)) (by kernel_rfl) ⟨x0,x1,x2,x3⟩ (fun hHeld=>?_);refine tkH 0 hHeld (v:=?_) ?_ ?_;rotate_left
   ·intro w h;(try dsimp only at h);go_simp;all_goals with_reducible rfl
   simp only[tkS];refine tkH 1 hHeld (v:=?_) ?_ ?_;rotate_left
   ·intro w h;(try dsimp only at h);go_simp;all_goals with_reducible rfl
   simp only[tkS];refine tkH 2 hHeld (v:=?_) ?_ ?_;rotate_left
   ·intro w h;(try dsimp only at h);go_simp;all_goals with_reducible rfl
   simp only[tkS];refine tkH 3 hHeld (v:=?_) ?_ ?_;rotate_left
   ·intro w h;(try dsimp only at h);go_simp;all_goals with_reducible rfl
   simp only[tkS];refine tkH 4 hHeld (v:=?_) ?_ ?_;rotate_left
   ·intro w h;(try dsimp only at h);go_simp;all_goals with_reducible rfl
   simp only[tkS];refine tkH 5 hHeld (v:=?_) ?_ ?_;rotate_left
   ·intro w h;(try dsimp only at h);go_simp;all_goals with_reducible rfl
   simp only[tkS];refine tkH 6 hHeld (v:=?_) ?_ ?_;rotate_left
   ·intro w h;(try dsimp only at h);go_simp;all_goals with_reducible rfl
   simp only[tkS];refine wpAnyH_take (i:=7) (v:=.slice (some ⟨b,o+(k+1)*4,none⟩) cw.length (cap-(k+1))) rfl (by kernel_rfl) (by kernel_rfl) (by kernel_rfl) (fun _ _ _ h=>h) (Or.inl ⟨by rfl,?_⟩) hHeld ?_
   ·intro w hSw;(try dsimp only at hSw)
    go_simp;rw[if_pos HSL1.out,if_pos HSL2.out,HSL3.out]
   simp only[tkS];refine oneH 8 (fun K hK=>?_);go_simp;refine(zdM (c.from wD) s _ _ _ (sVar,o1,o2,o3) _ _ cw _ HV.out hwl (fun W1 h1=>zds (c.from wD) s _ _ _ (sVar,o1,o2,o3) _ _ cw W1 (HV.out.later h1) (HG.out.below (zd5 HBV.out h1)) (HE.out.below (zd5 HBV.out h1)) (HCV.out.below h1) HXC2.out (by omega))).mono ?_;rintro e w9 ⟨rfl,vS9,vD9,vr9,h9⟩;have HS9:=lhd (HSV.out w9 h9.kp);have H9:=lhd (h9.back HC.out.kp);clear hHeld h9 x0 x1 x2 x3;go_wp2_with fail;refine hK.out _ _ HS9.out (fun hHeld=>?_);clear hK;try simp only[tkS]
   refine wpAnyH_done (by kernel_rfl) ?_ _;clear hHeld;go_wp2_with fail;go_roundw;case rel=>exact⟨_,_,_,_,_,by rw[show(k:Int)+1+((cw.length:Int)+1)=((k+(cw.length+1)+1:Nat):Int)by omega],HPR.out.next HDR.out HEN.out HDS.out (by omega) H9.out⟩
   case measure=>simp[intOf];omega
  by_cases ht7:tx=zlB
  ·subst ht7;have hG2:G=some (mB 93 c.B):=by rw[hG];unfold secF;rw[zmj (k:=7) rfl];rfl
   have HSP:=lhd (show secP s (zlB,o1,o2,o3) cw=endD s (zlB,o1,o2,o3) cw from by unfold secP;rw[if_neg (by dsimp only;decide),if_neg (by dsimp only;decide),if_neg (by dsimp only;decide),if_neg (by dsimp only;decide),if_neg (by dsimp only;decide),if_neg (by dsimp only;decide),if_neg (by dsimp only;decide),if_pos rfl]);rw[HSP.out]at HDS;have hlk:=HLK.out;rw[hG2]at hlk;simp only[Option.getD_some,Option.isSome_some]at hlk;clear hG hG2 ht0 ht1 ht2 ht3 ht4 ht5 ht6;go_wp2_with fail;refine(HP36.out _).mono ?_;rintro e w' ⟨rfl,he'⟩;have he':=he'.symm;subst he';go_wp2_with fail;refine(HSEC.out _ HBC.out).mono ?_;rintro e w' ⟨rfl,he'⟩;have he':=he'.symm;subst he';go_wp2_with fail;refine wp_region_held_drew (S:=fun w'=>w'.cell? ⟨bw,0,none⟩=some (.string (bsB zlB))∧w'.cell? ⟨bw,1,none⟩=some (.int .i64 o1)∧w'.cell? ⟨bw,2,none⟩=some (.int .i64 o2)∧w'.cell? ⟨bw,3,none⟩=some (.int .i64 o3)) (by kernel_rfl) ⟨x0,x1,x2,x3⟩ (fun hHeld=>?_);refine tkH 0 hHeld (v:=?_) ?_ ?_;rotate_left
   ·intro w h;(try dsimp only at h);go_simp;all_goals with_reducible rfl
   simp only[tkS];refine tkH 1 hHeld (v:=?_) ?_ ?_;rotate_left
   ·intro w h;(try dsimp only at h);go_simp;all_goals with_reducible rfl
   simp only[tkS];refine tkH 2 hHeld (v:=?_) ?_ ?_;rotate_left
   ·intro w h;(try dsimp only at h);go_simp;all_goals with_reducible rfl
   simp only[tkS];refine tkH 3 hHeld (v:=?_) ?_ ?_;rotate_left
   ·intro w h;(try dsimp only at h);go_simp;all_goals with_reducible rfl
   simp only[tkS];refine tkH 4 hHeld (v:=?_) ?_ ?_;rotate_left
   ·intro w h;(try dsimp only at h);go_simp;all_goals with_reducible rfl
   simp only[tkS];refine tkH 5 hHeld (v:=?_) ?_ ?_;rotate_left
   ·intro w h;(try dsimp only at h);go_simp;all_goals with_reducible rfl
   simp only[tkS];refine tkH 6 hHeld (v:=?_) ?_ ?_;rotate_left
   ·intro w h;(try dsimp only at h);go_simp;all_goals with_reducible rfl
   simp only[tkS];refine wpAnyH_take (i:=7) (v:=.slice (some ⟨b,o+(k+1)*4,none⟩) cw.length (cap-(k+1))) rfl (by kernel_rfl) (by kernel_rfl) (by kernel_rfl) (fun _ _ _ h=>h) (Or.inl ⟨by rfl,?_⟩) hHeld ?_
   ·intro w hSw;(try dsimp only at hSw)
    go_simp;rw[if_pos HSL1.out,if_pos HSL2.out,HSL3.out]
   simp only[tkS];refine oneH 8 (fun K hK=>?_);go_simp;refine(zdu (c.from wD) s _ _ _ (zlB,o1,o2,o3) _ _ cw _ HV.out hwl).mono ?_;rintro e w9 ⟨rfl,vS9,vD9,vr9,h9⟩;have HS9:=lhd (HSV.out w9 h9.kp);have H9:=lhd (h9.back HC.out.kp);clear hHeld h9 x0 x1 x2 x3;go_wp2_with fail;refine hK.out _ _ HS9.out (fun hHeld=>?_);clear hK;try simp only[tkS]
   refine wpAnyH_done (by kernel_rfl) ?_ _;clear hHeld;go_wp2_with fail;go_roundw;case rel=>exact⟨_,_,_,_,_,by rw[show(k:Int)+1+((cw.length:Int)+1)=((k+(cw.length+1)+1:Nat):Int)by omega],HPR.out.next HDR.out HEN.out HDS.out (by omega) H9.out⟩
   case measure=>simp[intOf];omega
  have hG2:G=none:=by
   rw[hG];unfold secF
   rw[show secL.findIdx? (fun y=>decide (y=tx))=none from List.findIdx?_eq_none_iff.2 fun y hy=>by
    rw[decide_eq_false_iff_not];rintro rfl;simp only[secL,List.mem_cons,List.not_mem_nil,or_false]at hy;rcases hy with rfl|rfl|rfl|rfl|rfl|rfl|rfl|rfl
    ·exact ht0 rfl
    ·exact ht1 rfl
    ·exact ht2 rfl
    ·exact ht3 rfl
    ·exact ht4 rfl
    ·exact ht5 rfl
    ·exact ht6 rfl
    ·exact ht7 rfl]
  have HSP:=lhd (show secP s (tx,o1,o2,o3) cw=s.prob 3 (tx,o1,o2,o3)from by unfold secP;rw[if_neg ht0,if_neg ht1,if_neg ht2,if_neg ht3,if_neg ht4,if_neg ht5,if_neg ht6,if_neg ht7]);rw[HSP.out]at HDS;have hlk:=HLK.out;rw[hG2]at hlk;simp only[Option.getD_none,Option.isSome_none]at hlk;clear hG hG2 ht0 ht1 ht2 ht3 ht4 ht5 ht6 ht7;go_wp2_with fail;refine(HP36.out _).mono ?_;rintro e w' ⟨rfl,he'⟩;have he':=he'.symm;subst he';go_wp2_with fail;refine(HSEC.out _ HBC.out).mono ?_;rintro e w' ⟨rfl,he'⟩;have he':=he'.symm;subst he';go_wp2_with fail;refine(zdz c _ _ _ _ 3 (tx,o1,o2,o3) _ HC.out hwl).mono ?_;rintro e w9 ⟨rfl,vS9,vD9,vr9,h9⟩;have H9:=lhd h9;clear h9 x0 x1 x2 x3;go_wp2_with fail;go_roundw;case rel=>exact⟨_,_,_,_,_,by rw[show(k:Int)+1+((cw.length:Int)+1)=((k+(cw.length+1)+1:Nat):Int)by omega],HPR.out.next HDR.out HEN.out HDS.out (by omega) H9.out⟩
  case measure=>simp[intOf];omega
end Go.Proofs.YtcdekelomkcahaaGreatDoor
