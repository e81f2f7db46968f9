import Derived.Test.YtcdekelomkcahaaGreatDoorZ21
import Derived.Test.YtcdekelomkcahaaGreatDoorZ22
set_option maxRecDepth 100000
set_option maxHeartbeats 16000000
namespace Go.Proofs.YtcdekelomkcahaaGreatDoor
open Go.RowKit
set_option linter.unusedSimpArgs false
def posP (e:Int) (w:Wd):Pb:=(e,w.2.1,w.2.2.1,w.2.2.2)
inductive PCd (ws:List Wd):Nat→List Pb→Prop
 |nil (b:Nat):PCd ws b []
 |snoc {b k:Nat} {l:List Pb} {w:Wd} {e:Int}:PCd ws b l→b≤k→ws[k]? =some w→e≠0→PCd ws k (l++ [posP e w])
 |up {b c:Nat} {l:List Pb}:PCd ws b l→b≤c→PCd ws c l
theorem zbs {c:List Wd} {i:Nat} (h:i<c.length):c[i]? =some (cAt c i):=by
 unfold cAt List.getD;rw[List.getElem?_eq_getElem h];rfl
def AtW (w:Wd) (c:List Wd) (e:Int×Wd):Prop:=e.1≠0∧(e.2=w∨∃j:Nat,c[j]? =some e.2)
theorem nz {n:Int} {w:Wd} (h:n≠0):((n,w):Int×Wd).1≠0:=h
theorem ziI {s:DS} {w:Wd} {c:List Wd} {e:Int×Wd} (h:ziH s w c=some e):AtW w c e:=by
 unfold ziH at h;split at h
 ·obtain rfl:=Option.some.inj h;exact⟨nz (by decide),.inl rfl⟩
 rename_i hl
 have hl:c.length=2:=by simpa using hl
 split at h
 ·obtain rfl:=Option.some.inj h;exact⟨nz (by decide),.inr ⟨0,zbs (by omega)⟩⟩
 split at h
 ·obtain rfl:=Option.some.inj h;exact⟨nz (by decide),.inr ⟨1,zbs (by omega)⟩⟩
 split at h
 ·split at h
  ·obtain rfl:=Option.some.inj h;exact⟨nz (by decide),.inr ⟨1,zbs (by omega)⟩⟩
  ·cases h
 ·split at h
  ·obtain rfl:=Option.some.inj h;exact⟨nz (by decide),.inl rfl⟩
  ·cases h
theorem zc8 {s:DS} {w:Wd} {c:List Wd} {e:Int×Wd} (h:zc7 s w c=some e):AtW w c e:=by
 unfold zc7 at h;generalize dclF s c=x at h;generalize zn4 varW (cAt c 0).1=ty at h;generalize refF ((txt c).drop 3)=r at h;generalize zmK (cAt c 1).1=sz at h;split at h
 ·obtain rfl:=Option.some.inj h;exact⟨nz (by decide),.inl rfl⟩
 rename_i hl
 have hl:4≤c.length∧c.length≤5:=by omega
 split at h
 ·obtain rfl:=Option.some.inj h;exact⟨nz (by decide),.inr ⟨0,zbs (by omega)⟩⟩
 split at h
 ·obtain rfl:=Option.some.inj h;exact⟨nz (by decide),.inr ⟨1,zbs (by omega)⟩⟩
 dsimp only at h;split at h
 ·obtain rfl:=Option.some.inj h;exact⟨nz (by decide),.inr ⟨1,zbs (by omega)⟩⟩
 split at h
 ·obtain rfl:=Option.some.inj h;exact⟨nz (by decide),.inr ⟨2,zbs (by omega)⟩⟩
 split at h
 ·rename_i hr
  obtain rfl:=Option.some.inj h;exact⟨hr,.inr ⟨3,zbs (by omega)⟩⟩
 split at h
 ·obtain rfl:=Option.some.inj h;exact⟨nz (by decide),.inr ⟨_,zbs (by omega)⟩⟩
 split at h
 ·obtain rfl:=Option.some.inj h;exact⟨nz (by decide),.inr ⟨_,zbs (by omega)⟩⟩
 split at h
 ·split at h
  ·obtain rfl:=Option.some.inj h;exact⟨nz (by decide),.inr ⟨2,zbs (by omega)⟩⟩
  split at h
  ·obtain rfl:=Option.some.inj h;exact⟨nz (by decide),.inr ⟨2,zbs (by omega)⟩⟩
  split at h
  ·obtain rfl:=Option.some.inj h;exact⟨nz (by decide),.inr ⟨3,zbs (by omega)⟩⟩
  split at h
  ·obtain rfl:=Option.some.inj h;exact⟨nz (by decide),.inl rfl⟩
  ·cases h
 ·split at h
  ·obtain rfl:=Option.some.inj h;exact⟨nz (by decide),.inr ⟨3,zbs (by omega)⟩⟩
  split at h
  ·obtain rfl:=Option.some.inj h;exact⟨nz (by decide),.inl rfl⟩
  ·cases h
theorem zmn (s:DS) (w:Wd) (c:List Wd):(secP s w c).wrong=s.wrong∨∃e,AtW w c e∧(secP s w c).wrong=s.wrong++ [posP e.1 e.2]:=by
 have hw:∀e:Int,e≠0→AtW w c (e,w):=fun e he=>⟨he,.inl rfl⟩;unfold secP;split
 ·unfold zcG;split
  ·rename_i h
   exact .inr ⟨(_,w),hw _ h,rfl⟩
  ·split<;>exact .inl rfl
 split
 ·unfold zpc;split
  ·rename_i h
   exact .inr ⟨(_,w),hw _ h,rfl⟩
  ·split<;>exact .inl rfl
 split
 ·unfold zb9;split
  ·rename_i h
   exact .inr ⟨(_,w),hw _ h,rfl⟩
  ·split<;>exact .inl rfl
 split
 ·unfold zlQ;split
  ·exact .inr ⟨(3,w),hw _ (by decide),rfl⟩
  ·split<;>exact .inl rfl
 split
 ·unfold zl1 ziM;split
  ·exact .inl rfl
  ·cases h:ziH s w c with
   |some e=>exact .inr ⟨e,ziI h,rfl⟩
   |none=>dsimp only;cases zd6 s.S s.now (cAt c 1).1<;>exact .inl rfl
 split
 ·unfold upP;dsimp only;split
  ·exact .inl rfl
  split
  ·exact .inr ⟨(10,w),hw _ (by decide),rfl⟩
  split
  ·exact .inr ⟨(3,w),hw _ (by decide),rfl⟩
  ·exact .inl rfl
 split
 ·unfold varP;split
  ·exact .inl rfl
  ·cases h:zc7 s w c with
   |some e=>exact .inr ⟨e,zc8 h,rfl⟩
   |none=>exact .inl rfl
 split
 ·unfold endD;dsimp only;split
  ·exact .inr ⟨(3,w),hw _ (by decide),rfl⟩
  ·exact .inl rfl
 ·exact .inr ⟨(3,w),hw _ (by decide),rfl⟩
theorem zcm {t:List Wd}:∀{j:Nat} {x:Wd},(zck t)[j]? =some x→t[j]? =some x:=by
 intro j x h;obtain⟨u,hu⟩:zck t<+:t:=List.takeWhile_prefix _;rw[←hu,List.getElem?_append_left (List.getElem?_eq_some_iff.1 h).1];exact h
theorem zlr {ws:List Wd}:∀(m:Nat) (l:List Wd) (i:Nat) (s:DS),l.length≤m→ws.drop i=l→PCd ws i s.wrong→PCd ws (i+(dRun s l).2) (dRun s l).1.wrong
 |_,[],i,s,_,_,h=>by rw[zcD];exact h
 |0,w::t,_,_,h,_,_=>by simp at h
 |m+1,w::t,i,s,h,hd,hp=>by
  have h:t.length≤m:=by simpa using h
  have hwi:ws[i]? =some w:=by
   have:=congrArg List.head? hd;rwa [List.head?_drop]at this
  have hdt:∀k,ws.drop (i+1+k)=t.drop k:=fun k=>by
   have:=congrArg (List.drop (1+k)) hd;rw[List.drop_drop,show i+(1+k)=i+1+k by omega,show(w::t).drop (1+k)=t.drop k by rw[Nat.add_comm];rfl]at this;exact this
  have hti:∀j,t[j]? =ws[i+1+j]? :=fun j=>by
   have:=congrArg List.head? (hdt j);rw[List.head?_drop,List.head?_drop]at this;exact this.symm
  cases he:s.ended with
  |true=>rw[zcB he];exact hp
  |false=>
   have hpr:PCd ws i (s.prob 3 w).wrong:=PCd.snoc (e:=3) hp (Nat.le_refl _) hwi (by decide);rcases znh s w t with⟨-,hs⟩|⟨-,-,hs⟩|⟨-,-,hE,hs⟩|⟨-,-,-,hs⟩
   ·rw[zcE he hs];exact hpr
   ·rw[zcC he hs];have:=zlr m (t.drop 0) (i+1+0) (s.prob 3 w) (by simpa using h) (hdt 0) (hpr.up (by omega));dsimp only;rw[show i+((dRun (s.prob 3 w) (t.drop 0)).2+(0+1))=i+1+0+(dRun (s.prob 3 w) (t.drop 0)).2 by omega];exact this
   ·rw[zcC he hs];have hl:=zcp hE
    have hsec:PCd ws (i+1+((zck t).length+1)) (secP s w (zck t)).wrong:=by
     rcases zmn s w (zck t)with h1|⟨e,⟨h0,hat⟩,h1⟩
     ·rw[h1];exact hp.up (by omega)
     ·rw[h1];rcases hat with hat|⟨j,hj⟩
      ·rw[hat];exact(PCd.snoc (e:=e.1) hp (Nat.le_refl _) hwi h0).up (by omega)
      ·have hjl:j<(zck t).length:=(List.getElem?_eq_some_iff.1 hj).1;have hj2:=zcm hj;rw[hti j]at hj2;exact(PCd.snoc (e:=e.1) hp (by omega) hj2 h0).up (by omega)
    have:=zlr m (t.drop ((zck t).length+1)) (i+1+((zck t).length+1)) (secP s w (zck t)) (by rw[List.length_drop];omega) (hdt _) hsec;dsimp only;rw[show i+((dRun (secP s w (zck t)) (t.drop ((zck t).length+1))).2+((zck t).length+1+1))=i+1+((zck t).length+1)+(dRun (secP s w (zck t)) (t.drop ((zck t).length+1))).2 by omega];exact this
   ·rw[zcC he hs];dsimp only;rw[List.drop_length,zcD];exact hpr.up (by omega)
theorem zjO (ws:List Wd):PCd ws (zjK ws).2 (zjK ws).1.wrong:=by
 have:=zlr (ws:=ws) ws.length ws 0 ds0 (Nat.le_refl _) rfl (PCd.nil 0);rwa [Nat.zero_add]at this
def PF' (ws:List Wd) (n:Nat):Nat→List Pb→Prop
 |_,[]=>True
 |a,p::l=>∃(i:Nat) (w:Wd),a≤i∧i≤n∧ws[i]? =some w∧p.1≠0∧p=posP p.1 w∧PF' ws n i l
theorem zjR {ws:List Wd} {n k:Nat} {w:Wd} {e:Int} (hk:k≤n) (hw:ws[k]? =some w) (he:e≠0):∀(l:List Pb) (a b:Nat),PF' ws b a l→b≤k→a≤b→PF' ws n a (l++ [posP e w])
 | [],a,b,_,hb,hab=>⟨k,w,by omega,hk,hw,he,rfl,trivial⟩
 |p::l,a,b,⟨i,x,h1,h2,h3,h4,h5,h6⟩,hb,hab=>⟨i,x,h1,by omega,h3,h4,h5,zjR hk hw he l i b h6 hb h2⟩
theorem zjS {ws:List Wd} {b n:Nat} (h:b≤n):∀{l:List Pb} {a:Nat},PF' ws b a l→PF' ws n a l
 | [],_,_=>trivial
 |p::l,a,⟨i,x,h1,h2,h3,h4,h5,h6⟩=>⟨i,x,h1,by omega,h3,h4,h5,zjS h h6⟩
theorem PCd.front {ws:List Wd} {n:Nat} {l:List Pb} (h:PCd ws n l):PF' ws n 0 l:=by
 induction h with
 |nil=>trivial
 |snoc hp hb hw he ih=>exact zjR (Nat.le_refl _) hw he _ 0 _ ih hb (Nat.zero_le _)
 |up hp hb ih=>exact zjS hb ih
def wV:Wd:=(zlF,0,0,0)
def wT (s:Bs):Wd:=(s,0,0,0)
def wE:Wd:=(sEnd,0,0,0)
def sOdd:Bs:=[36,111,100,100]
def wO:Wd:=(sOdd,5,0,0)
def dsA:DS:={ds0 with vn:=[97],vnd:=true}
theorem zlo (s:DS) (c:Bs) (hc:zpZ c=true) (hl:c.length≤200) (hne:c≠sEnd) (ws:List Wd) (he:s.ended=false):
 dRun s (wV::wT c::wE::ws)=((dRun (if s.vnd=true then s else{s with vn:=c,vnd:=true}) ws).1,(dRun (if s.vnd=true then s else{s with vn:=c,vnd:=true}) ws).2+3):=by
 have hcon:zck (wT c::wE::ws)=[wT c]:=by
  rw[zcn,if_neg (show ¬(wT c).1=sEnd from hne),zcn,if_pos (show wE.1=sEnd from rfl)]
 have hj:zgg (txt [wT c])=(c,0):=by
  show zgg [c]=(c,0);unfold zgg;rw[show [c].all zpZ=true by simp[hc],if_neg (by simp),show zgc [c]=c from rfl,if_neg (by omega)]
 have hs:zcF s wV (wT c::wE::ws)=(if s.vnd=true then s else{s with vn:=c,vnd:=true},some 2):=by
  unfold zcF
  rw[if_neg (by decide),if_neg (by decide),if_pos (by
   rw[zeF,zeF];simp[wE]),hcon]
  congr 1
  unfold secP;rw[if_neg (by decide),if_pos (show wV.1=zlF from rfl)];unfold zpc;rw[hj,if_neg (by simp)]
 rw[zcC he hs];rfl
theorem zlq (s:DS) (ws:List Wd) (he:s.ended=false):dRun s (wO::wE::ws)=((dRun (s.prob 3 wO) ws).1,(dRun (s.prob 3 wO) ws).2+2):=by
 have hcon:zck (wE::ws)=[]:=by rw[zcn,if_pos (show wE.1=sEnd from rfl)]
 have hs:zcF s wO (wE::ws)=(s.prob 3 wO,some 1):=by
  unfold zcF;rw[if_neg (by decide),if_neg (by decide),if_pos (by rw[zeF];simp[wE]),hcon];congr 1
 rw[zcC he hs];rfl
theorem zjN (ws:List Wd):zjK (wV::wT [97]::wE::ws)=((dRun dsA ws).1,(dRun dsA ws).2+3):=zlo ds0 [97] (by decide) (by decide) (by decide) ws rfl
theorem zjP (ws:List Wd):zjK (wV::wT [97]::wE::wV::wT [98]::wE::ws)=((dRun dsA ws).1,(dRun dsA ws).2+6):=by
 rw[zjN,zlo dsA [98] (by decide) (by decide) (by decide) ws rfl];rfl
theorem zjM (ws:List Wd):zjK (wV::wT [97]::wE::wO::wE::ws)=((dRun dsA ws).1.pre [(3,5,0,0)],(dRun dsA ws).2+5):=by
 rw[zjN,zlq dsA ws rfl,show dsA.prob 3 wO=dsA.pre [(3,5,0,0)]from rfl,zls _ ws.length ws dsA (Nat.le_refl _)]
theorem zjQ (ws:List Wd):(dRun dsA ws).1.vn=[97]:=zlu ws.length ws dsA (Nat.le_refl _) rfl
end Go.Proofs.YtcdekelomkcahaaGreatDoor
