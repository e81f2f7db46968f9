import Derived.Test.YtcdekelomkcahaaGreatDoorZ00
import Derived.Test.YtcdekelomkcahaaGreatDoorZ29
set_option maxRecDepth 100000
set_option maxHeartbeats 16000000
namespace Go.Proofs.YtcdekelomkcahaaGreatDoor
open Go.RowKit
set_option linter.unusedSimpArgs false
theorem zcR:∀(n:Nat) (l:Bs),l.length=n→l≠ []→l.all isD=true→l.head? ≠some 48→Lib.decDigits (decN l)=l∧1≤decN l
 |0,l,hl,h0,_,_=>absurd (List.length_eq_zero_iff.1 hl) h0
 |n+1,l,hl,h0,hd,hh=>by
  rcases List.eq_nil_or_concat l with rfl|⟨m,c,rfl⟩
  ·exact absurd rfl h0
  ·rw[List.concat_eq_append]at hl hd hh⊢
   have hc:isD c=true:=by
    rw[List.all_append,Bool.and_eq_true]at hd;simpa using hd.2
   have hc2:=(zfG c).1 hc
   have he:UInt8.ofNat (48+(c.toNat-48))=c:=by
    rw[show 48+(c.toNat-48)=c.toNat by omega,UInt8.ofNat_toNat]
   by_cases hm:m=[]
   ·subst hm;rw[zcP]
    have hc3:c.toNat≠48:=fun e=>hh (by
     have:c=48:=UInt8.toNat_inj.1 e;rw[this];rfl)
    rw[show decN []=0 from rfl,Nat.mul_zero,Nat.zero_add,Lib.decDigits_one (by omega),he];exact⟨rfl,by omega⟩
   ·have ih:=zcR n m (by rw[List.length_append]at hl;simpa using hl) hm (by
     rw[List.all_append,Bool.and_eq_true]at hd;exact hd.1) (by
     cases m with
     |nil=>exact absurd rfl hm
     |cons a m=>exact hh)
    rw[zcP];refine⟨?_,by omega⟩;rw[Lib.decDigits,dif_neg (by omega),show(10*decN m+(c.toNat-48))/10=decN m by omega,show(10*decN m+(c.toNat-48)) % 10=c.toNat-48 by omega,ih.1,he]
theorem zcN:∀(n:Nat) (l:Bs),l.length=n→l.all isD=true→decN l<10^n
 |0,l,hl,_=>by rw[List.length_eq_zero_iff.1 hl];decide
 |n+1,l,hl,hd=>by
  rcases List.eq_nil_or_concat l with rfl|⟨m,c,rfl⟩
  ·cases hl
  ·rw[List.concat_eq_append]at hl hd⊢;rw[List.all_append,Bool.and_eq_true]at hd;have:=zcN n m (by rw[List.length_append]at hl;simpa using hl) hd.1;have hc2:=(zfG c).1 (by simpa using hd.2);rw[zcP,Nat.pow_succ];omega
theorem zmM {s:Bs} {n:Int}:zmK s=some n↔Lib.atoiAll s=.ok n∧1≤n∧n≤999999999∧Lib.itoa n=s:=by
 constructor
 ·intro h;have hp:=zmN h;unfold zmK at h;by_cases h1:s=[]∨9<s.length∨s.all isD=false∨s.head? =some 48
  ·rw[if_pos h1]at h;cases h
  ·rw[if_neg h1]at h;obtain rfl:=Option.some.inj h;have hd:s.all isD=true:=by rw[←Bool.not_eq_false];exact fun e=>h1 (.inr (.inr (.inl e)))
   have hc:=zcR s.length s rfl (fun e=>h1 (.inl e)) hd (fun e=>h1 (.inr (.inr (.inr e))));have hlt:=zcN s.length s rfl hd;have h9:10^s.length≤10^9:=Nat.pow_le_pow_right (by decide) (by omega);refine⟨zaL (fun e=>h1 (.inl e)) (by omega) hd,hp,by omega,?_⟩;rw[Lib.itoa_nonneg,hc.1]
 ·rintro⟨-,h1,h2,h3⟩;rw[←h3];exact zmL h1 (by omega)
theorem zdE (s:Bs) (w:World) (hg:Glob w) (hE:zag w) (hs:s.length≤140737488351232):
 Calls Tryz.prog 173 #[.string (bsB s)] w fun e w'=>∃v:Int,e=.returned (.tuple #[.int .i64 v,.bool (zmK s).isSome])∧(∀n,zmK s=some n→v=n)∧Below w.heap.size w w':=by
 have HAT:=lhd (zca s w hE (by omega));obtain⟨R,hR⟩:∃R,R=zmK s:=⟨_,rfl⟩;rw[←hR];have HRR:=lhd hR;clear hR;have HG:=lhd hg;clear hg hE;go_enter Tryz.func173,Tryz.ntmps173;go_wp2_with fail;refine HAT.out.mono ?_;rintro e w1 (⟨v,hv,rfl,hb⟩|⟨hv,v,t,a,rfl,hb⟩)
 ·have HB:=lhd hb;clear hb;by_cases h1:1≤v
  ·by_cases h2:v≤999999999
   ·have HI:=lhd (Tryz.strconv_Itoa v (by omega) (by omega) w1 (HG.out.below HB.out));have hz:(⟨(Lib.itoa v).toArray⟩:ByteArray)=bsB (Lib.itoa v):=rfl;generalize (⟨(Lib.itoa v).toArray⟩:ByteArray)=z at*;go_wp2_with fail;refine HI.out.mono ?_;rintro e w2 ⟨rfl,kk,os,rfl⟩;have HB2:=lhd (zd5 HB.out (Lib.below_grow _ _ (Nat.le_refl _) kk os));by_cases h3:Lib.itoa v=s
    ·have H4:=lhd (show R=some v from HRR.out.trans (zmM.2 ⟨hv,h1,h2,h3⟩));have hb:(z.toList==(bsB s).toList)=true:=by rw[hz,h3];exact beq_self_eq_true _
     clear h3 hz;go_wp2_with fail;exact bodyPost_ret (v:=.tuple #[.int .i64 v,.bool true]) (by simp[results,Tryz.results173,go_sem]) rfl ⟨v,by rw[H4.out];rfl,fun n hn=>Option.some.inj (H4.out.symm.trans hn),HB2.out⟩
    ·have H4:=lhd (show R=none from HRR.out.trans (by
      cases hz:zmK s with
      |none=>rfl
      |some n=>
       have:=zmM.1 hz;rw[hv]at this;injection this.1 with e;subst e;exact absurd this.2.2.2 h3))
     have hb:(z.toList==(bsB s).toList)=false:=by rw[hz];exact zbi h3
     clear h3 hz;go_wp2_with fail;exact bodyPost_ret (v:=.tuple #[.int .i64 v,.bool false]) (by simp[results,Tryz.results173,go_sem]) rfl ⟨v,by rw[H4.out];rfl,fun n hn=>(by rw[H4.out]at hn;cases hn),HB2.out⟩
   ·have H4:=lhd (show R=none from HRR.out.trans (by
     cases hz:zmK s with
     |none=>rfl
     |some n=>
      have:=zmM.1 hz;rw[hv]at this;injection this.1 with e;subst e;exact absurd this.2.2.1 h2))
    go_wp2_with fail;exact bodyPost_ret (v:=.tuple #[.int .i64 v,.bool false]) (by simp[results,Tryz.results173,go_sem]) rfl ⟨v,by rw[H4.out];rfl,fun n hn=>(by rw[H4.out]at hn;cases hn),HB.out⟩
  ·have H4:=lhd (show R=none from HRR.out.trans (by
    cases hz:zmK s with
    |none=>rfl
    |some n=>
     have:=zmM.1 hz;rw[hv]at this;injection this.1 with e;subst e;exact absurd this.2.1 h1))
   go_wp2_with fail;exact bodyPost_ret (v:=.tuple #[.int .i64 v,.bool false]) (by simp[results,Tryz.results173,go_sem]) rfl ⟨v,by rw[H4.out];rfl,fun n hn=>(by rw[H4.out]at hn;cases hn),HB.out⟩
 ·have HB:=lhd hb;clear hb
  have H4:=lhd (show R=none from HRR.out.trans (by
   cases hz:zmK s with
   |none=>rfl
   |some n=>exact absurd (zmM.1 hz).1 (hv n)))
  go_wp2_with fail;exact bodyPost_ret (v:=.tuple #[.int .i64 v,.bool false]) (by simp[results,Tryz.results173,go_sem]) rfl ⟨v,by rw[H4.out];rfl,fun n hn=>(by rw[H4.out]at hn;cases hn),HB.out⟩
def nfrD (y:Bs):Bs:=y.takeWhile isD
def zhF (d:Bs) (neg:Bool):Prop:=d.length<1∨9<d.length∨(d.head? =some 48∧(1<d.length∨neg=true))
instance (d:Bs) (neg:Bool):Decidable (zhF d neg):=by unfold zhF;infer_instance
theorem zim (x:Bs):numT x=if zhF (nfrD (tk1 45 x)) (decide (x.head? =some 45))then((0,false),(tk1 45 x).drop (nfrD (tk1 45 x)).length)
 else((if decide (x.head? =some 45)=true then-(decN (nfrD (tk1 45 x)):Int)else(decN (nfrD (tk1 45 x)):Int),true),(tk1 45 x).drop (nfrD (tk1 45 x)).length):=by
 unfold numT zhF nfrD tk1;by_cases h:x.head? =some 45
 ·simp only[h,decide_true,if_true]
 ·simp only[h,decide_false,if_false,Bool.false_eq_true]
theorem zhG:∀y:Bs,(nfrD y).all isD=true
 | []=>rfl
 |c::y=>by
  unfold nfrD;rw[List.takeWhile_cons];cases h:isD c with
  |false=>rfl
  |true=>
   show((c::nfrD y).all isD)=true;rw[List.all_cons,h,zhG y];rfl
theorem zhH (y:Bs):nfrD y++y.dropWhile isD=y:=List.takeWhile_append_dropWhile
theorem zhJ (y:Bs):(nfrD y).length≤y.length:=(List.takeWhile_prefix isD).length_le
theorem zhI {y:Bs} {k:Nat} (hk:k<(nfrD y).length):∃h:k<y.length,isD (y[k]'h)=true:=by
 have h:=Nat.lt_of_lt_of_le hk (zhJ y);refine⟨h,?_⟩
 have e:(nfrD y)[k]=y[k]:=by
  have:=(List.takeWhile_prefix isD (l:=y)).getElem hk;exact this
 rw[←e];exact List.all_eq_true.1 (zhG y) _ (List.getElem_mem hk)
theorem zhK {y:Bs} (h:(nfrD y).length<y.length):isD (y[(nfrD y).length]'h)=false:=by
 have h2:y.drop (nfrD y).length=y.dropWhile isD:=by
  have:=List.drop_left (l₁:=nfrD y) (l₂:=y.dropWhile isD);rwa [zhH]at this
 cases hd:y.dropWhile isD with
 |nil=>
  rw[hd]at h2;have:=congrArg List.length h2;rw[List.length_drop]at this;simp at this;omega
 |cons c t=>
  have h3:y[(nfrD y).length]'h=c:=by
   have:=List.getElem?_drop (xs:=y) (i:=(nfrD y).length) (j:=0);rw[h2,hd]at this;simp at this;rw[List.getElem?_eq_getElem h]at this;exact(Option.some.inj this).symm
  rw[h3];have:=List.head?_dropWhile_not isD y;rw[hd]at this;simpa using this
theorem zhL (y:Bs):y.take (nfrD y).length=nfrD y:=by
 have:=List.take_left (l₁:=nfrD y) (l₂:=y.dropWhile isD);rwa [zhH]at this
theorem zhM {d:Bs} {neg:Bool} (h:zhF d neg) (r:Bs):(if zhF d neg then(((0:Int),false),r)else((if neg=true then-(decN d:Int)else(decN d:Int),true),r))=((0,false),r):=if_pos h
theorem zhN {d:Bs} {neg:Bool} (h:¬zhF d neg) (r:Bs):(if zhF d neg then(((0:Int),false),r)else((if neg=true then-(decN d:Int)else(decN d:Int),true),r))=((if neg=true then-(decN d:Int)else(decN d:Int),true),r):=if_neg h
theorem zh0 (b:Nat) (x:Bs) (w0 w:World) (hg:zag w0) (hbw:Below w0.heap.size w0 w) (hb0:w0.heap.size≤b) (hc:w.cell? ⟨b,0,none⟩=some (.string (bsB x))) (hf:w.frozen? ⟨b,0,none⟩=false) (hx:x.length≤2000000):
 Calls Tryz.prog 241 #[.pointer (some ⟨b,0,none⟩)] w fun e w'=>e=.returned (.tuple #[.int .i64 (numT x).1.1,.bool (numT x).1.2])∧w'.cell? ⟨b,0,none⟩=some (.string (bsB (numT x).2))∧w'.frozen? ⟨b,0,none⟩=false∧Below b w w':=by
 have HT:=lhd (zh2 b 45 x w hc hf);rw[zim]
 have hyl:(tk1 45 x).length≤2000000:=by
  unfold tk1;split
  ·rw[List.length_drop];omega
  ·exact hx
 have hc1:(w.setCell ⟨b,0,none⟩ (.string (bsB (tk1 45 x)))).cell? ⟨b,0,none⟩=some (.string (bsB (tk1 45 x))):=World.cell?_setCell_same _ _ _ hc;have hf1:(w.setCell ⟨b,0,none⟩ (.string (bsB (tk1 45 x)))).frozen? ⟨b,0,none⟩=false:=by rw[World.frozen?_setCell];exact hf
 have HB1:=lhd (show Below b w (w.setCell ⟨b,0,none⟩ (.string (bsB (tk1 45 x))))from(Below.refl b w).setCell (p:=⟨b,0,none⟩) (Nat.le_refl _) _);generalize decide (x.head? =some 45)=neg at*;generalize tk1 45 x=y at*;have HB0:=lhd (show Below w0.heap.size w0 (w.setCell ⟨b,0,none⟩ (.string (bsB y)))from hbw.setCell (p:=⟨b,0,none⟩) hb0 _);have HG:=lhd hg;have hmle:=zhJ y;have hsz:=zbk y
 have HX1:=lhd (show(bsB y).extract 0 (nfrD y).length=bsB (nfrD y)by
  rw[←zbj ((bsB y).extract 0 (nfrD y).length),Lib.extract_data,zbh,Nat.sub_zero,List.drop_zero,zhL])
 have HX2:=lhd (show(bsB y).extract (nfrD y).length (bsB y).size=bsB (y.drop (nfrD y).length)by rw[zd4,zbh]);have HAL:=lhd (zhG y);have HAT:=lhd (fun k (hk:k<(nfrD y).length)=>zhI (y:=y) hk);have HST:=lhd (fun h:(nfrD y).length<y.length=>zhK h);have HC1:=lhd (And.intro hc1 hf1);generalize w.setCell ⟨b,0,none⟩ (.string (bsB y))=w1 at*;generalize nfrD y=d at*;obtain⟨R,hR⟩:∃R,R=if zhF d neg then(((0:Int),false),y.drop d.length)else((if neg=true then-(decN d:Int)else(decN d:Int),true),y.drop d.length):=⟨_,rfl⟩
 rw[←hR];have HRR:=lhd hR;clear hc hf hx hbw hg hc1 hf1 hR;go_enter Tryz.func241,Tryz.ntmps241;go_wp2_with fail;refine HT.out.mono ?_;rintro e w' ⟨rfl,he⟩;have he:=he.symm;subst he;clear HT;go_wp2_with fail;go_loopw [5] (fun u wr=>wr=w1∧∃k:Nat,k≤d.length∧u=.int .i64 k) (fun u _=>d.length-(intOf u).toNat)
 case atStart=>exact⟨rfl,0,Nat.zero_le _,rfl⟩
 case round=>
  obtain⟨rfl,k,hk,rfl⟩:=hrel;obtain⟨hc1,hf1⟩:=HC1.out;by_cases hkd:k<d.length
  ·obtain⟨hky,hdg⟩:=HAT.out k hkd;obtain⟨h2,h3⟩:=(zfG _).1 hdg;obtain⟨c,hcd⟩:∃c,c=y[k]:=⟨_,rfl⟩;have hcix:∀h:k<(bsB y).size,(bsB y)[k]'h=c:=fun h=>by rw[hcd];rfl
   rw[←hcd]at h2 h3;have hlt:k<(bsB y).size:=by rw[hsz];exact hky
   clear hdg hcd;go_wp2_with fail;go_roundw;case rel=>exact⟨by first|trivial|rfl,k+1,hkd,by go_num⟩
   case measure=>simp[intOf];omega
  ·obtain rfl:k=d.length:=by omega
   clear hkd hk
   have HC2:=lhd (show(wr.setCell ⟨b,0,none⟩ (.string (bsB (y.drop d.length)))).cell? ⟨b,0,none⟩=some (.string (bsB (y.drop d.length)))∧(wr.setCell ⟨b,0,none⟩ (.string (bsB (y.drop d.length)))).frozen? ⟨b,0,none⟩=false∧Below b w (wr.setCell ⟨b,0,none⟩ (.string (bsB (y.drop d.length))))∧Below w0.heap.size w0 (wr.setCell ⟨b,0,none⟩ (.string (bsB (y.drop d.length))))from
    ⟨World.cell?_setCell_same _ _ _ hc1,by rw[World.frozen?_setCell];exact hf1,HB1.out.setCell (p:=⟨b,0,none⟩) (Nat.le_refl _) _,HB0.out.setCell (p:=⟨b,0,none⟩) hb0 _⟩)
   have hx1:=HX1.out;have hx2:=HX2.out;rw[hsz]at hx2;rcases Nat.lt_or_ge d.length y.length with hm|hm
   ·have hst:=HST.out hm;obtain⟨c,hcd⟩:∃c,c=y[d.length]:=⟨_,rfl⟩;have hcix:∀h:d.length<(bsB y).size,(bsB y)[d.length]'h=c:=fun h=>by rw[hcd];rfl
    rw[←hcd]at hst;clear hcd
    rcases(show c.toNat<48∨57<c.toNat by
     rcases Nat.lt_or_ge c.toNat 48 with h|h
     ·exact .inl h
     ·rcases Nat.lt_or_ge 57 c.toNat with h'|h'
      ·exact .inr h'
      ·rw[(zfG _).2 ⟨h,h'⟩]at hst;cases hst)with h2|h2
    all_goals
     clear hst;have hlt:d.length<(bsB y).size:=by rw[hsz];exact hm
     go_upto_region 7 with fail;have HC2:=HC2;generalize wr.setCell ⟨b,0,none⟩ (.string (bsB (y.drop d.length)))=w2 at*;clear hx1 hx2 hlt HX1 HX2 HAT HST HC1 hc1 hf1 hsz hmle;cases d with
     |nil=>
      have hbad:zhF [] neg:=.inl (by simp);have HQ:=lhd (HRR.out.trans (zhM hbad _));go_wp2_with fail;refine bodyPost_ret (v:=.tuple #[.int .i64 0,.bool false]) (by simp[results,Tryz.results241,go_sem]) rfl ?_;rw[HQ.out];exact⟨rfl,HC2.out.1,HC2.out.2.1,HC2.out.2.2.1⟩
     |cons c0 u=>
      have hszd:(bsB (c0::u)).size=u.length+1:=by rw[zbk,List.length_cons]
      have hcd0:∀h:0<(bsB (c0::u)).size,(bsB (c0::u))[0]'h=c0:=fun _=>rfl;have hlc:(c0::u).length=u.length+1:=rfl;by_cases h9:8<u.length
      ·have hbad:zhF (c0::u) neg:=.inr (.inl (by rw[hlc];omega));have HQ:=lhd (HRR.out.trans (zhM hbad _));go_wp2_with fail;refine bodyPost_ret (v:=.tuple #[.int .i64 0,.bool false]) (by simp[results,Tryz.results241,go_sem]) rfl ?_;rw[HQ.out];exact⟨rfl,HC2.out.1,HC2.out.2.1,HC2.out.2.2.1⟩
      have HATO:=lhd (zca (c0::u) w2 (HG.out.below HC2.out.2.2.2) (by rw[hlc];omega));have HDV:=lhd (zaL (u:=c0::u) (by simp) (by rw[hlc];omega) HAL.out)
      have HLT10:=lhd (show(0:Int)≤(decN (c0::u):Int)∧(decN (c0::u):Int)≤999999999 by
       have h1:=zcN _ (c0::u) rfl HAL.out;have h2:10^(c0::u).length≤10^9:=Nat.pow_le_pow_right (by decide) (by rw[hlc];omega);omega)
      by_cases h48:c0=48
      ·have b48:((c0.toNat:Int)==48)=true:=by rw[h48];rfl
       by_cases hu:0<u.length
       ·have hbad:zhF (c0::u) neg:=.inr (.inr ⟨by rw[h48];rfl,.inl (by rw[hlc];omega)⟩);clear h48 HATO HDV HLT10;have HQ:=lhd (HRR.out.trans (zhM hbad _));go_wp2_with fail;refine bodyPost_ret (v:=.tuple #[.int .i64 0,.bool false]) (by simp[results,Tryz.results241,go_sem]) rfl ?_;rw[HQ.out];exact⟨rfl,HC2.out.1,HC2.out.2.1,HC2.out.2.2.1⟩
       cases neg
       ·have hgood:¬zhF (c0::u) false:=by
         rintro(h|h|⟨-,h|h⟩)
         ·rw[hlc]at h;omega
         ·rw[hlc]at h;omega
         ·rw[hlc]at h;omega
         ·cases h
        clear h48;have HQ:=lhd (HRR.out.trans (zhN hgood _));go_wp2_with fail;refine HATO.out.mono ?_;rintro e w3 (⟨v,hv,rfl,hb3⟩|⟨hv,-⟩);rotate_left
        ·exact absurd HDV.out (hv _)
        obtain rfl:v=(decN (c0::u):Int):=by rw[HDV.out]at hv;injection hv with hv;exact hv.symm
        have HB3:=lhd hb3;have HBLT:=lhd (zbA HC2.out.1);have hlt10:=HLT10.out;generalize ((decN (c0::u):Nat):Int)=nn at*;have hwn:IntKind.i64.wrap (-nn)= -nn:=IntWalk.i64_in _ (by omega);clear hv hb3;go_wp2_with fail;refine bodyPost_ret (v:=.tuple #[.int .i64 nn,.bool true]) (by simp[results,Tryz.results241,go_sem]) rfl ?_;rw[HQ.out];exact⟨rfl,(HB3.out.cell (p:=⟨b,0,none⟩) HBLT.out).trans HC2.out.1,(HB3.out.frozen (p:=⟨b,0,none⟩) HBLT.out).trans HC2.out.2.1,HC2.out.2.2.1.trans (HB3.out.mono (Nat.le_of_lt HBLT.out))⟩
       ·have hbad:zhF (c0::u) true:=.inr (.inr ⟨by rw[h48];rfl,.inr rfl⟩);clear h48 HATO HDV HLT10;have HQ:=lhd (HRR.out.trans (zhM hbad _));go_wp2_with fail;refine bodyPost_ret (v:=.tuple #[.int .i64 0,.bool false]) (by simp[results,Tryz.results241,go_sem]) rfl ?_;rw[HQ.out];exact⟨rfl,HC2.out.1,HC2.out.2.1,HC2.out.2.2.1⟩
      ·have b48:((c0.toNat:Int)==48)=false:=by
        rw[beq_eq_false_iff_ne];intro h;exact h48 (UInt8.toNat_inj.1 (by simpa using (show c0.toNat=48 by omega)))
       have hgood:¬zhF (c0::u) neg:=by
        rintro(h|h|⟨h,-⟩)
        ·rw[hlc]at h;omega
        ·rw[hlc]at h;omega
        ·exact h48 (Option.some.inj h)
       clear h48;cases neg
       ·skip
        have HQ:=lhd (HRR.out.trans (zhN hgood _));go_wp2_with fail;refine HATO.out.mono ?_;rintro e w3 (⟨v,hv,rfl,hb3⟩|⟨hv,-⟩);rotate_left
        ·exact absurd HDV.out (hv _)
        obtain rfl:v=(decN (c0::u):Int):=by rw[HDV.out]at hv;injection hv with hv;exact hv.symm
        have HB3:=lhd hb3;have HBLT:=lhd (zbA HC2.out.1);have hlt10:=HLT10.out;generalize ((decN (c0::u):Nat):Int)=nn at*;have hwn:IntKind.i64.wrap (-nn)= -nn:=IntWalk.i64_in _ (by omega);clear hv hb3;go_wp2_with fail;refine bodyPost_ret (v:=.tuple #[.int .i64 nn,.bool true]) (by simp[results,Tryz.results241,go_sem]) rfl ?_;rw[HQ.out];exact⟨rfl,(HB3.out.cell (p:=⟨b,0,none⟩) HBLT.out).trans HC2.out.1,(HB3.out.frozen (p:=⟨b,0,none⟩) HBLT.out).trans HC2.out.2.1,HC2.out.2.2.1.trans (HB3.out.mono (Nat.le_of_lt HBLT.out))⟩
       ·skip
        have HQ:=lhd (HRR.out.trans (zhN hgood _));go_wp2_with fail;refine HATO.out.mono ?_;rintro e w3 (⟨v,hv,rfl,hb3⟩|⟨hv,-⟩);rotate_left
        ·exact absurd HDV.out (hv _)
        obtain rfl:v=(decN (c0::u):Int):=by rw[HDV.out]at hv;injection hv with hv;exact hv.symm
        have HB3:=lhd hb3;have HBLT:=lhd (zbA HC2.out.1);have hlt10:=HLT10.out;generalize ((decN (c0::u):Nat):Int)=nn at*;have hwn:IntKind.i64.wrap (-nn)= -nn:=IntWalk.i64_in _ (by omega);clear hv hb3;go_wp2_with fail;refine bodyPost_ret (v:=.tuple #[.int .i64 (-nn),.bool true]) (by simp[results,Tryz.results241,go_sem]) rfl ?_;rw[HQ.out];exact⟨rfl,(HB3.out.cell (p:=⟨b,0,none⟩) HBLT.out).trans HC2.out.1,(HB3.out.frozen (p:=⟨b,0,none⟩) HBLT.out).trans HC2.out.2.1,HC2.out.2.2.1.trans (HB3.out.mono (Nat.le_of_lt HBLT.out))⟩
   ·have hlt:¬d.length<(bsB y).size:=by rw[hsz];omega
    go_upto_region 7 with fail;have HC2:=HC2;generalize wr.setCell ⟨b,0,none⟩ (.string (bsB (y.drop d.length)))=w2 at*;clear hx1 hx2 hlt HX1 HX2 HAT HST HC1 hc1 hf1 hsz hmle;cases d with
    |nil=>
     have hbad:zhF [] neg:=.inl (by simp);have HQ:=lhd (HRR.out.trans (zhM hbad _));go_wp2_with fail;refine bodyPost_ret (v:=.tuple #[.int .i64 0,.bool false]) (by simp[results,Tryz.results241,go_sem]) rfl ?_;rw[HQ.out];exact⟨rfl,HC2.out.1,HC2.out.2.1,HC2.out.2.2.1⟩
    |cons c0 u=>
     have hszd:(bsB (c0::u)).size=u.length+1:=by rw[zbk,List.length_cons]
     have hcd0:∀h:0<(bsB (c0::u)).size,(bsB (c0::u))[0]'h=c0:=fun _=>rfl;have hlc:(c0::u).length=u.length+1:=rfl;by_cases h9:8<u.length
     ·have hbad:zhF (c0::u) neg:=.inr (.inl (by rw[hlc];omega));have HQ:=lhd (HRR.out.trans (zhM hbad _));go_wp2_with fail;refine bodyPost_ret (v:=.tuple #[.int .i64 0,.bool false]) (by simp[results,Tryz.results241,go_sem]) rfl ?_;rw[HQ.out];exact⟨rfl,HC2.out.1,HC2.out.2.1,HC2.out.2.2.1⟩
     have HATO:=lhd (zca (c0::u) w2 (HG.out.below HC2.out.2.2.2) (by rw[hlc];omega));have HDV:=lhd (zaL (u:=c0::u) (by simp) (by rw[hlc];omega) HAL.out)
     have HLT10:=lhd (show(0:Int)≤(decN (c0::u):Int)∧(decN (c0::u):Int)≤999999999 by
      have h1:=zcN _ (c0::u) rfl HAL.out;have h2:10^(c0::u).length≤10^9:=Nat.pow_le_pow_right (by decide) (by rw[hlc];omega);omega)
     by_cases h48:c0=48
     ·have b48:((c0.toNat:Int)==48)=true:=by rw[h48];rfl
      by_cases hu:0<u.length
      ·have hbad:zhF (c0::u) neg:=.inr (.inr ⟨by rw[h48];rfl,.inl (by rw[hlc];omega)⟩);clear h48 HATO HDV HLT10;have HQ:=lhd (HRR.out.trans (zhM hbad _));go_wp2_with fail;refine bodyPost_ret (v:=.tuple #[.int .i64 0,.bool false]) (by simp[results,Tryz.results241,go_sem]) rfl ?_;rw[HQ.out];exact⟨rfl,HC2.out.1,HC2.out.2.1,HC2.out.2.2.1⟩
      cases neg
      ·have hgood:¬zhF (c0::u) false:=by
        rintro(h|h|⟨-,h|h⟩)
        ·rw[hlc]at h;omega
        ·rw[hlc]at h;omega
        ·rw[hlc]at h;omega
        ·cases h
       clear h48;have HQ:=lhd (HRR.out.trans (zhN hgood _));go_wp2_with fail;refine HATO.out.mono ?_;rintro e w3 (⟨v,hv,rfl,hb3⟩|⟨hv,-⟩);rotate_left
       ·exact absurd HDV.out (hv _)
       obtain rfl:v=(decN (c0::u):Int):=by rw[HDV.out]at hv;injection hv with hv;exact hv.symm
       have HB3:=lhd hb3;have HBLT:=lhd (zbA HC2.out.1);have hlt10:=HLT10.out;generalize ((decN (c0::u):Nat):Int)=nn at*;have hwn:IntKind.i64.wrap (-nn)= -nn:=IntWalk.i64_in _ (by omega);clear hv hb3;go_wp2_with fail;refine bodyPost_ret (v:=.tuple #[.int .i64 nn,.bool true]) (by simp[results,Tryz.results241,go_sem]) rfl ?_;rw[HQ.out];exact⟨rfl,(HB3.out.cell (p:=⟨b,0,none⟩) HBLT.out).trans HC2.out.1,(HB3.out.frozen (p:=⟨b,0,none⟩) HBLT.out).trans HC2.out.2.1,HC2.out.2.2.1.trans (HB3.out.mono (Nat.le_of_lt HBLT.out))⟩
      ·have hbad:zhF (c0::u) true:=.inr (.inr ⟨by rw[h48];rfl,.inr rfl⟩);clear h48 HATO HDV HLT10;have HQ:=lhd (HRR.out.trans (zhM hbad _));go_wp2_with fail;refine bodyPost_ret (v:=.tuple #[.int .i64 0,.bool false]) (by simp[results,Tryz.results241,go_sem]) rfl ?_;rw[HQ.out];exact⟨rfl,HC2.out.1,HC2.out.2.1,HC2.out.2.2.1⟩
     ·have b48:((c0.toNat:Int)==48)=false:=by
       rw[beq_eq_false_iff_ne];intro h;exact h48 (UInt8.toNat_inj.1 (by simpa using (show c0.toNat=48 by omega)))
      have hgood:¬zhF (c0::u) neg:=by
       rintro(h|h|⟨h,-⟩)
       ·rw[hlc]at h;omega
       ·rw[hlc]at h;omega
       ·exact h48 (Option.some.inj h)
      clear h48;cases neg
      ·skip
       have HQ:=lhd (HRR.out.trans (zhN hgood _));go_wp2_with fail;refine HATO.out.mono ?_;rintro e w3 (⟨v,hv,rfl,hb3⟩|⟨hv,-⟩);rotate_left
       ·exact absurd HDV.out (hv _)
       obtain rfl:v=(decN (c0::u):Int):=by rw[HDV.out]at hv;injection hv with hv;exact hv.symm
       have HB3:=lhd hb3;have HBLT:=lhd (zbA HC2.out.1);have hlt10:=HLT10.out;generalize ((decN (c0::u):Nat):Int)=nn at*;have hwn:IntKind.i64.wrap (-nn)= -nn:=IntWalk.i64_in _ (by omega);clear hv hb3;go_wp2_with fail;refine bodyPost_ret (v:=.tuple #[.int .i64 nn,.bool true]) (by simp[results,Tryz.results241,go_sem]) rfl ?_;rw[HQ.out];exact⟨rfl,(HB3.out.cell (p:=⟨b,0,none⟩) HBLT.out).trans HC2.out.1,(HB3.out.frozen (p:=⟨b,0,none⟩) HBLT.out).trans HC2.out.2.1,HC2.out.2.2.1.trans (HB3.out.mono (Nat.le_of_lt HBLT.out))⟩
      ·skip
       have HQ:=lhd (HRR.out.trans (zhN hgood _));go_wp2_with fail;refine HATO.out.mono ?_;rintro e w3 (⟨v,hv,rfl,hb3⟩|⟨hv,-⟩);rotate_left
       ·exact absurd HDV.out (hv _)
       obtain rfl:v=(decN (c0::u):Int):=by rw[HDV.out]at hv;injection hv with hv;exact hv.symm
       have HB3:=lhd hb3;have HBLT:=lhd (zbA HC2.out.1);have hlt10:=HLT10.out;generalize ((decN (c0::u):Nat):Int)=nn at*;have hwn:IntKind.i64.wrap (-nn)= -nn:=IntWalk.i64_in _ (by omega);clear hv hb3;go_wp2_with fail;refine bodyPost_ret (v:=.tuple #[.int .i64 (-nn),.bool true]) (by simp[results,Tryz.results241,go_sem]) rfl ?_;rw[HQ.out];exact⟨rfl,(HB3.out.cell (p:=⟨b,0,none⟩) HBLT.out).trans HC2.out.1,(HB3.out.frozen (p:=⟨b,0,none⟩) HBLT.out).trans HC2.out.2.1,HC2.out.2.2.1.trans (HB3.out.mono (Nat.le_of_lt HBLT.out))⟩
end Go.Proofs.YtcdekelomkcahaaGreatDoor
