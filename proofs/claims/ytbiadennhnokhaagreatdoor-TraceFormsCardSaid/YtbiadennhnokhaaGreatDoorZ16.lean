import Derived.Test.YtbiadennhnokhaaGreatDoorZ11
import Derived.Test.YtbiadennhnokhaaGreatDoorZ12
set_option maxRecDepth 100000
set_option maxHeartbeats 16000000
namespace Go.Proofs.YtbiadennhnokhaaGreatDoor
open Go.RowKit
def zkL (s:ByteArray):Bool:=match zkG s with|none=>false|some (neg,ds,ex)=>decide (zoH (zn0 neg ds ex)=(s.data.toList,0))
theorem zei (l:List UInt8):∀e:Int,0≤e→(∀c∈l,zgd c=true)→
 0≤l.foldl (fun e c=>min 1048576 (10*e+((c.toNat:Int)-48))) e∧
 l.foldl (fun e c=>min (10*e+((c.toNat:Int)-48)) 100000) (min e 100000)=min (l.foldl (fun e c=>min 1048576 (10*e+((c.toNat:Int)-48))) e) 100000:=by
 induction l with
 |nil=>exact fun e he _=>⟨he,rfl⟩
 |cons c l ih=>
  intro e he h
  have hc:48≤c.toNat:=by
   have:=h c (List.mem_cons_self ..);simp[zgd]at this;exact this.1
  obtain⟨h1,h2⟩:=ih (min 1048576 (10*e+((c.toNat:Int)-48))) (by omega) (fun d hd=>h d (List.mem_cons_of_mem _ hd));rw[List.foldl_cons,List.foldl_cons];refine⟨h1,?_⟩;rw[←h2];congr 1
  omega
theorem zkI (l:List UInt8) (h:∀c∈l,zgd c=true):0≤zee l∧zkH l=min (zee l) 100000:=by
 obtain⟨h1,h2⟩:=zei l 0 (Int.le_refl _) h;exact⟨h1,h2⟩
theorem all_takeWhile {α:Type} (p:α→Bool):∀(l:List α) (x:α),x∈l.take (l.takeWhile p).length→p x=true
 | [],x,h=>by simp at h
 |a::l,x,h=>by
  by_cases ha:p a=true
  ·rw[List.takeWhile_cons_of_pos ha,List.length_cons,List.take_succ_cons]at h;rcases List.mem_cons.1 h with h|h
   ·rw[h];exact ha
   ·exact all_takeWhile p l x h
  ·rw[List.takeWhile_cons_of_neg ha]at h;simp at h
theorem zn3 (s:ByteArray) (k:Nat):∀c∈subL s k (zdC s k),zgd c=true:=fun c hc=>all_takeWhile zgd _ c hc
def zcs (e:Int):Int:=max (-100000) (min e 100000)
theorem zeh (s:ByteArray) (k:Nat):zeg s k=(expS s k).map fun p=>(zcs p.1,p.2):=by
 unfold zeg expS;split
 ·simp only;split
  ·rfl
  ·obtain⟨h0,h1⟩:=zkI _ (zn3 s (zeb s (k+1)).2);simp only[Option.map_some];rw[h1];unfold zcs;refine congrArg some (Prod.ext ?_ rfl);simp only;split<;>omega
 ·rfl
theorem zeQ (s:ByteArray) (k:Nat) (ds ds':List UInt8) (ex:Int) (k':Nat) (hs:s.size≤64) (h:zeN s k ds=some (ds',ex,k')):(ds'.length:Int)=ds.length-ex∧ -64≤ex∧ex≤0:=by
 unfold zeN at h;split at h
 ·rename_i hp
  split at h
  ·cases h
  ·have hk:k<s.size:=by
    rcases Nat.lt_or_ge k s.size with h'|h'
    ·exact h'
    ·unfold zjd at hp;rw[List.getElem?_eq_none (by simpa using h')]at hp;cases hp
   have hle:=zdF s (k+1) (by omega);injection h with h;injection h with h1 h2;injection h2 with h2 h3;have hsz:s.data.toList.length=s.size:=by simp
   have hl:(subL s (k+1) (zdC s (k+1))).length=zdC s (k+1):=by
    unfold subL;rw[List.length_take,List.length_drop];omega
   rw[←h1,←h2,List.length_append,hl];omega
 ·injection h with h;injection h with h1 h2;injection h2 with h2 h3;rw[←h1,←h2];omega
theorem zoI (neg:Bool) (ds:List UInt8) (n:Nat) (ex e:Int) (hl:(ds.length:Int)=n-ex) (h0: -64≤ex) (h1:ex≤0) (hn:n≤64):
 zoH (zn0 neg ds ((n:Int)-1+zcs e))=ziu (ziv (neg,ds,ex+e)):=by
 have h2:=zdK 48 ds;unfold zn0 ziv;simp only;generalize ds.dropWhile (· ==48)=d1 at h2⊢;have h3:=zpc 48 d1;generalize zpb 48 d1=d2 at h3⊢;by_cases hd:d2=[]
 ·rw[if_pos hd,if_pos hd];rfl
 ·rw[if_neg hd,if_neg hd];unfold zoH ziu;simp only;rw[if_neg hd,if_neg hd];have e1:ex+e+((d1.length:Int)-d2.length)+d2.length-1=ex+e+d1.length-1:=by omega
  rw[e1];unfold zcs;by_cases hb:e< -100000∨100000<e
  ·rw[if_pos (by omega),if_pos (by omega)]
  ·rw[show(n:Int)-1+max (-100000) (min e 100000)-((ds.length:Int)-d1.length)=ex+e+d1.length-1 by omega]
theorem zkM (s:ByteArray):zkL s=zdf s:=by
 unfold zkL zdf zkG zmk;by_cases hs:64<s.size
 ·rw[if_pos hs,if_pos hs]
 rw[if_neg hs,if_neg hs];simp only;by_cases hn:zdC s (zni s).2=0
 ·rw[if_pos hn,if_pos hn]
 rw[if_neg hn,if_neg hn];cases hf:zeN s ((zni s).2+zdC s (zni s).2) (subL s (zni s).2 (zdC s (zni s).2))with
 |none=>rfl
 |some p=>
  obtain⟨ds,ex,k⟩:=p;obtain⟨h1,h2,h3⟩:=zeQ s _ _ _ _ _ (by omega) hf
  have hle:zdC s (zni s).2≤s.size:=by
   have:=List.Sublist.length_le (List.takeWhile_sublist (l:=s.data.toList.drop (zni s).2) zgd);have hsz:s.data.toList.length=s.size:=by simp
   rw[List.length_drop]at this;unfold zdC;omega
  have hl:(subL s (zni s).2 (zdC s (zni s).2)).length=zdC s (zni s).2:=by
   have:=List.Sublist.length_le (List.takeWhile_sublist (l:=s.data.toList.drop (zni s).2) zgd);unfold subL zdC at*;rw[List.length_take];omega
  rw[hl]at h1;simp only;rw[zeh];cases expS s k with
  |none=>rfl
  |some q=>
   obtain⟨e,k'⟩:=q;simp only[Option.map_some];by_cases hk:k'=s.size
   ·rw[if_pos hk,if_pos hk];simp only;rw[zoI _ _ _ _ _ h1 h2 h3 (by omega)]
   ·rw[if_neg hk,if_neg hk]
end Go.Proofs.YtbiadennhnokhaaGreatDoor
