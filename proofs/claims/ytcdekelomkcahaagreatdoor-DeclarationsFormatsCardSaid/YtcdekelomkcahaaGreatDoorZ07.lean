import Derived.Test.YtcdekelomkcahaaGreatDoorZ02
set_option maxRecDepth 100000
set_option maxHeartbeats 16000000
namespace Go.Proofs.YtcdekelomkcahaaGreatDoor
section
variable {S : List Sc} {V : List Vr}
theorem zq2 (h:32<S.length∨128<V.length):zbF S V=9:=by unfold zbF;rw[if_pos h]
theorem zqZ (a:¬(32<S.length∨128<V.length)) (h:zcV S V=false):zbF S V=1:=by unfold zbF;rw[if_neg a,if_pos h]
theorem zq0 (a:¬(32<S.length∨128<V.length)) (b:zcV S V=true) (h:∃i,i<S.length∧8<(upL S (i+1) (i:Int)).length):zbF S V=9:=by
 unfold zbF;rw[if_neg a,if_neg (by simp[b]),if_pos];obtain⟨i,h1,h2⟩:=h;rw[List.any_eq_true];exact⟨i,List.mem_range.2 h1,by simpa using h2⟩
theorem zqV (a:¬(32<S.length∨128<V.length)) (b:zcV S V=true) (c:∀i,i<S.length→(upL S (i+1) (i:Int)).length≤8):zbF S V=if(S.any (fun s=>!zhz s.1)||V.any fun v=>!zhz v.nm)=true then 4
 else if(S.any (fun s=>decide (s.2.1<0)||decide (4<s.2.1))||V.any fun v=>decide (v.ty<0)||decide (18<v.ty))=true then 7
 else if V.any zkJ=true then 2
 else if(!uniq zlM S||!uniq zpk V)=true then 5
 else 0:=by
 conv=>lhs;unfold zbF
 rw[if_neg a,if_neg (by simp[b]),if_neg];rw[Bool.not_eq_true,zaK];intro i hi;have:=c i (List.mem_range.1 hi);rw[decide_eq_false_iff_not];omega
theorem zq3 (a:¬(32<S.length∨128<V.length)) (b:zcV S V=true) (c:∀i,i<S.length→(upL S (i+1) (i:Int)).length≤8) (h:(∃s∈S,zhz s.1=false)∨∃v∈V,zhz v.nm=false):zbF S V=4:=by
 rw[zqV a b c,if_pos];rw[Bool.or_eq_true,List.any_eq_true,List.any_eq_true];rcases h with⟨s,h1,h2⟩|⟨v,h1,h2⟩
 ·exact .inl ⟨s,h1,by rw[h2];rfl⟩
 ·exact .inr ⟨v,h1,by rw[h2];rfl⟩
theorem zqW (a:¬(32<S.length∨128<V.length)) (b:zcV S V=true) (c:∀i,i<S.length→(upL S (i+1) (i:Int)).length≤8) (d:∀s∈S,zhz s.1=true) (e:∀v∈V,zhz v.nm=true):zbF S V=if(S.any (fun s=>decide (s.2.1<0)||decide (4<s.2.1))||V.any fun v=>decide (v.ty<0)||decide (18<v.ty))=true then 7
 else if V.any zkJ=true then 2
 else if(!uniq zlM S||!uniq zpk V)=true then 5
 else 0:=by
 rw[zqV a b c,if_neg];rw[Bool.not_eq_true,Bool.or_eq_false_iff,zaK,zaK];exact⟨fun s hs=>by rw[d s hs];rfl,fun v hv=>by rw[e v hv];rfl⟩
theorem zq6 (a:¬(32<S.length∨128<V.length)) (b:zcV S V=true) (c:∀i,i<S.length→(upL S (i+1) (i:Int)).length≤8) (d:∀s∈S,zhz s.1=true) (e:∀v∈V,zhz v.nm=true)
 (h:(∃s∈S,s.2.1<0∨4<s.2.1)∨∃v∈V,v.ty<0∨18<v.ty):zbF S V=7:=by
 rw[zqW a b c d e,if_pos];rw[Bool.or_eq_true,List.any_eq_true,List.any_eq_true];rcases h with⟨s,h1,h2⟩|⟨v,h1,h2⟩
 ·exact .inl ⟨s,h1,by simpa using h2⟩
 ·exact .inr ⟨v,h1,by simpa using h2⟩
theorem zqX (a:¬(32<S.length∨128<V.length)) (b:zcV S V=true) (c:∀i,i<S.length→(upL S (i+1) (i:Int)).length≤8) (d:∀s∈S,zhz s.1=true) (e:∀v∈V,zhz v.nm=true)
 (f:∀s∈S,0≤s.2.1∧s.2.1≤4) (g:∀v∈V,0≤v.ty∧v.ty≤18):zbF S V=if V.any zkJ=true then 2
 else if(!uniq zlM S||!uniq zpk V)=true then 5
 else 0:=by
 rw[zqW a b c d e,if_neg];rw[Bool.not_eq_true,Bool.or_eq_false_iff,zaK,zaK];refine⟨fun s hs=>?_,fun v hv=>?_⟩
 ·rw[Bool.or_eq_false_iff,decide_eq_false_iff_not,decide_eq_false_iff_not];have:=f s hs;omega
 ·rw[Bool.or_eq_false_iff,decide_eq_false_iff_not,decide_eq_false_iff_not];have:=g v hv;omega
theorem zq4 (a:¬(32<S.length∨128<V.length)) (b:zcV S V=true) (c:∀i,i<S.length→(upL S (i+1) (i:Int)).length≤8) (d:∀s∈S,zhz s.1=true) (e:∀v∈V,zhz v.nm=true)
 (f:∀s∈S,0≤s.2.1∧s.2.1≤4) (g:∀v∈V,0≤v.ty∧v.ty≤18) (h:∃v∈V,zkJ v=true):zbF S V=2:=by
 rw[zqX a b c d e f g,if_pos];rw[List.any_eq_true];exact h
theorem zqY (a:¬(32<S.length∨128<V.length)) (b:zcV S V=true) (c:∀i,i<S.length→(upL S (i+1) (i:Int)).length≤8) (d:∀s∈S,zhz s.1=true) (e:∀v∈V,zhz v.nm=true)
 (f:∀s∈S,0≤s.2.1∧s.2.1≤4) (g:∀v∈V,0≤v.ty∧v.ty≤18) (h:∀v∈V,zkJ v=false):zbF S V=if(!uniq zlM S||!uniq zpk V)=true then 5 else 0:=by
 rw[zqX a b c d e f g,if_neg];rw[Bool.not_eq_true,zaK];exact h
theorem zrA {α κ:Type} {key:α→κ} {l:List α} (h:∃i k,∃(hi:i<l.length) (hk:k<i),key l[i]=key (l[k]'(by omega))):¬(l.map key).Nodup:=fun hn=>by
 obtain⟨i,k,hi,hk,e⟩:=h;have:=List.pairwise_iff_getElem.1 hn k i (by simp;omega) (by simpa using hi) hk;simp only[List.getElem_map]at this;exact this e.symm
theorem zrB {α κ:Type} {key:α→κ} {l:List α} (h:∀i k,∀(hi:i<l.length) (hk:k<i),key l[i]≠key (l[k]'(by omega))):(l.map key).Nodup:=by
 refine List.pairwise_iff_getElem.2 fun k i hk hi hki=>?_;simp only[List.getElem_map];exact fun e=>h i k (by simpa using hi) hki e.symm
theorem zq5 (a:¬(32<S.length∨128<V.length)) (b:zcV S V=true) (c:∀i,i<S.length→(upL S (i+1) (i:Int)).length≤8) (d:∀s∈S,zhz s.1=true) (e:∀v∈V,zhz v.nm=true)
 (f:∀s∈S,0≤s.2.1∧s.2.1≤4) (g:∀v∈V,0≤v.ty∧v.ty≤18) (h:∀v∈V,zkJ v=false) (hs:¬(S.map zlM).Nodup∨¬(V.map zpk).Nodup):zbF S V=5:=by
 rw[zqY a b c d e f g h,if_pos];rw[Bool.or_eq_true,Bool.not_eq_true',Bool.not_eq_true',←Bool.not_eq_true,←Bool.not_eq_true,zoc,zoc];exact hs
theorem zq1 (a:¬(32<S.length∨128<V.length)) (b:zcV S V=true) (c:∀i,i<S.length→(upL S (i+1) (i:Int)).length≤8) (d:∀s∈S,zhz s.1=true) (e:∀v∈V,zhz v.nm=true)
 (f:∀s∈S,0≤s.2.1∧s.2.1≤4) (g:∀v∈V,0≤v.ty∧v.ty≤18) (h:∀v∈V,zkJ v=false) (hs:(S.map zlM).Nodup) (hv:(V.map zpk).Nodup):zbF S V=0:=
 zbN.2 ⟨by omega,by omega,b,c,d,e,f,g,h,hs,hv⟩
theorem zrg (h:(∃i,∃hi:i<S.length,¬(-1≤S[i].2.2∧S[i].2.2<(i:Int)))∨∃v∈V,¬(-1≤v.sc∧v.sc<(S.length:Int)∧0≤v.sg)):zcV S V=false:=by
 rw[←Bool.not_eq_true];intro hd;have h1:=zc0 hd;have h2:=zc6 hd;rcases h with⟨i,hi,h⟩|⟨v,hv,h⟩
 ·have:=h1 i hi;unfold parS at this;rw[List.getD,List.getElem?_eq_getElem hi,Option.getD_some]at this;exact h this
 ·exact h (h2 v hv)
theorem zrf (h1:∀i,∀hi:i<S.length,-1≤S[i].2.2∧S[i].2.2<(i:Int)) (h2:∀v∈V,-1≤v.sc∧v.sc<(S.length:Int)∧0≤v.sg):zcV S V=true:=by
 unfold zcV;rw[Bool.and_eq_true,List.all_eq_true,List.all_eq_true];refine⟨fun x hx=>?_,fun v hv=>?_⟩
 ·rw[List.mem_zipIdx_iff_getElem?]at hx;obtain⟨hi,e⟩:=List.getElem?_eq_some_iff.1 hx;have:=h1 x.2 hi;rw[e]at this;simpa using this
 ·have:=h2 v hv;simp;omega
end
end Go.Proofs.YtcdekelomkcahaaGreatDoor
