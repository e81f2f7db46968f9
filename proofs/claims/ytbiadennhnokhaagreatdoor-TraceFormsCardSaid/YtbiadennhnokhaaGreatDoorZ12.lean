import Derived.Test.YtbiadennhnokhaaGreatDoorZ00
import Derived.Test.YtbiadennhnokhaaGreatDoorZ07
set_option maxRecDepth 100000
set_option maxHeartbeats 16000000
namespace Go.Proofs.YtbiadennhnokhaaGreatDoor
open Go.RowKit
theorem zpl {c k:UInt8} {n:Int} (hn:(k.toNat:Int)=n) (h:c≠k):((c.toNat:Int)==n)=false:=by
 rw[beq_eq_false_iff_ne,←hn];intro e;apply h;apply UInt8.toNat_inj.1;omega
theorem zlb (c:UInt8) (w:World):
 Calls Tryz.prog 228 #[.int .u8 c.toNat] w fun e w'=>e=.returned (.bool (zcO c != -1))∧w=w':=by
 by_cases h0:c=48
 ·subst h0;go_enter Tryz.func228,Tryz.ntmps228;go_wp2
  go_ret;exact⟨rfl,rfl⟩
 by_cases h1:c=49
 ·subst h1;go_enter Tryz.func228,Tryz.ntmps228;go_wp2
  go_ret;exact⟨rfl,rfl⟩
 by_cases h2:c=120
 ·subst h2;go_enter Tryz.func228,Tryz.ntmps228;go_wp2
  go_ret;exact⟨rfl,rfl⟩
 by_cases h3:c=122
 ·subst h3;go_enter Tryz.func228,Tryz.ntmps228;go_wp2
  go_ret;exact⟨rfl,rfl⟩
 have g0:=zpl (n:=48) rfl h0;have g1:=zpl (n:=49) rfl h1;have g2:=zpl (n:=120) rfl h2;have g3:=zpl (n:=122) rfl h3;have e:zcO c= -1:=by simp[zcO,h0,h1,h2,h3]
 have E:=lhd e;clear e;go_enter Tryz.func228,Tryz.ntmps228;go_wp2
 go_ret;exact⟨zli (by rw[E.out];rfl),rfl⟩
theorem zaN (s:ByteArray) (k:Nat) (h:k<s.size) (p:UInt8→Bool):(s.data.toList.take (k+1)).all p=((s.data.toList.take k).all p&&p s[k]):=by
 rw[zoy s k h];simp
theorem zbK (s:ByteArray) (k:Nat) (h:k<s.size) (hc:zcO s[k]= -1):bvIs s=false:=by
 unfold bvIs
 have:s.data.toList.all (fun c=>zcO c != -1)=false:=by
  rw[List.all_eq_false];exact⟨s[k],by simp[ByteArray.getElem_eq_getElem_data],by simp[hc]⟩
 rw[this,Bool.and_false]
theorem zkT (s:ByteArray) (w:World) (hs:s.size≤maxLen):
 Calls Tryz.prog 226 #[.string s] w fun e w'=>e=.returned (.bool (bvIs s))∧Below w.heap.size w w':=by
 unfold maxLen at hs;go_enter Tryz.func226,Tryz.ntmps226;go_wp2_with fail
 go_loopw [3] (fun i wr=>∃k:Nat,k≤s.size∧i=.int .i64 k∧(s.data.toList.take k).all (fun c=>zcO c != -1)=true∧Below w.heap.size w wr)
  (fun i _=>s.size-(intOf i).toNat)
 case atStart=>exact⟨0,Nat.zero_le _,rfl,by simp,Below.refl _ _⟩
 case round=>
  obtain⟨k,hk,rfl,ha,hb⟩:=hrel;have HA:=lhd ha;clear ha;by_cases hlt:k<s.size
  ·by_cases hc:zcO s[k]= -1
   ·have H:=lhd hc;have HN:=lhd (zbK s k hlt hc);clear hc;go_wp2_with fail;refine(zlb _ _).mono ?_;rintro e w' ⟨rfl,rfl⟩;rw[H.out];go_wp2_with fail;go_ret;exact⟨zli HN.out.symm,hb⟩
   ·have H:=lhd (show(zcO s[k] != -1)=true by rw[bne_iff_ne];exact hc);clear hc;go_wp2_with fail;refine(zlb _ _).mono ?_;rintro e w' ⟨rfl,rfl⟩;rw[H.out];go_wp2_with fail;go_roundw;case rel=>exact⟨k+1,by omega,by go_num,by rw[zaN s k hlt,HA.out,H.out];rfl,hb⟩
    case measure=>simp[intOf];omega
  ·obtain rfl:k=s.size:=by omega
   have HE:=lhd (show bvIs s=(decide (1≤s.size)&&decide (s.size≤128))by
    have:=HA.out;rw[List.take_of_length_le (by simp)]at this;unfold bvIs;rw[this,Bool.and_true])
   by_cases h1:1≤s.size
   ·go_wp2_with fail
    all_goals
     go_ret;refine⟨zli ?_,hb⟩;rw[HE.out];simp[h1];omega
   ·go_wp2_with fail
    all_goals
     go_ret;refine⟨zli ?_,hb⟩;rw[HE.out];simp[h1]
theorem zk3 (n:Int) (s:ByteArray) (w:World) (hs:s.size≤maxLen):
 Calls Tryz.prog 175 #[.int .i64 n,.string s] w fun e w'=>e=.returned (.bool (bvIs s&&decide ((s.size:Int)=n)))∧Below w.heap.size w w':=by
 unfold maxLen at hs;go_enter Tryz.func175,Tryz.ntmps175;go_wp2_with fail;refine(zkT _ _ hs).mono ?_;rintro e w1 ⟨rfl,hb⟩;cases h:bvIs s
 all_goals
  go_wp2
  go_ret;refine⟨zli ?_,hb⟩
 ·simp[h]
 ·rw[Bool.eq_iff_iff];simp[h]
def znX:Value→Nat| .string s=>s.size|_=>0
theorem zaW (a b:ByteArray):(a++b).data.toList=a.data.toList++b.data.toList:=by simp
theorem zlg (c:UInt8) (o:ByteArray) (h:o.data.toList=List.replicate o.size c):(o++(⟨#[c]⟩:ByteArray)).data.toList=List.replicate (o++(⟨#[c]⟩:ByteArray)).size c:=by
 rw[zaW,h,ByteArray.size_append];show _=List.replicate (o.size+1) c;rw[List.replicate_succ']
theorem zkO (n:Int) (c:UInt8) (w:World):
 Calls Tryz.prog 177 #[.int .i64 n,.int .u8 c.toNat] w fun e w'=>e=.returned (.string (allR n c))∧Below w.heap.size w w':=by
 by_cases h1:n<1∨128<n
 ·have e:allR n c=⟨#[]⟩:=by rw[allR,if_pos];omega
  have E:=lhd e;clear e;rcases h1 with h1|h1
  all_goals
   go_enter Tryz.func177,Tryz.ntmps177;go_wp2_with fail;go_ret;exact⟨zll E.out.symm,Below.refl _ _⟩
 obtain⟨g1,g2⟩:1≤n∧n≤128:=by omega
 clear h1;by_cases h2:zcO c= -1
 ·have e:allR n c=⟨#[]⟩:=by rw[allR,if_pos];omega
  have E:=lhd e;have h3:(zcO c != -1)=false:=by simp[h2]
  clear e h2;go_enter Tryz.func177,Tryz.ntmps177;go_wp2_with fail;refine(zlb _ _).mono ?_;rintro e w' ⟨rfl,rfl⟩;go_wp2_with fail;go_ret;exact⟨zll E.out.symm,Below.refl _ _⟩
 ·have e:allR n c=⟨(List.replicate n.toNat c).toArray⟩:=by rw[allR,if_neg];omega
  have E:=lhd e;have h3:(zcO c != -1)=true:=by simp[h2]
  clear e h2;go_enter Tryz.func177,Tryz.ntmps177;go_wp2_with fail;refine(zlb _ _).mono ?_;rintro e w' ⟨rfl,rfl⟩;go_wp2_with fail;go_loopw [5] (fun o_ wr=>∃o:ByteArray,o_=.string o∧o.data.toList=List.replicate o.size c∧(o.size:Int)≤n∧Below w.heap.size w wr) (fun o_ _=>n.toNat-znX o_)
  case atStart=>exact⟨⟨#[]⟩,rfl,rfl,by simp[ByteArray.size];omega,Below.refl _ _⟩
  case round=>
   obtain⟨o,rfl,ho,hl,hb⟩:=hrel;have HO:=lhd ho;clear ho;have hcb:=zjf Tryz.prog wr 94 9 5 c Tryz.underlying94 Tryz.underlying5 Tryz.underlying9;by_cases hlt:(o.size:Int)<n
   ·have hsz:(o++(⟨#[c]⟩:ByteArray)).size=o.size+1:=by rw[ByteArray.size_append];rfl
    have HSZ:=lhd hsz;clear hsz;go_wp2_with fail;go_roundw;case rel=>exact⟨o++(⟨#[c]⟩:ByteArray),rfl,zlg c o HO.out,by rw[HSZ.out];omega,hb.alloc hb.size _⟩
    case measure=>show n.toNat-(o++(⟨#[c]⟩:ByteArray)).size<n.toNat-o.size;rw[HSZ.out];omega
   ·go_wp2_with fail;go_ret;refine⟨zll ?_,hb⟩;rw[E.out];apply zaY;rw[HO.out,show o.size=n.toNat by omega]
theorem zk6 (c:UInt8) (w:World):
 Calls Tryz.prog 308 #[.int .u8 c.toNat] w fun e w'=>e=.returned (.bool (zgd c))∧w=w':=by
 by_cases h0:48≤c.toNat
 ·by_cases h1:c.toNat≤57
  ·have E:=lhd (show zgd c=true by simp[zgd,h0,h1]);have g0:(48:Int)≤(c.toNat:Int):=by omega
   have g1:(c.toNat:Int)≤57:=by omega
   clear h0 h1;go_enter Tryz.func308,Tryz.ntmps308;go_wp2
   go_ret;exact⟨zli E.out.symm,rfl⟩
  ·have E:=lhd (show zgd c=false by simp[zgd];omega);have g0:(48:Int)≤(c.toNat:Int):=by omega
   have g1:57<(c.toNat:Int):=by omega
   clear h0 h1;go_enter Tryz.func308,Tryz.ntmps308;go_wp2
   go_ret;exact⟨zli (by rw[E.out];simp;omega),rfl⟩
 ·have E:=lhd (show zgd c=false by simp[zgd];omega);have g0:(c.toNat:Int)<48:=by omega
  clear h0;go_enter Tryz.func308,Tryz.ntmps308;go_wp2
  go_ret;exact⟨zli E.out.symm,rfl⟩
theorem zk7 (s:ByteArray) (k:Nat) (w:World) (hk:k≤s.size) (hs:s.size≤maxLen):
 Calls Tryz.prog 289 #[.string s,.int .i64 k] w fun e w'=>e=.returned (.int .i64 (zdC s k))∧w=w':=by
 unfold maxLen at hs;have hle:=zdF s k hk;go_enter Tryz.func289,Tryz.ntmps289;go_wp2_with fail;go_loopw [5] (fun i wr=>∃j:Nat,j≤zdC s k∧i=.int .i64 j∧wr=w) (fun i _=>s.size-(intOf i).toNat)
 case atStart=>exact⟨0,Nat.zero_le _,rfl,rfl⟩
 case round=>
  obtain⟨j,hj,rfl,rfl⟩:=hrel;have hw0:IntKind.i64.wrap ((k:Int)+(j:Int))=(k:Int)+(j:Int):=IntWalk.i64_in _ (by omega);by_cases hlt:j<zdC s k
  ·have hkj:k+j<s.size:=by omega
   have H:=lhd (zdD s k j hlt hkj);have g1:(k:Int)+(j:Int)<(s.size:Int):=by omega
   have g0:0≤(k:Int)+(j:Int):=by omega
   have g2:((k:Int)+(j:Int)).toNat=k+j:=by omega
   go_wp2_with fail;refine(zk6 _ _).mono ?_;rintro e w' ⟨rfl,rfl⟩;rw[H.out];go_wp2_with fail;go_roundw;case rel=>exact⟨j+1,by omega,by go_num,trivial⟩
   case measure=>simp[intOf];omega
  ·obtain rfl:j=zdC s k:=by omega
   by_cases hkj:k+zdC s k<s.size
   ·have H:=lhd (zdE s k hkj);have g1:(k:Int)+(zdC s k:Int)<(s.size:Int):=by omega
    have g0:0≤(k:Int)+(zdC s k:Int):=by omega
    have g2:((k:Int)+(zdC s k:Int)).toNat=k+zdC s k:=by omega
    go_wp2_with fail;refine(zk6 _ _).mono ?_;rintro e w' ⟨rfl,rfl⟩;rw[H.out];go_wp2_with fail;go_ret;exact⟨rfl,rfl⟩
   ·have g1:(s.size:Int)≤(k:Int)+(zdC s k:Int):=by omega
    go_wp2_with fail;go_ret;exact⟨rfl,rfl⟩
theorem zjg (P:Program) (w:World) (src dst e:TypeId) (c:UInt8) (x:Int) (hx:x=(c.toNat:Int)) (hs:P.underlying src=some (.slice e)) (he:P.underlying e=some (.int .u8)) (hd:P.underlying dst=some .string):
 (convert src dst (.slice (some ⟨w.heap.size,0,none⟩) 1 1)).run P (w.alloc (.cells #[.int .u8 x] e))=.ok (.string ⟨#[c]⟩) (w.alloc (.cells #[.int .u8 x] e)):=by
 subst hx;exact zjf P w src dst e c hs he hd
def digB (n:Nat):UInt8:=UInt8.ofNat (48+n % 10)
theorem zdG (n:Nat):(48:Int)+(n:Int) % 10=((digB n).toNat:Int):=by
 unfold digB;have:(UInt8.ofNat (48+n % 10)).toNat=48+n % 10:=by rw[UInt8.toNat_ofNat'];omega
 rw[this];omega
def zac (ds:List UInt8) (w:World) (e:Ending) (w':World):Prop:=∃o:ByteArray,e=.returned (.string o)∧o.data.toList=ds∧Below w.heap.size w w'
theorem zde (n:Nat) (h:n≤1000000):(Lib.decDigits n).length≤20:=by rw[Lib.decDigits_length];exact Lib.nDigits_le20 n (by omega)
theorem zkQ (n:Nat) (hn:n≤1000000) (w:World):Calls Tryz.prog 291 #[.int .i64 n] w (zac (Lib.decDigits n) w):=by
 induction n using Nat.strongRecOn generalizing w with
 |_ n ih=>
  have IH:=lhd ih;clear ih;have g0:(0:Int)≤(n:Int):=by omega
  have hcb:=zjg Tryz.prog w 94 9 5 (digB n) _ (zdG n) Tryz.underlying94 Tryz.underlying5 Tryz.underlying9;by_cases h:n<10
  ·have HR:=lhd (show Lib.decDigits n=[digB n]by rw[Lib.decDigits,dif_pos h];unfold digB;rw[Nat.mod_eq_of_lt h]);have g1:(n:Int)<10:=by omega
   clear h;go_enter Tryz.func291,Tryz.ntmps291;go_wp2_with fail;go_ret;exact⟨_,rfl,HR.out.symm,(Below.refl _ _).alloc (Nat.le_refl _) _⟩
  ·have HR:Hid (Lib.decDigits n=Lib.decDigits (n/10)++ [digB n]):=lhd (by
    rw[Lib.decDigits,dif_neg h];rfl)
   have g1:(10:Int)≤(n:Int):=by omega
   have hl:=zde (n/10) (by omega);have HI:=lhd (IH.out (n/10) (by omega) (by omega) (w.alloc (.cells #[.int .u8 (48+(n:Int) % 10)] 5)));clear h IH;go_enter Tryz.func291,Tryz.ntmps291;go_wp2_with fail;rw[show((n:Int)/10)=((n/10:Nat):Int)by omega];refine HI.out.mono ?_;rintro e w1 ⟨o,rfl,ho,hb⟩
   have hol:o.size+1≤9223372036854775807:=by
    have:=congrArg List.length ho;simp only[Array.length_toList]at this;have h2:o.data.size=o.size:=rfl;omega
   have HO:=lhd ho;have HB:=lhd (zel hb);clear ho hb hcb;go_wp2_with fail;go_ret;exact⟨_,rfl,by rw[zaW,HO.out,HR.out],HB.out⟩
theorem zkP (x:Int) (h0: -1000000≤x) (h1:x≤1000000) (w:World):Calls Tryz.prog 291 #[.int .i64 x] w (zac (Lib.itoa x) w):=by
 by_cases h:x<0
 ·obtain⟨n,hn⟩:=Int.eq_ofNat_of_zero_le (show 0≤ -x by omega);have HR:=lhd (show Lib.itoa x=45::Lib.decDigits n by rw[Lib.itoa,if_pos h,show x.natAbs=n by omega]);have hl:=zde n (by omega);have HI:=lhd (zkQ n (by omega) w);rw[←hn]at HI;clear hn;go_enter Tryz.func291,Tryz.ntmps291;go_wp2_with fail;refine HI.out.mono ?_;rintro e w1 ⟨o,rfl,ho,hb⟩
  have hol:1+o.size≤9223372036854775807:=by
   have:=congrArg List.length ho;simp only[Array.length_toList]at this;have h2:o.data.size=o.size:=rfl;omega
  have HO:=lhd ho;clear ho;go_wp2_with fail;go_ret;exact⟨_,rfl,by rw[zaW,HO.out,HR.out];rfl,hb⟩
 ·obtain⟨n,rfl⟩:=Int.eq_ofNat_of_zero_le (show 0≤x by omega);rw[show Lib.itoa (n:Int)=Lib.decDigits n by rw[Lib.itoa,if_neg h,Int.toNat_natCast]];exact zkQ n (by omega) w
theorem zal.setOther {w:World} {b b':Nat} {xs:List Value} (h:zal w b xs) (hb:b'≠b) (o:Nat) (u:Value):zal (w.setCell ⟨b',o,none⟩ u) b xs:=by
 intro j v hj;have:=h j v hj;refine⟨?_,by rw[World.frozen?_setCell];exact this.2⟩;rw[World.cell?_setCell_other (h:=by intro e;apply hb;injection e with e1 _ _)];exact this.1
theorem zal.drewN {w:World} {b:Nat} {xs:List Value} (h:zal w b xs) (n:Nat):zal (w.drewN n) b xs:=h
structure StripSt (w wr:World) (neg:Bool) (s:ByteArray) (ex:Int):Prop where
 p:zal wr w.heap.size [.bool neg,.string s,.int .i64 ex]
 r:zal wr (w.heap.size+1) [.bool false,.string ⟨#[]⟩,.int .i64 0]
 b:Below w.heap.size w wr
theorem StripSt.drew {w wr:World} {neg:Bool} {s:ByteArray} {ex:Int} (h:StripSt w wr neg s ex):StripSt w wr.drew neg s ex:=⟨h.p,h.r,h.b.drew⟩
theorem StripSt.set1 {w wr:World} {neg:Bool} {s s':ByteArray} {ex:Int} (h:StripSt w wr neg s ex):StripSt w (wr.setCell ⟨w.heap.size,1,none⟩ (.string s')) neg s' ex:=
 ⟨h.p.set (j:=1) (by simp) _,h.r.setOther (by omega) _ _,h.b.setCell (Nat.le_refl _) _⟩
theorem StripSt.set2 {w wr:World} {neg:Bool} {s:ByteArray} {ex ex':Int} (h:StripSt w wr neg s ex):StripSt w (wr.setCell ⟨w.heap.size,2,none⟩ (.int .i64 ex')) neg s ex':=
 ⟨h.p.set (j:=2) (by simp) _,h.r.setOther (by omega) _ _,h.b.setCell (Nat.le_refl _) _⟩
def szAt (w:World) (b:Nat):Nat:=match w.cell? ⟨b,1,none⟩with|some (.string s)=>s.size|_=>0
theorem zot {w wr:World} {neg:Bool} {s:ByteArray} {ex:Int} (h:StripSt w wr neg s ex):szAt wr w.heap.size=s.size:=by unfold szAt;rw[h.p.cell (j:=1) rfl]
theorem za2 (s:ByteArray) (h:0<s.size):s.data.toList=s[0]::(s.extract 1 s.size).data.toList:=by
 have h1:s.data.toList.length=s.size:=by simp
 have:=List.drop_eq_getElem_cons (l:=s.data.toList) (i:=0) (by omega);rw[List.drop_zero]at this;rw[Lib.extract_data,List.take_of_length_le (by rw[List.length_drop];omega)];exact this
theorem zaZ (s:ByteArray) (h:0<s.size):s.data.toList=(s.extract 0 (s.size-1)).data.toList++ [s[s.size-1]]:=by
 have h1:s.data.toList.length=s.size:=by simp
 rw[Lib.extract_data,List.drop_zero,Nat.sub_zero];have:=List.take_succ_eq_append_getElem (l:=s.data.toList) (i:=s.size-1) (by omega);rw[Nat.sub_add_cancel h,List.take_of_length_le (by omega)]at this;exact this
theorem zek (s:ByteArray) (h:0<s.size):(s.extract 1 s.size).size=s.size-1:=by
 have h1:s.data.toList.length=s.size:=by simp
 have:=congrArg List.length (za2 s h);simp only[List.length_cons]at this;have h2:(s.extract 1 s.size).data.toList.length=(s.extract 1 s.size).size:=by simp
 omega
theorem zej (s:ByteArray) (h:0<s.size):(s.extract 0 (s.size-1)).size=s.size-1:=by
 have h1:s.data.toList.length=s.size:=by simp
 have:=congrArg List.length (zaZ s h);simp only[List.length_append,List.length_singleton]at this;have h2:(s.extract 0 (s.size-1)).data.toList.length=(s.extract 0 (s.size-1)).size:=by simp
 omega
def zn0 (neg:Bool) (d:List UInt8) (ex:Int):Bool×List UInt8×Int:=
 let d1:=d.dropWhile (· ==48)
 if zpb 48 d1=[]then(false,[],0)else(neg,zpb 48 d1,ex-((d.length:Int)-d1.length))
def zat (r:Bool×List UInt8×Int) (w:World) (e:Ending) (w':World):Prop:=∃o:ByteArray,e=.returned (.agg #[.bool r.1,.string o,.int .i64 r.2.2])∧o.data.toList=r.2.1∧Below w.heap.size w w'
theorem zld (neg:Bool) (d:ByteArray) (ex:Int) (w:World) (hd:d.size≤1000) (h0: -1000000≤ex) (h1:ex≤1000000):
 Calls Tryz.prog 290 #[.agg #[.bool neg,.string d,.int .i64 ex]] w (zat (zn0 neg d.data.toList ex) w):=by
 have hst:StripSt w ((w.alloc (.cells #[.bool neg,.string d,.int .i64 ex] 275)).alloc (.cells #[.bool false,.string ⟨#[]⟩,.int .i64 0] 275)) neg d ex:=by
  refine⟨?_,?_,((Below.refl _ _).alloc (Nat.le_refl _) _).alloc (by simp) _⟩
  ·exact(zal.fresh w #[.bool neg,.string d,.int .i64 ex] _).alloc (by simp) _
  ·have h:=zal.fresh (w.alloc (.cells #[.bool neg,.string d,.int .i64 ex] 275)) #[.bool false,.string ⟨#[]⟩,.int .i64 0] 275;simp only[World.size_alloc]at h;exact h
 have HST:=lhd hst;clear hst;go_enter Tryz.func290,Tryz.ntmps290;go_wp2_with fail;go_loopw [3] (fun _ wr=>∃(s:ByteArray) (x:Int),StripSt w wr neg s x∧s.data.toList.dropWhile (· ==48)=d.data.toList.dropWhile (· ==48)∧x-s.size=ex-d.size∧s.size≤d.size) (fun _ wr=>szAt wr w.heap.size)
 case atStart=>exact⟨d,ex,HST.out,rfl,rfl,Nat.le_refl _⟩
 case round=>
  obtain⟨s,x,hs,hdw,hx,hsd⟩:=hrel;have HS:=lhd hs;have HDW:=lhd hdw;have HX:=lhd hx;have hxl: -1001000≤x∧x≤1001000:=by omega
  obtain⟨hx0,hx1⟩:=hxl;have c0:=hs.p.cell (j:=0) rfl;have c1:=hs.p.cell (j:=1) rfl;have c2:=hs.p.cell (j:=2) rfl;have f1:=hs.p.free (j:=1) (by simp);have f2:=hs.p.free (j:=2) (by simp);clear hs hdw hx HST;by_cases hpos:0<s.size
  ·by_cases hz:s[0]=48
   ·have hzb:((s[0].toNat:Int)==48)=true:=zpj (b:=48) hz;have HZ:=lhd hz;clear hz;have HT:=lhd (za2 s hpos);have HSZ:=lhd (zek s hpos);have hw:IntKind.i64.wrap (x-1)=x-1:=IntWalk.i64_in _ (by omega);go_wp2_with fail;go_region
    all_goals
     go_wp2_with fail;go_roundw
     case rel=>
      refine⟨s.extract 1 s.size,x-1,?_,?_,?_,?_⟩
      ·exact HS.out.set1.set2.drew
      ·rw[←HDW.out,HT.out,List.dropWhile_cons,if_pos (by rw[HZ.out];rfl)]
      ·rw[HSZ.out];have:=HX.out;omega
      ·rw[HSZ.out];omega
     case measure=>rw[zot HS.out,zot HS.out.set1.set2.drew,HSZ.out];omega
   ·have hzb:((s[0].toNat:Int)==48)=false:=zpl (n:=48) rfl hz;have HZ:=lhd hz
    have HD:=lhd (show d.data.toList.dropWhile (· ==48)=s.data.toList by
     rw[←HDW.out,za2 s hpos,List.dropWhile_cons,if_neg (by simpa using hz)])
    have hw:IntKind.i64.wrap ((s.size:Int)-1)=(s.size:Int)-1:=IntWalk.i64_in _ (by omega);clear hz;go_wp2_with fail;go_loopw [21] (fun _ wr=>∃(s2:ByteArray) (tl:List UInt8),StripSt w wr neg s2 x∧zpb 48 s2.data.toList=zpb 48 s.data.toList∧s.data.toList=s2.data.toList++tl∧0<s2.size∧s2.size≤s.size) (fun _ wr=>szAt wr w.heap.size)
    case atStart=>exact⟨s,[],HS.out,rfl,by simp,hpos,Nat.le_refl _⟩
    case round=>
     obtain⟨s2,tl,hs2,htr,hap,hpos2,hsz2⟩:=hrel;have HS2:=lhd hs2;have HTR:=lhd htr;have HAP:=lhd hap;have d0:=hs2.p.cell (j:=0) rfl;have d1:=hs2.p.cell (j:=1) rfl;have d2:=hs2.p.cell (j:=2) rfl;have f1:=hs2.p.free (j:=1) (by simp);have r0:=hs2.r.cell (j:=0) rfl;have r1:=hs2.r.cell (j:=1) rfl;have r2:=hs2.r.cell (j:=2) rfl;have q0:=hs2.r.free (j:=0) (by simp);have q1:=hs2.r.free (j:=1) (by simp);have q2:=hs2.r.free (j:=2) (by simp);have HLAST:=lhd (zaZ s2 hpos2);have hw2:IntKind.i64.wrap ((s2.size:Int)-1)=(s2.size:Int)-1:=IntWalk.i64_in _ (by omega);have hi0:(0:Int)≤(s2.size:Int)-1:=by omega
     have hi1:((s2.size:Int)-1).toNat=s2.size-1:=by omega
     clear hs2 htr hap;by_cases hl:s2[s2.size-1]=48
     ·have hlb:((s2[s2.size-1].toNat:Int)==48)=true:=zpj (b:=48) hl;have HSZ2:=lhd (zej s2 hpos2);have HL:=lhd hl;clear hl;go_wp2_with fail
      have hpos3:0<s2.size-1:=by
       rcases Nat.lt_or_ge 1 s2.size with h|h
       ·omega
       ·exfalso
        have e1:=za2 s hpos;rw[HAP.out,HLAST.out]at e1
        have e2:(s2.extract 0 (s2.size-1)).data.toList=[]:=List.length_eq_zero_iff.1 (by
         have:(s2.extract 0 (s2.size-1)).data.toList.length=(s2.extract 0 (s2.size-1)).size:=by simp
         rw[this,HSZ2.out];omega)
        rw[e2,HL.out]at e1;simp only[List.nil_append,List.singleton_append,List.cons.injEq]at e1;exact HZ.out e1.1.symm
      go_wp2_with fail;refine⟨⟨s2.extract 0 (s2.size-1),[s2[s2.size-1]]++tl,HS2.out.set1,?_,?_,?_,?_⟩,?_⟩
      ·rw[←HTR.out,HLAST.out,zpf,if_pos HL.out]
      ·rw[←List.append_assoc,←HLAST.out];exact HAP.out
      ·rw[HSZ2.out];exact hpos3
      ·rw[HSZ2.out];omega
      ·rw[zot HS2.out,zot HS2.out.set1,HSZ2.out];omega
     ·have hlb:((s2[s2.size-1].toNat:Int)==48)=false:=zpl (n:=48) rfl hl;have hne:=zoY s2 (by omega)
      have HR:=lhd (show zn0 neg d.data.toList ex=(neg,s2.data.toList,x)by
       have e1:zpb 48 s.data.toList=s2.data.toList:=by
        rw[←HTR.out,HLAST.out,zpf,if_neg hl]
       unfold zn0;simp only;rw[HD.out,e1,if_neg (by intro h;rw[h]at HLAST;have:=HLAST.out;simp at this)];have h2:s.data.toList.length=s.size:=by simp
       have h3:d.data.toList.length=d.size:=by simp
       have:=HX.out;rw[h2,h3];congr 2
       omega)
      clear hl;go_wp2_with fail;obtain⟨e0,e1,e2⟩:=set3 r0 r1 r2 (.bool neg) (.string s2) (.int .i64 x);refine bodyPost_ret (v:=.agg #[.bool neg,.string s2,.int .i64 x]) (by simp[results,Tryz.results290,go_sem,e0,e1,e2]) rfl ?_;rw[HR.out];exact⟨s2,rfl,rfl,((HS2.out.b.setCell (Nat.le_succ _) _).setCell (Nat.le_succ _) _).setCell (Nat.le_succ _) _⟩
  ·have HE:=lhd (show s.data.toList=[]from List.length_eq_zero_iff.1 (by
    have:s.data.toList.length=s.size:=by simp
    omega))
   have HSZ0:=lhd (show s.size=0 by omega);have r0:=HS.out.r.cell (j:=0) rfl;have r1:=HS.out.r.cell (j:=1) rfl;have r2:=HS.out.r.cell (j:=2) rfl;have q0:=HS.out.r.free (j:=0) (by simp);have q1:=HS.out.r.free (j:=1) (by simp);have q2:=HS.out.r.free (j:=2) (by simp);have he:s.toList.isEmpty=true:=by rw[ByteArray.toList_eq,HE.out];rfl
   have HR:=lhd (show zn0 neg d.data.toList ex=(false,[],0)by
    unfold zn0;simp only;rw[←HDW.out,HE.out,List.dropWhile_nil,if_pos (zpd 48)])
   have hsz:s.size≤0:=by omega
   go_wp2_with fail;refine wp_loop_rounds 1 ?_;rw[rounds_succ];go_wp2_with fail;obtain⟨e0,e1,e2⟩:=set3 r0 r1 r2 (.bool false) (.string ⟨#[]⟩) (.int .i64 0);refine bodyPost_ret (v:=.agg #[.bool false,.string ⟨#[]⟩,.int .i64 0]) (by simp[results,Tryz.results290,go_sem,e0,e1,e2]) rfl ?_;rw[HR.out];exact⟨⟨#[]⟩,rfl,rfl,((HS.out.b.setCell (Nat.le_succ _) _).setCell (Nat.le_succ _) _).setCell (Nat.le_succ _) _⟩
def zoH (n:Bool×List UInt8×Int):List UInt8×Int:=
 if n.2.1=[]then([48],0)else
 if 17<n.2.1.length∨n.2.2< -400∨400<n.2.2 then([],9)else
 ((if n.1 then [45]else [])++(n.2.1.take 1++((if 1<n.2.1.length then [46]++n.2.1.drop 1 else [])++([101]++Lib.itoa n.2.2))),0)
def zav (r:List UInt8×Int) (w:World) (e:Ending) (w':World):Prop:=∃o:ByteArray,e=.returned (.tuple #[.string o,.int .i64 r.2])∧o.data.toList=r.1∧Below w.heap.size w w'
theorem za4 {w W:World} (h:Below w.heap.size w W) (p q r:Value):Below w.heap.size w (((W.setCell ⟨w.heap.size,0,none⟩ p).setCell ⟨w.heap.size,1,none⟩ q).setCell ⟨w.heap.size,2,none⟩ r):=
 ((h.setCell (Nat.le_refl _) _).setCell (Nat.le_refl _) _).setCell (Nat.le_refl _) _
theorem za0 (o:ByteArray):o.data.toList.length=o.size:=by simp
theorem zk0 (neg:Bool) (d:ByteArray) (ex:Int) (w:World) (hd:d.size≤1000) (h0: -1000000≤ex) (h1:ex≤1000000):
 Calls Tryz.prog 270 #[.agg #[.bool neg,.string d,.int .i64 ex]] w (zav (zoH (zn0 neg d.data.toList ex)) w):=by
 have HC:=lhd (fun W=>zld neg d ex W hd h0 h1);generalize zn0 neg d.data.toList ex=r at HC⊢;obtain⟨b,l,x⟩:=r;go_enter Tryz.func270,Tryz.ntmps270;go_wp2_with fail;refine(HC.out _).mono ?_;rintro e w1 ⟨o,rfl,ho,hb⟩;dsimp only at ho⊢;obtain⟨c0,c1,c2⟩:=box3 hb;obtain⟨f0,f1,f2⟩:=zbo hb;obtain⟨k0,k1,k2⟩:=set3 c0 c1 c2 (.bool b) (.string o) (.int .i64 x);have HB:=lhd (za4 (zel hb) (.bool b) (.string o) (.int .i64 x));have HO:=lhd ho;have hol:l.length=o.size:=by rw[←ho,za0]
 clear hb ho;by_cases hz:o.size=0
 ·have he:o.toList.isEmpty=true:=by
   have:l=[]:=List.length_eq_zero_iff.1 (by omega);rw[ByteArray.toList_eq,HO.out,this];rfl
  have HR:=lhd (show zoH (b,l,x)=([48],0)by
   have:l=[]:=List.length_eq_zero_iff.1 (by omega);simp[zoH,this])
  clear hol hz;go_wp2_with fail;go_ret2
  rw[HR.out];exact⟨_,rfl,rfl,HB.out⟩
 have hne:=zoY o hz;have hln:l≠ []:=fun h=>hz (by rw[←hol,h];rfl);have hpos:0<o.size:=by omega
 by_cases hbig:17<o.size∨x< -400∨400<x
 ·have HR:=lhd (show zoH (b,l,x)=([],9)by
   unfold zoH;rw[if_neg hln,if_pos (by rw[hol];exact hbig)])
  clear hol hln;by_cases g1:17<o.size
  ·clear hbig;go_wp2_with fail;go_ret2
   rw[HR.out];exact⟨_,rfl,rfl,HB.out⟩
  ·have g1':o.size≤17:=by omega
   by_cases g2:x< -400
   ·clear hbig g1;go_wp2_with fail;go_ret2
    rw[HR.out];exact⟨_,rfl,rfl,HB.out⟩
   ·have g2': -400≤x:=by omega
    have g3:400<x:=by omega
    clear hbig g1 g2;go_wp2_with fail;go_ret2
    rw[HR.out];exact⟨_,rfl,rfl,HB.out⟩
 ·have HR:=lhd (show zoH (b,l,x)=((if b then [45]else [])++(l.take 1++((if 1<l.length then [46]++l.drop 1 else [])++([101]++Lib.itoa x))),0)by
   unfold zoH;rw[if_neg hln,if_neg (by rw[hol];exact hbig)])
  obtain⟨g1,g2,g3⟩:o.size≤17∧ -400≤x∧x≤400:=by omega
  have HOL:=lhd hol;have hil:=Lib.itoa_length_le x (by omega) (by omega);clear hbig hol hln hz;have E1:=lhd (show(o.extract 0 1).data.toList=l.take 1 by rw[Lib.extract_data,HO.out];rfl)
  have E2:=lhd (show(o.extract 1 o.size).data.toList=l.drop 1 by
   rw[Lib.extract_data,HO.out,List.take_of_length_le (by rw[List.length_drop];have:=HOL.out;omega)])
  by_cases g4:1<o.size
  ·have G4:=lhd (show(1<l.length)=True by rw[HOL.out];simpa using g4);cases b
   ·go_wp2_with fail;refine(zkP x (by omega) (by omega) _).mono ?_;rintro e w2 ⟨o2,rfl,ho2,hb2⟩;have hl2:o2.size≤21:=by rw[←za0,ho2];exact hil
    have HO2:=lhd ho2;have HB2:=lhd (HB.out.trans (hb2.mono HB.out.size));clear ho2 hb2;go_wp2_with fail;go_ret2
    rw[HR.out];refine⟨_,rfl,?_,HB2.out⟩;simp only[zaW,HO2.out,E1.out,E2.out,Bool.false_eq_true,if_true,if_false,G4.out];simp
   ·go_wp2_with fail;refine(zkP x (by omega) (by omega) _).mono ?_;rintro e w2 ⟨o2,rfl,ho2,hb2⟩;have hl2:o2.size≤21:=by rw[←za0,ho2];exact hil
    have HO2:=lhd ho2;have HB2:=lhd (HB.out.trans (hb2.mono HB.out.size));clear ho2 hb2;go_wp2_with fail;go_ret2
    rw[HR.out];refine⟨_,rfl,?_,HB2.out⟩;simp only[zaW,HO2.out,E1.out,E2.out,if_true,G4.out];simp
  ·have G4:=lhd (show(1<l.length)=False by rw[HOL.out];simpa using g4);cases b
   ·go_wp2_with fail;refine(zkP x (by omega) (by omega) _).mono ?_;rintro e w2 ⟨o2,rfl,ho2,hb2⟩;have hl2:o2.size≤21:=by rw[←za0,ho2];exact hil
    have HO2:=lhd ho2;have HB2:=lhd (HB.out.trans (hb2.mono HB.out.size));clear ho2 hb2;go_wp2_with fail;go_ret2
    rw[HR.out];refine⟨_,rfl,?_,HB2.out⟩;simp only[zaW,HO2.out,E1.out,Bool.false_eq_true,if_false,G4.out];simp
   ·go_wp2_with fail;refine(zkP x (by omega) (by omega) _).mono ?_;rintro e w2 ⟨o2,rfl,ho2,hb2⟩;have hl2:o2.size≤21:=by rw[←za0,ho2];exact hil
    have HO2:=lhd ho2;have HB2:=lhd (HB.out.trans (hb2.mono HB.out.size));clear ho2 hb2;go_wp2_with fail;go_ret2
    rw[HR.out];refine⟨_,rfl,?_,HB2.out⟩;simp only[zaW,HO2.out,E1.out,if_true,if_false,G4.out];simp
def zkH (l:List UInt8):Int:=l.foldl (fun e c=>min (10*e+((c.toNat:Int)-48)) 100000) 0
theorem zkJ (l:List UInt8) (c:UInt8):zkH (l++ [c])=min (10*zkH l+((c.toNat:Int)-48)) 100000:=by simp[zkH,List.foldl_append]
def zeg (s:ByteArray) (k:Nat):Option (Int×Nat):=
 if zjd [101,69] s k=true then
  (let p:=zeb s (k+1)
   if zdC s p.2=0 then none else some ((if p.1=true then-(zkH (subL s p.2 (zdC s p.2)))else zkH (subL s p.2 (zdC s p.2))),p.2+zdC s p.2))
 else some (0,k)
def zkG (s:ByteArray):Option (Bool×List UInt8×Int):=
 if 64<s.size then none else
 let p:=zni s
 let n:=zdC s p.2
 if n=0 then none else
 match zeN s (p.2+n) (subL s p.2 n)with
 |none=>none
 |some (ds,_,k)=>
  match zeg s k with
  |none=>none
  |some (e,k')=>if k'=s.size then some (p.1,ds,(n:Int)-1+e)else none
end Go.Proofs.YtbiadennhnokhaaGreatDoor
