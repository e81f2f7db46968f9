import Derived.Test.YtfppgpamkdkckaaGreatDoorZ00
import Derived.Test.YtfppgpamkdkckaaGreatDoorZ45
set_option maxRecDepth 100000
set_option maxHeartbeats 16000000
namespace Go.Proofs.YtfppgpamkdkckaaGreatDoor
open Go.RowKit
set_option linter.unusedSimpArgs false
theorem zlk {now e:Int} {k:Nat} {L:List Rc} (h:ordX now k (L.drop k)=some e) (hk:k<L.length):
 ¬(L[k].1=0∧L[k].2.1≤now)∧¬(L[k].1=4∧k≠1)∧ordX (if L[k].1=0 then L[k].2.1 else now) (k+1) (L.drop (k+1))=some e:=by
 rw[List.drop_eq_getElem_cons hk]at h;unfold ordX at h;by_cases h1:L[k].1=0∧L[k].2.1≤now
 ·rw[if_pos h1]at h;cases h
 rw[if_neg h1]at h;by_cases h2:L[k].1=4∧k≠1
 ·rw[if_pos h2]at h;cases h
 rw[if_neg h2]at h;exact⟨h1,h2,h⟩
theorem law_ExporterOrdered (t:Tr) (p:TP) (w:World) (ht:TrM w t p) (hi:InT t) (hg:Glob w) (hm:Glm w):
 Calls Tryz.prog 5 #[p.v t] w fun e w'=>e=.returned (.bool true)∧Below w.heap.size w w':=by
 obtain⟨a1,k1,a2,k2,a3,k3,a4,k4,e,-⟩:=ht.open;have HT:=lhd ht;have HI:=lhd hi;have HG:=lhd hg;have HM:=lhd hm;have HE:=lhd e;have HB1:=lhd (za7 w (boxT t a1 a2 a3 a4 k1 k2 k3 k4) 32);have HX1:=lhd (Bx.new w (boxT t a1 a2 a3 a4 k1 k2 k3 k4) 32);rw[e];clear ht hi hg hm e;go_enter Tryz.func5,Tryz.ntmps5;go_wp2_with fail;generalize w.alloc (.cells (boxT t a1 a2 a3 a4 k1 k2 k3 k4) 32)=w1 at*;refine(law_awake28 w1 (HG.out.below HB1.out) (HM.out.below HB1.out)).mono ?_;rintro e w2 ⟨rfl,hb2⟩;have HB2:=lhd (zfj HB1.out hb2);have HX2:=lhd (HX1.out.step hb2);obtain⟨p0,p1,p2,p3,p4,p5,p6,p7,p8⟩:=HX2.out.nine;have hfw:=znj t p 60 w2 (HT.out.below HB2.out) (by decide) ⟨by have:=HI.out.tx;omega,by have:=HI.out.tx;omega,by have:=HI.out.tx;omega⟩;rw[HE.out]at hfw;have HFW:=lhd hfw;clear hb2 hfw;rcases Bool.eq_false_or_eq_true (fewT t 60)with hfew|hfew
 rotate_left
 ·rw[hfew]at HFW;clear hfew;go_wp2_with fail;refine HFW.out.mono ?_;rintro e w3 ⟨rfl,hb3⟩;have HB3:=lhd (zfj HB2.out hb3);clear hb3;go_wp2_with fail;go_ret;exact⟨rfl,HB3.out⟩
 have HV:=lhd (zfn (by decide) (by decide) hfew (fun x hx=>(HI.out.v x hx).2.2.2.1) (fun s hs c hc=>((HI.out.g s hs).2.2 c hc).1));rw[hfew]at HFW;clear hfew;go_wp2_with fail;refine HFW.out.mono ?_;rintro e w3 ⟨rfl,hb3⟩;have HB3:=lhd (zfj HB2.out hb3);have HX3:=lhd (HX2.out.step hb3);clear p0 p1 p2 p3 p4 p5 p6 p7 p8 hb3;have hva:=zqZ t p w3 (HT.out.below HB3.out) HV.out.fb (HG.out.below HB3.out) (HM.out.below HB3.out) HV.out.sg;rw[HE.out]at hva;obtain⟨p0,p1,p2,p3,p4,p5,p6,p7,p8⟩:=HX3.out.nine;have HVA:=lhd hva;clear hva HFW;rcases Bool.eq_false_or_eq_true (zsv t)with hv|hv
 rotate_left
 ·rw[hv]at HVA;clear hv;go_wp2_with fail;refine HVA.out.mono ?_;rintro e w4 ⟨rfl,hb4⟩;have HB4:=lhd (zfj HB3.out hb4);clear hb4;go_wp2_with fail;go_ret;exact⟨rfl,HB4.out⟩
 have HVT:=lhd (zsy (zsw.1 hv));have hrc:=fun W (hW:Below w.heap.size w W)=>ze2 t p W (HT.out.below hW) HV.out (HG.out.below hW) (HM.out.below hW);rw[HE.out,show zm3 t=zm1 t from if_pos hv]at hrc;have HRC:=lhd hrc;rw[hv]at HVA;clear hv hrc;go_wp2_with fail;refine HVA.out.mono ?_;rintro e w4 ⟨rfl,hb4⟩;have HB4:=lhd (zfj HB3.out hb4);have HX4:=lhd (HX3.out.step hb4);clear hb4 p0 p1 p2 p3 p4 p5 p6 p7 p8 HVA;obtain⟨p0,p1,p2,p3,p4,p5,p6,p7,p8⟩:=HX4.out.nine;obtain⟨r,hr,hord⟩:=zm7 HVT.out;generalize zm1 t=L at*;go_wp2_with fail;refine(HRC.out w4 HB4.out).mono ?_;rintro e w5 ⟨v5,rfl,ho5,hb5⟩;obtain⟨a5,c5,rfl,-,-⟩:=(SlR.of_own ho5).shape;have HS5:=lhd (SlR.of_own ho5);have HB5:=lhd (zfj HB4.out hb5);have HX5:=lhd (HX4.out.step hb5);have hl2:2≤L.length:=by rw[hr];simp
 have HLR:=lhd hr;have HORD:=lhd hord;clear hb5 ho5 hr hord p0 p1 p2 p3 p4 p5 p6 p7 p8 HRC;obtain⟨p0,p1,p2,p3,p4,p5,p6,p7,p8⟩:=HX5.out.nine;obtain⟨g,o,e,y0,y1,y2,y3⟩:=HS5.out.recs (k:=0) (by omega);obtain⟨g',o',e',z0,z1,z2,z3⟩:=HS5.out.recs (k:=1) (by omega);obtain rfl:=e;injection e' with e';injection e' with e1 e2 _;subst e1 e2;simp only[HLR.out,List.getElem_cons_zero,List.getElem_cons_succ]at y0 y1 y2 y3 z0 z1 z2 z3;rw[show bsB []=⟨#[]⟩from rfl]at y2 y3 z2 z3;simp only[Nat.zero_mul,Nat.one_mul,Nat.add_zero]at y0 y1 y2 y3 z0 z1 z2 z3;go_upto_region 9 with fail;clear y0 y1 y2 y3 z0 z1 z2 z3 p0 p1 p2 p3 p4 p5 p6 p7 p8
 have hmx:L.length≤9223372036854775807:=by
  obtain⟨a9,k9,e9,h9,h8⟩:=HS5.out.shape;injection e9 with e9 e8 e7;unfold maxLen at h8;omega
 have ho0:ordX (-1) 0 (L.drop 0)=some t.en:=HORD.out;clear HLR HORD;go_wp2_with fail;go_loopw [4,38] (fun vn vi wr=>∃(k:Nat) (now:Int),k≤L.length∧vn=.int .i64 now∧vi=.int .i64 k∧ordX now k (L.drop k)=some t.en∧Below w5.heap.size w5 wr) (fun _ vi _=>L.length-(intOf vi).toNat)
 case atStart=>exact⟨0,-1,Nat.zero_le _,rfl,rfl,ho0,Below.refl _ _⟩
 case round=>
  obtain⟨k,now,hk,rfl,rfl,hq,hb⟩:=hrel;have HB:=lhd hb;by_cases hlt:k<L.length
  ·obtain⟨h1,h2,hn⟩:=zlk hq hlt;obtain⟨b',o',e,c0,c1,c2,c3⟩:=(HS5.out.below hb).recs hlt;injection e with e;injection e with e1 e2 _;subst e1 e2;have HN:=lhd hn;have hd:decide ((k:Int)<(L.length:Int))=true:=by rw[decide_eq_true_iff];omega
   have hwk:IntKind.i64.wrap ((k:Int)+1)=(k:Int)+1:=IntWalk.i64_in _ (by omega);generalize L[k]=x at*;obtain⟨r1,r2,r3,r4⟩:=x;dsimp only at*;have HB1:=lhd (hb.alloc hb.size (.cells #[.int .i64 r1,.int .i64 r2,.string (bsB r3),.string (bsB r4)] 47));have o4:=zlu (heap_alloc_new wr (.cells #[.int .i64 r1,.int .i64 r2,.string (bsB r3),.string (bsB r4)] 47));have x0:=o4.cell (j:=0) rfl;have x1:=o4.cell (j:=1) rfl;clear hb hq hn o4;go_upto_region 12 with fail;generalize wr.alloc (.cells #[.int .i64 r1,.int .i64 r2,.string (bsB r3),.string (bsB r4)] 47)=w6 at*;clear c0 c1 c2 c3;by_cases hr0:r1=0
   ·subst hr0;rw[if_pos rfl]at HN;have hr2:decide (r2≤now)=false:=by rw[decide_eq_false_iff_not];exact fun h=>h1 ⟨rfl,h⟩
    clear h1 h2;go_wp2_with fail;go_roundw;case rel=>exact⟨k+1,r2,hlt,by go_num,by go_num,HN.out,HB1.out⟩
    case measure=>simp[intOf];omega
   ·rw[if_neg hr0]at HN;have hd0:(r1==0)=false:=by simpa using hr0
    by_cases hr4:r1=4
    ·subst hr4
     obtain rfl:k=1:=by
      rcases Nat.decEq k 1 with h|h
      ·exact absurd ⟨rfl,h⟩ h2
      ·exact h
     clear h1 h2 hr0 hd0;go_wp2_with fail;go_roundw;case rel=>exact⟨1+1,now,hlt,by go_num,by go_num,HN.out,HB1.out⟩
     case measure=>simp[intOf];omega
    ·have hd4:(r1==4)=false:=by simpa using hr4
     clear h1 h2 hr0 hr4;go_wp2_with fail;go_roundw;case rel=>exact⟨k+1,now,hlt,by go_num,by go_num,HN.out,HB1.out⟩
     case measure=>simp[intOf];omega
  ·obtain rfl:k=L.length:=by omega
   have hd:decide ((L.length:Int)<(L.length:Int))=false:=by rw[decide_eq_false_iff_not];omega
   rw[List.drop_length]at hq;obtain rfl:now=t.en:=by injection hq
   have HX6:=lhd (HX5.out.step hb);obtain⟨p0,p1,p2,p3,p4,p5,p6,p7,p8⟩:=HX6.out.nine;have HB9:=lhd (zfj HB5.out hb);clear hq hb;go_wp2_with fail;go_ret;exact⟨rfl,HB9.out⟩
end Go.Proofs.YtfppgpamkdkckaaGreatDoor
