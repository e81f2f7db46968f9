import Derived.Test.YtfppgpamkdkckaaGreatDoorZ00
import Derived.BigQuiet
import Derived.BigRegion
import Derived.Deep.DeepCutAuto
import Derived.Deep.QuietTactic
import Derived.Deep.RegionHeld3
import Derived.Ground.Names2Prog
import Derived.Ground.SlgnProg
import Derived.Laws.EntriesVeiled
import Derived.Lib.AppendIntMem
import Derived.Lib.AppendStr
import Derived.Lib.ItoaLen
import Derived.Lib.Strings
import Derived.Shelf.Bits.Mul64
import Derived.Shelf.LaysM
import Derived.Shelf.Slices.Cells
import Derived.Shelf.Slices.CompactI
import Derived.Shelf.Slices.In.SortNone
import Derived.Shelf.Slices.ReverseS
import Derived.Shelf.Slices.SearchI
import Derived.Shelf.SlicesE.Reverse
import Derived.Shelf.Small.Bits
import Derived.Shelf.Small.Strs
import Derived.Shelf.Small.Utf8
import Derived.Shelf.Small.Wraps
import Derived.Shelf.Sort.Plain
import Derived.Shelf.Strconv.Itoa0
import Derived.Shelf.Strconv.Itoa1
import Derived.Shelf.Strconv.Itoa2
import Derived.Shelf.Strconv.Itoa3
import Derived.Shelf.Strings.AsciiSet
import Derived.Shelf.Strings.Builder1
import Derived.Shelf.Strings.Builder2
import Derived.Shelf.Strings.Builder2Cap
import Derived.Shelf.Strings.BuilderCap
import Derived.Shelf.Strings.BuilderF
import Derived.Shelf.Strings.BuilderK
import Derived.Shelf.Strings.Count
import Derived.Shelf.Strings.Explode
import Derived.Shelf.Strings.IndexAny
import Derived.Shelf.Strings.IndexAnyAll
import Derived.Shelf.Strings.OnBuilder
import Derived.Shelf.Strings.Prefix
import Derived.Shelf.Strings.Repeat
import Derived.Shelf.Strings.RuneCount
import Derived.Shelf.Strings.Runes
import Derived.Shelf.Strings.Search1
import Derived.Shelf.Strings.Search2
import Derived.Shelf.Strings.Search3
import Derived.Shelf.Strings.Shaped
import Derived.Shelf.Strings.Split
import Derived.Shelf.Strings.SplitShaped
import Derived.Shelf.Unicode.Decode
import Derived.Shelf.Unicode.DecodeAny
import Derived.Shelf.Unicode.DecodeSlow
import Derived.Shelf.Utf8.RuneCount
import Derived.Test.YtfppgpamkdkckaaGreatDoorZ01
set_option maxRecDepth 100000
set_option maxHeartbeats 16000000
namespace Go.Proofs.YtfppgpamkdkckaaGreatDoor
open Go.RowKit
theorem zss (s:ByteArray) (w:World):
 Calls Tryz.prog 229 #[.string s] w fun e w'=>e=.returned (.func (.func 291) #[] #[.pointer (some ⟨w.heap.size,0,none⟩)])∧w.alloc (.cells #[.string s] 9)=w':=by
 go_enter Tryz.func229,Tryz.ntmps229;go_wp2_with fail;go_ret;exact⟨rfl,rfl⟩
theorem zst (n:Int) (s:ByteArray) (b:Nat) (w:World) (h:w.cell? ⟨b,0,none⟩=some (.string s)):
 Calls Tryz.prog 291 #[.int .i64 n,.pointer (some ⟨b,0,none⟩)] w fun e w'=>e=.returned (.string s)∧w=w':=by
 go_enter Tryz.func291,Tryz.ntmps291;go_wp2_with fail;go_ret;exact⟨rfl,rfl⟩
theorem zr9 (w:World):
 Calls Tryz.prog 169 #[] w fun e w'=>e=.returned (.slice (some ⟨w.heap.size+1+1+1,0,none⟩) 4 4)∧(((w.alloc (.cells #[.string ⟨#[48]⟩] 9)).alloc (.cells #[.string ⟨#[]⟩] 9)).alloc (.cells #[.string ⟨#[]⟩] 9)).alloc (.cells #[.int .i64 1,.int .i64 128,.func (.func 222) #[] #[],.func (.func 223) #[] #[],.func (.func 225) #[] #[],.func (.func 226) #[] #[],.string ⟨#[98]⟩,.int .i64 0,.int .i64 0,.func (.func 227) #[] #[],.func (.func 291) #[] #[.pointer (some ⟨w.heap.size,0,none⟩)],.func (.func 230) #[] #[],.func (.func 232) #[] #[],.string ⟨#[114]⟩,.int .i64 0,.int .i64 0,.func (.func 233) #[] #[],.func (.func 291) #[] #[.pointer (some ⟨w.heap.size+1,0,none⟩)],.func (.func 234) #[] #[],.func (.func 236) #[] #[],.string ⟨#[115]⟩,.int .i64 0,.int .i64 0,.func (.func 237) #[] #[],.func (.func 291) #[] #[.pointer (some ⟨w.heap.size+1+1,0,none⟩)],.func (.func 238) #[] #[],.func (.func 239) #[] #[],.string ⟨#[]⟩] 162)=w':=by
 go_enter Tryz.func169,Tryz.ntmps169;go_wp2_with fail;refine(zss _ _).mono ?_;rintro e w' ⟨rfl,rfl⟩;go_wp2_with fail;refine(zss _ _).mono ?_;rintro e w' ⟨rfl,rfl⟩;go_wp2_with fail;refine(zss _ _).mono ?_;rintro e w' ⟨rfl,rfl⟩;go_wp2_with fail;go_ret;exact⟨rfl,rfl⟩
def kd0 (_:Nat):Array Value:=#[.int .i64 1,.int .i64 128,.func (.func 222) #[] #[],.func (.func 223) #[] #[],.func (.func 225) #[] #[],.func (.func 226) #[] #[],.string ⟨#[98]⟩]
def kd1 (B:Nat):Array Value:=#[.int .i64 0,.int .i64 0,.func (.func 227) #[] #[],.func (.func 291) #[] #[.pointer (some ⟨B,0,none⟩)],.func (.func 230) #[] #[],.func (.func 232) #[] #[],.string ⟨#[114]⟩]
def kd2 (B:Nat):Array Value:=#[.int .i64 0,.int .i64 0,.func (.func 233) #[] #[],.func (.func 291) #[] #[.pointer (some ⟨B+1,0,none⟩)],.func (.func 234) #[] #[],.func (.func 236) #[] #[],.string ⟨#[115]⟩]
def kd3 (B:Nat):Array Value:=#[.int .i64 0,.int .i64 0,.func (.func 237) #[] #[],.func (.func 291) #[] #[.pointer (some ⟨B+1+1,0,none⟩)],.func (.func 238) #[] #[],.func (.func 239) #[] #[],.string ⟨#[]⟩]
def zah (w:World) (B:Nat):Prop:=w.cell? ⟨B,0,none⟩=some (.string ⟨#[48]⟩)∧w.cell? ⟨B+1,0,none⟩=some (.string ⟨#[]⟩)∧w.cell? ⟨B+1+1,0,none⟩=some (.string ⟨#[]⟩)
def zal (kd:Nat→Array Value) (ok:Bool) (w:World) (e:Ending) (w':World):Prop:=
 ∃B,e=.returned (.tuple #[.agg (kd B),.bool ok])∧zah w' B∧Below w.heap.size w w'
def zhR (B:Nat):Array Value:=#[.int .i64 1,.int .i64 128,.func (.func 222) #[] #[],.func (.func 223) #[] #[],.func (.func 225) #[] #[],.func (.func 226) #[] #[],.string ⟨#[98]⟩,.int .i64 0,.int .i64 0,.func (.func 227) #[] #[],.func (.func 291) #[] #[.pointer (some ⟨B,0,none⟩)],.func (.func 230) #[] #[],.func (.func 232) #[] #[],.string ⟨#[114]⟩,.int .i64 0,.int .i64 0,.func (.func 233) #[] #[],.func (.func 291) #[] #[.pointer (some ⟨B+1,0,none⟩)],.func (.func 234) #[] #[],.func (.func 236) #[] #[],.string ⟨#[115]⟩,.int .i64 0,.int .i64 0,.func (.func 237) #[] #[],.func (.func 291) #[] #[.pointer (some ⟨B+1+1,0,none⟩)],.func (.func 238) #[] #[],.func (.func 239) #[] #[],.string ⟨#[]⟩]
def zai (w:World) (e:Ending) (w':World):Prop:=
 ∃B,e=.returned (.slice (some ⟨B+1+1+1,0,none⟩) 4 4)∧w.heap.size≤B∧zah w' B∧(∀i,w'.cell? ⟨B+1+1+1,i,none⟩=(zhR B)[i]?)∧Below w.heap.size w w'
theorem zsa (w:World):Calls Tryz.prog 169 #[] w (zai w):=by
 refine(zr9 w).mono ?_;rintro e w' ⟨rfl,rfl⟩;have h1:=(zan.fresh w #[.string ⟨#[48]⟩] 9).cell (j:=0) rfl;have h2:=(zan.fresh (w.alloc (.cells #[.string ⟨#[48]⟩] 9)) #[.string ⟨#[]⟩] 9).cell (j:=0) rfl;have h3:=(zan.fresh ((w.alloc (.cells #[.string ⟨#[48]⟩] 9)).alloc (.cells #[.string ⟨#[]⟩] 9)) #[.string ⟨#[]⟩] 9).cell (j:=0) rfl;simp only[World.size_alloc]at h2 h3;refine⟨w.heap.size,rfl,Nat.le_refl _,⟨zbT (zbT (zbT h1 _) _) _,zbT (zbT h2 _) _,zbT h3 _⟩,fun i=>?_,?_⟩
 ·have:=World.cell?_alloc_mark (((w.alloc (.cells #[.string ⟨#[48]⟩] 9)).alloc (.cells #[.string ⟨#[]⟩] 9)).alloc (.cells #[.string ⟨#[]⟩] 9)) (zhR w.heap.size) 162 (0,0) i;simp only[World.size_alloc]at this;exact this
 ·exact(((Below.refl _ _).alloc (Nat.le_refl _) _).alloc (by simp) _|>.alloc (by simp;omega) _).alloc (by simp;omega) _
theorem zal.mk {kd:Nat→Array Value} {ok:Bool} {w W:World} {B:Nat} (h:zah W B∧Below w.heap.size w W):zal kd ok w (.returned (.tuple #[.agg (kd B),.bool ok])) W:=⟨B,rfl,h.1,h.2⟩
theorem zkv {w W:World} {B:Nat} (hB:w.heap.size<B) (h:zah W B∧Below w.heap.size w W) (i:Nat) (v:Value):
 zah (W.setCell ⟨w.heap.size,i,none⟩ v) B∧Below w.heap.size w (W.setCell ⟨w.heap.size,i,none⟩ v):=by
 have o:∀(b:Nat) (u:Value),w.heap.size<b→W.cell? ⟨b,0,none⟩=some u→(W.setCell ⟨w.heap.size,i,none⟩ v).cell? ⟨b,0,none⟩=some u:=fun b u hij h=>by
  rw[World.cell?_setCell_other (h:=by intro e;injection e with e1;omega)];exact h
 exact⟨⟨o _ _ hB h.1.1,o _ _ (by omega) h.1.2.1,o _ _ (by omega) h.1.2.2⟩,h.2.setCell (Nat.le_refl _) _⟩
theorem zku {w W:World} {B:Nat} (h:zah W B∧Below w.heap.size w W):zah W.drew B∧Below w.heap.size w W.drew:=⟨h.1,h.2.drew⟩
theorem zsg (n:Int) (w:World) (h1:1≤n) (h2:n≤128):
 Calls Tryz.prog 120 #[.int .i64 0,.int .i64 n] w (zal kd0 true w):=by
 go_enter Tryz.func120,Tryz.ntmps120;go_wp2_with fail;refine(zsa _).mono ?_;rintro e w1 ⟨B,rfl,hB,hK,hc,hb⟩;have f:=fun i=>(boxN hb i).2;have f0:=f 0;have f1:=f 1;have f2:=f 2;have f3:=f 3;have f4:=f 4;have f5:=f 5;have f6:=f 6;have g0:w1.cell? ⟨w.heap.size,0,none⟩=some (.int .i64 0):=(boxN hb 0).1;have g1:w1.cell? ⟨w.heap.size,1,none⟩=some (.int .i64 0):=(boxN hb 1).1;have g2:w1.cell? ⟨w.heap.size,2,none⟩=some (.nilFunc):=(boxN hb 2).1;have g3:w1.cell? ⟨w.heap.size,3,none⟩=some (.nilFunc):=(boxN hb 3).1;have g4:w1.cell? ⟨w.heap.size,4,none⟩=some (.nilFunc):=(boxN hb 4).1;have g5:w1.cell? ⟨w.heap.size,5,none⟩=some (.nilFunc):=(boxN hb 5).1;have g6:w1.cell? ⟨w.heap.size,6,none⟩=some (.string ⟨#[]⟩):=(boxN hb 6).1;have c0:w1.cell? ⟨B+1+1+1,0,none⟩=some (.int .i64 1):=hc 0;have c1:w1.cell? ⟨B+1+1+1,1,none⟩=some (.int .i64 128):=hc 1;have c2:w1.cell? ⟨B+1+1+1,2,none⟩=some (.func (.func 222) #[] #[]):=hc 2;have c3:w1.cell? ⟨B+1+1+1,3,none⟩=some (.func (.func 223) #[] #[]):=hc 3;have c4:w1.cell? ⟨B+1+1+1,4,none⟩=some (.func (.func 225) #[] #[]):=hc 4;have c5:w1.cell? ⟨B+1+1+1,5,none⟩=some (.func (.func 226) #[] #[]):=hc 5;have c6:w1.cell? ⟨B+1+1+1,6,none⟩=some (.string ⟨#[98]⟩):=hc 6;have HB:=lhd (zfg hb);have HK:=lhd hK;have hBl:w.heap.size<B:=by simp at hB;omega
 have hBn:B+1+1+1≠w.heap.size:=by simp at hB;omega
 have hBn':w.heap.size≠B+1+1+1:=by simp at hB;omega
 clear hc f hb hK;go_wp2_with fail;go_region_held3 (fun w'=>w'.cell? ⟨B+1+1+1,0,none⟩=some (.int .i64 1)∧w'.cell? ⟨B+1+1+1,1,none⟩=some (.int .i64 128)∧w'.cell? ⟨B+1+1+1,2,none⟩=some (.func (.func 222) #[] #[])∧w'.cell? ⟨B+1+1+1,3,none⟩=some (.func (.func 223) #[] #[])∧w'.cell? ⟨B+1+1+1,4,none⟩=some (.func (.func 225) #[] #[])∧w'.cell? ⟨B+1+1+1,5,none⟩=some (.func (.func 226) #[] #[])∧w'.cell? ⟨B+1+1+1,6,none⟩=some (.string ⟨#[98]⟩)) (go_keep) (fail)
 go_wp2_with fail;refine bodyPost_ret (v:=.tuple #[.agg (kd0 B),.bool true]) (by simp[results,Tryz.results120,go_sem,g0,g1,g2,g3,g4,g5,g6,kd0]) rfl (zal.mk (zku (zkv hBl (zkv hBl (zkv hBl (zkv hBl (zkv hBl (zkv hBl (zkv hBl ⟨HK.out,HB.out⟩ _ _) _ _) _ _) _ _) _ _) _ _) _ _)))
theorem zse (n:Int) (w:World) (h2:128<n):
 Calls Tryz.prog 120 #[.int .i64 0,.int .i64 n] w (zal kd0 false w):=by
 have h1:1≤n:=by omega
 have hd:decide (n≤128)=false:=by simp;omega
 go_enter Tryz.func120,Tryz.ntmps120;go_wp2_with fail;refine(zsa _).mono ?_;rintro e w1 ⟨B,rfl,hB,hK,hc,hb⟩;have f:=fun i=>(boxN hb i).2;have f0:=f 0;have f1:=f 1;have f2:=f 2;have f3:=f 3;have f4:=f 4;have f5:=f 5;have f6:=f 6;have g0:w1.cell? ⟨w.heap.size,0,none⟩=some (.int .i64 0):=(boxN hb 0).1;have g1:w1.cell? ⟨w.heap.size,1,none⟩=some (.int .i64 0):=(boxN hb 1).1;have g2:w1.cell? ⟨w.heap.size,2,none⟩=some (.nilFunc):=(boxN hb 2).1;have g3:w1.cell? ⟨w.heap.size,3,none⟩=some (.nilFunc):=(boxN hb 3).1;have g4:w1.cell? ⟨w.heap.size,4,none⟩=some (.nilFunc):=(boxN hb 4).1;have g5:w1.cell? ⟨w.heap.size,5,none⟩=some (.nilFunc):=(boxN hb 5).1;have g6:w1.cell? ⟨w.heap.size,6,none⟩=some (.string ⟨#[]⟩):=(boxN hb 6).1;have c0:w1.cell? ⟨B+1+1+1,0,none⟩=some (.int .i64 1):=hc 0;have c1:w1.cell? ⟨B+1+1+1,1,none⟩=some (.int .i64 128):=hc 1;have c2:w1.cell? ⟨B+1+1+1,2,none⟩=some (.func (.func 222) #[] #[]):=hc 2;have c3:w1.cell? ⟨B+1+1+1,3,none⟩=some (.func (.func 223) #[] #[]):=hc 3;have c4:w1.cell? ⟨B+1+1+1,4,none⟩=some (.func (.func 225) #[] #[]):=hc 4;have c5:w1.cell? ⟨B+1+1+1,5,none⟩=some (.func (.func 226) #[] #[]):=hc 5;have c6:w1.cell? ⟨B+1+1+1,6,none⟩=some (.string ⟨#[98]⟩):=hc 6;have HB:=lhd (zfg hb);have HK:=lhd hK;have hBl:w.heap.size<B:=by simp at hB;omega
 have hBn:B+1+1+1≠w.heap.size:=by simp at hB;omega
 have hBn':w.heap.size≠B+1+1+1:=by simp at hB;omega
 clear hc f hb hK;go_wp2_with fail;go_region_held3 (fun w'=>w'.cell? ⟨B+1+1+1,0,none⟩=some (.int .i64 1)∧w'.cell? ⟨B+1+1+1,1,none⟩=some (.int .i64 128)∧w'.cell? ⟨B+1+1+1,2,none⟩=some (.func (.func 222) #[] #[])∧w'.cell? ⟨B+1+1+1,3,none⟩=some (.func (.func 223) #[] #[])∧w'.cell? ⟨B+1+1+1,4,none⟩=some (.func (.func 225) #[] #[])∧w'.cell? ⟨B+1+1+1,5,none⟩=some (.func (.func 226) #[] #[])∧w'.cell? ⟨B+1+1+1,6,none⟩=some (.string ⟨#[98]⟩)) (go_keep) (fail)
 go_wp2_with fail;refine bodyPost_ret (v:=.tuple #[.agg (kd0 B),.bool false]) (by simp[results,Tryz.results120,go_sem,g0,g1,g2,g3,g4,g5,g6,kd0]) rfl (zal.mk (zku (zkv hBl (zkv hBl (zkv hBl (zkv hBl (zkv hBl (zkv hBl (zkv hBl ⟨HK.out,HB.out⟩ _ _) _ _) _ _) _ _) _ _) _ _) _ _)))
theorem zsj (w:World):
 Calls Tryz.prog 120 #[.int .i64 1,.int .i64 0] w (zal kd1 true w):=by
 go_enter Tryz.func120,Tryz.ntmps120;go_wp2_with fail;refine(zsa _).mono ?_;rintro e w1 ⟨B,rfl,hB,hK,hc,hb⟩;have f:=fun i=>(boxN hb i).2;have f0:=f 0;have f1:=f 1;have f2:=f 2;have f3:=f 3;have f4:=f 4;have f5:=f 5;have f6:=f 6;have g0:w1.cell? ⟨w.heap.size,0,none⟩=some (.int .i64 0):=(boxN hb 0).1;have g1:w1.cell? ⟨w.heap.size,1,none⟩=some (.int .i64 0):=(boxN hb 1).1;have g2:w1.cell? ⟨w.heap.size,2,none⟩=some (.nilFunc):=(boxN hb 2).1;have g3:w1.cell? ⟨w.heap.size,3,none⟩=some (.nilFunc):=(boxN hb 3).1;have g4:w1.cell? ⟨w.heap.size,4,none⟩=some (.nilFunc):=(boxN hb 4).1;have g5:w1.cell? ⟨w.heap.size,5,none⟩=some (.nilFunc):=(boxN hb 5).1;have g6:w1.cell? ⟨w.heap.size,6,none⟩=some (.string ⟨#[]⟩):=(boxN hb 6).1;have c0:w1.cell? ⟨B+1+1+1,7,none⟩=some (.int .i64 0):=hc 7;have c1:w1.cell? ⟨B+1+1+1,8,none⟩=some (.int .i64 0):=hc 8;have c2:w1.cell? ⟨B+1+1+1,9,none⟩=some (.func (.func 227) #[] #[]):=hc 9;have c3:w1.cell? ⟨B+1+1+1,10,none⟩=some (.func (.func 291) #[] #[.pointer (some ⟨B,0,none⟩)]):=hc 10;have c4:w1.cell? ⟨B+1+1+1,11,none⟩=some (.func (.func 230) #[] #[]):=hc 11;have c5:w1.cell? ⟨B+1+1+1,12,none⟩=some (.func (.func 232) #[] #[]):=hc 12;have c6:w1.cell? ⟨B+1+1+1,13,none⟩=some (.string ⟨#[114]⟩):=hc 13;have HB:=lhd (zfg hb);have HK:=lhd hK;have hBl:w.heap.size<B:=by simp at hB;omega
 have hBn:B+1+1+1≠w.heap.size:=by simp at hB;omega
 have hBn':w.heap.size≠B+1+1+1:=by simp at hB;omega
 clear hc f hb hK;go_wp2_with fail;go_region_held3 (fun w'=>w'.cell? ⟨B+1+1+1,7,none⟩=some (.int .i64 0)∧w'.cell? ⟨B+1+1+1,8,none⟩=some (.int .i64 0)∧w'.cell? ⟨B+1+1+1,9,none⟩=some (.func (.func 227) #[] #[])∧w'.cell? ⟨B+1+1+1,10,none⟩=some (.func (.func 291) #[] #[.pointer (some ⟨B,0,none⟩)])∧w'.cell? ⟨B+1+1+1,11,none⟩=some (.func (.func 230) #[] #[])∧w'.cell? ⟨B+1+1+1,12,none⟩=some (.func (.func 232) #[] #[])∧w'.cell? ⟨B+1+1+1,13,none⟩=some (.string ⟨#[114]⟩)) (go_keep) (fail)
 go_wp2_with fail;refine bodyPost_ret (v:=.tuple #[.agg (kd1 B),.bool true]) (by simp[results,Tryz.results120,go_sem,g0,g1,g2,g3,g4,g5,g6,kd1]) rfl (zal.mk (zku (zkv hBl (zkv hBl (zkv hBl (zkv hBl (zkv hBl (zkv hBl (zkv hBl ⟨HK.out,HB.out⟩ _ _) _ _) _ _) _ _) _ _) _ _) _ _)))
theorem zsh (n:Int) (w:World) (h2:0<n):
 Calls Tryz.prog 120 #[.int .i64 1,.int .i64 n] w (zal kd1 false w):=by
 have h1:0≤n:=by omega
 have hd:decide (n≤0)=false:=by simp;omega
 go_enter Tryz.func120,Tryz.ntmps120;go_wp2_with fail;refine(zsa _).mono ?_;rintro e w1 ⟨B,rfl,hB,hK,hc,hb⟩;have f:=fun i=>(boxN hb i).2;have f0:=f 0;have f1:=f 1;have f2:=f 2;have f3:=f 3;have f4:=f 4;have f5:=f 5;have f6:=f 6;have g0:w1.cell? ⟨w.heap.size,0,none⟩=some (.int .i64 0):=(boxN hb 0).1;have g1:w1.cell? ⟨w.heap.size,1,none⟩=some (.int .i64 0):=(boxN hb 1).1;have g2:w1.cell? ⟨w.heap.size,2,none⟩=some (.nilFunc):=(boxN hb 2).1;have g3:w1.cell? ⟨w.heap.size,3,none⟩=some (.nilFunc):=(boxN hb 3).1;have g4:w1.cell? ⟨w.heap.size,4,none⟩=some (.nilFunc):=(boxN hb 4).1;have g5:w1.cell? ⟨w.heap.size,5,none⟩=some (.nilFunc):=(boxN hb 5).1;have g6:w1.cell? ⟨w.heap.size,6,none⟩=some (.string ⟨#[]⟩):=(boxN hb 6).1;have c0:w1.cell? ⟨B+1+1+1,7,none⟩=some (.int .i64 0):=hc 7;have c1:w1.cell? ⟨B+1+1+1,8,none⟩=some (.int .i64 0):=hc 8;have c2:w1.cell? ⟨B+1+1+1,9,none⟩=some (.func (.func 227) #[] #[]):=hc 9;have c3:w1.cell? ⟨B+1+1+1,10,none⟩=some (.func (.func 291) #[] #[.pointer (some ⟨B,0,none⟩)]):=hc 10;have c4:w1.cell? ⟨B+1+1+1,11,none⟩=some (.func (.func 230) #[] #[]):=hc 11;have c5:w1.cell? ⟨B+1+1+1,12,none⟩=some (.func (.func 232) #[] #[]):=hc 12;have c6:w1.cell? ⟨B+1+1+1,13,none⟩=some (.string ⟨#[114]⟩):=hc 13;have HB:=lhd (zfg hb);have HK:=lhd hK;have hBl:w.heap.size<B:=by simp at hB;omega
 have hBn:B+1+1+1≠w.heap.size:=by simp at hB;omega
 have hBn':w.heap.size≠B+1+1+1:=by simp at hB;omega
 clear hc f hb hK;go_wp2_with fail;go_region_held3 (fun w'=>w'.cell? ⟨B+1+1+1,7,none⟩=some (.int .i64 0)∧w'.cell? ⟨B+1+1+1,8,none⟩=some (.int .i64 0)∧w'.cell? ⟨B+1+1+1,9,none⟩=some (.func (.func 227) #[] #[])∧w'.cell? ⟨B+1+1+1,10,none⟩=some (.func (.func 291) #[] #[.pointer (some ⟨B,0,none⟩)])∧w'.cell? ⟨B+1+1+1,11,none⟩=some (.func (.func 230) #[] #[])∧w'.cell? ⟨B+1+1+1,12,none⟩=some (.func (.func 232) #[] #[])∧w'.cell? ⟨B+1+1+1,13,none⟩=some (.string ⟨#[114]⟩)) (go_keep) (fail)
 go_wp2_with fail;refine bodyPost_ret (v:=.tuple #[.agg (kd1 B),.bool false]) (by simp[results,Tryz.results120,go_sem,g0,g1,g2,g3,g4,g5,g6,kd1]) rfl (zal.mk (zku (zkv hBl (zkv hBl (zkv hBl (zkv hBl (zkv hBl (zkv hBl (zkv hBl ⟨HK.out,HB.out⟩ _ _) _ _) _ _) _ _) _ _) _ _) _ _)))
theorem zsm (w:World):
 Calls Tryz.prog 120 #[.int .i64 2,.int .i64 0] w (zal kd2 true w):=by
 go_enter Tryz.func120,Tryz.ntmps120;go_wp2_with fail;refine(zsa _).mono ?_;rintro e w1 ⟨B,rfl,hB,hK,hc,hb⟩;have f:=fun i=>(boxN hb i).2;have f0:=f 0;have f1:=f 1;have f2:=f 2;have f3:=f 3;have f4:=f 4;have f5:=f 5;have f6:=f 6;have g0:w1.cell? ⟨w.heap.size,0,none⟩=some (.int .i64 0):=(boxN hb 0).1;have g1:w1.cell? ⟨w.heap.size,1,none⟩=some (.int .i64 0):=(boxN hb 1).1;have g2:w1.cell? ⟨w.heap.size,2,none⟩=some (.nilFunc):=(boxN hb 2).1;have g3:w1.cell? ⟨w.heap.size,3,none⟩=some (.nilFunc):=(boxN hb 3).1;have g4:w1.cell? ⟨w.heap.size,4,none⟩=some (.nilFunc):=(boxN hb 4).1;have g5:w1.cell? ⟨w.heap.size,5,none⟩=some (.nilFunc):=(boxN hb 5).1;have g6:w1.cell? ⟨w.heap.size,6,none⟩=some (.string ⟨#[]⟩):=(boxN hb 6).1;have c0:w1.cell? ⟨B+1+1+1,14,none⟩=some (.int .i64 0):=hc 14;have c1:w1.cell? ⟨B+1+1+1,15,none⟩=some (.int .i64 0):=hc 15;have c2:w1.cell? ⟨B+1+1+1,16,none⟩=some (.func (.func 233) #[] #[]):=hc 16;have c3:w1.cell? ⟨B+1+1+1,17,none⟩=some (.func (.func 291) #[] #[.pointer (some ⟨B+1,0,none⟩)]):=hc 17;have c4:w1.cell? ⟨B+1+1+1,18,none⟩=some (.func (.func 234) #[] #[]):=hc 18;have c5:w1.cell? ⟨B+1+1+1,19,none⟩=some (.func (.func 236) #[] #[]):=hc 19;have c6:w1.cell? ⟨B+1+1+1,20,none⟩=some (.string ⟨#[115]⟩):=hc 20;have HB:=lhd (zfg hb);have HK:=lhd hK;have hBl:w.heap.size<B:=by simp at hB;omega
 have hBn:B+1+1+1≠w.heap.size:=by simp at hB;omega
 have hBn':w.heap.size≠B+1+1+1:=by simp at hB;omega
 clear hc f hb hK;go_wp2_with fail;go_region_held3 (fun w'=>w'.cell? ⟨B+1+1+1,14,none⟩=some (.int .i64 0)∧w'.cell? ⟨B+1+1+1,15,none⟩=some (.int .i64 0)∧w'.cell? ⟨B+1+1+1,16,none⟩=some (.func (.func 233) #[] #[])∧w'.cell? ⟨B+1+1+1,17,none⟩=some (.func (.func 291) #[] #[.pointer (some ⟨B+1,0,none⟩)])∧w'.cell? ⟨B+1+1+1,18,none⟩=some (.func (.func 234) #[] #[])∧w'.cell? ⟨B+1+1+1,19,none⟩=some (.func (.func 236) #[] #[])∧w'.cell? ⟨B+1+1+1,20,none⟩=some (.string ⟨#[115]⟩)) (go_keep) (fail)
 go_wp2_with fail;refine bodyPost_ret (v:=.tuple #[.agg (kd2 B),.bool true]) (by simp[results,Tryz.results120,go_sem,g0,g1,g2,g3,g4,g5,g6,kd2]) rfl (zal.mk (zku (zkv hBl (zkv hBl (zkv hBl (zkv hBl (zkv hBl (zkv hBl (zkv hBl ⟨HK.out,HB.out⟩ _ _) _ _) _ _) _ _) _ _) _ _) _ _)))
theorem zsk (n:Int) (w:World) (h2:0<n):
 Calls Tryz.prog 120 #[.int .i64 2,.int .i64 n] w (zal kd2 false w):=by
 have h1:0≤n:=by omega
 have hd:decide (n≤0)=false:=by simp;omega
 go_enter Tryz.func120,Tryz.ntmps120;go_wp2_with fail;refine(zsa _).mono ?_;rintro e w1 ⟨B,rfl,hB,hK,hc,hb⟩;have f:=fun i=>(boxN hb i).2;have f0:=f 0;have f1:=f 1;have f2:=f 2;have f3:=f 3;have f4:=f 4;have f5:=f 5;have f6:=f 6;have g0:w1.cell? ⟨w.heap.size,0,none⟩=some (.int .i64 0):=(boxN hb 0).1;have g1:w1.cell? ⟨w.heap.size,1,none⟩=some (.int .i64 0):=(boxN hb 1).1;have g2:w1.cell? ⟨w.heap.size,2,none⟩=some (.nilFunc):=(boxN hb 2).1;have g3:w1.cell? ⟨w.heap.size,3,none⟩=some (.nilFunc):=(boxN hb 3).1;have g4:w1.cell? ⟨w.heap.size,4,none⟩=some (.nilFunc):=(boxN hb 4).1;have g5:w1.cell? ⟨w.heap.size,5,none⟩=some (.nilFunc):=(boxN hb 5).1;have g6:w1.cell? ⟨w.heap.size,6,none⟩=some (.string ⟨#[]⟩):=(boxN hb 6).1;have c0:w1.cell? ⟨B+1+1+1,14,none⟩=some (.int .i64 0):=hc 14;have c1:w1.cell? ⟨B+1+1+1,15,none⟩=some (.int .i64 0):=hc 15;have c2:w1.cell? ⟨B+1+1+1,16,none⟩=some (.func (.func 233) #[] #[]):=hc 16;have c3:w1.cell? ⟨B+1+1+1,17,none⟩=some (.func (.func 291) #[] #[.pointer (some ⟨B+1,0,none⟩)]):=hc 17;have c4:w1.cell? ⟨B+1+1+1,18,none⟩=some (.func (.func 234) #[] #[]):=hc 18;have c5:w1.cell? ⟨B+1+1+1,19,none⟩=some (.func (.func 236) #[] #[]):=hc 19;have c6:w1.cell? ⟨B+1+1+1,20,none⟩=some (.string ⟨#[115]⟩):=hc 20;have HB:=lhd (zfg hb);have HK:=lhd hK;have hBl:w.heap.size<B:=by simp at hB;omega
 have hBn:B+1+1+1≠w.heap.size:=by simp at hB;omega
 have hBn':w.heap.size≠B+1+1+1:=by simp at hB;omega
 clear hc f hb hK;go_wp2_with fail;go_region_held3 (fun w'=>w'.cell? ⟨B+1+1+1,14,none⟩=some (.int .i64 0)∧w'.cell? ⟨B+1+1+1,15,none⟩=some (.int .i64 0)∧w'.cell? ⟨B+1+1+1,16,none⟩=some (.func (.func 233) #[] #[])∧w'.cell? ⟨B+1+1+1,17,none⟩=some (.func (.func 291) #[] #[.pointer (some ⟨B+1,0,none⟩)])∧w'.cell? ⟨B+1+1+1,18,none⟩=some (.func (.func 234) #[] #[])∧w'.cell? ⟨B+1+1+1,19,none⟩=some (.func (.func 236) #[] #[])∧w'.cell? ⟨B+1+1+1,20,none⟩=some (.string ⟨#[115]⟩)) (go_keep) (fail)
 go_wp2_with fail;refine bodyPost_ret (v:=.tuple #[.agg (kd2 B),.bool false]) (by simp[results,Tryz.results120,go_sem,g0,g1,g2,g3,g4,g5,g6,kd2]) rfl (zal.mk (zku (zkv hBl (zkv hBl (zkv hBl (zkv hBl (zkv hBl (zkv hBl (zkv hBl ⟨HK.out,HB.out⟩ _ _) _ _) _ _) _ _) _ _) _ _) _ _)))
theorem zsp (w:World):
 Calls Tryz.prog 120 #[.int .i64 3,.int .i64 0] w (zal kd3 true w):=by
 go_enter Tryz.func120,Tryz.ntmps120;go_wp2_with fail;refine(zsa _).mono ?_;rintro e w1 ⟨B,rfl,hB,hK,hc,hb⟩;have f:=fun i=>(boxN hb i).2;have f0:=f 0;have f1:=f 1;have f2:=f 2;have f3:=f 3;have f4:=f 4;have f5:=f 5;have f6:=f 6;have g0:w1.cell? ⟨w.heap.size,0,none⟩=some (.int .i64 0):=(boxN hb 0).1;have g1:w1.cell? ⟨w.heap.size,1,none⟩=some (.int .i64 0):=(boxN hb 1).1;have g2:w1.cell? ⟨w.heap.size,2,none⟩=some (.nilFunc):=(boxN hb 2).1;have g3:w1.cell? ⟨w.heap.size,3,none⟩=some (.nilFunc):=(boxN hb 3).1;have g4:w1.cell? ⟨w.heap.size,4,none⟩=some (.nilFunc):=(boxN hb 4).1;have g5:w1.cell? ⟨w.heap.size,5,none⟩=some (.nilFunc):=(boxN hb 5).1;have g6:w1.cell? ⟨w.heap.size,6,none⟩=some (.string ⟨#[]⟩):=(boxN hb 6).1;have c0:w1.cell? ⟨B+1+1+1,21,none⟩=some (.int .i64 0):=hc 21;have c1:w1.cell? ⟨B+1+1+1,22,none⟩=some (.int .i64 0):=hc 22;have c2:w1.cell? ⟨B+1+1+1,23,none⟩=some (.func (.func 237) #[] #[]):=hc 23;have c3:w1.cell? ⟨B+1+1+1,24,none⟩=some (.func (.func 291) #[] #[.pointer (some ⟨B+1+1,0,none⟩)]):=hc 24;have c4:w1.cell? ⟨B+1+1+1,25,none⟩=some (.func (.func 238) #[] #[]):=hc 25;have c5:w1.cell? ⟨B+1+1+1,26,none⟩=some (.func (.func 239) #[] #[]):=hc 26;have c6:w1.cell? ⟨B+1+1+1,27,none⟩=some (.string ⟨#[]⟩):=hc 27;have HB:=lhd (zfg hb);have HK:=lhd hK;have hBl:w.heap.size<B:=by simp at hB;omega
 have hBn:B+1+1+1≠w.heap.size:=by simp at hB;omega
 have hBn':w.heap.size≠B+1+1+1:=by simp at hB;omega
 clear hc f hb hK;go_wp2_with fail;go_region_held3 (fun w'=>w'.cell? ⟨B+1+1+1,21,none⟩=some (.int .i64 0)∧w'.cell? ⟨B+1+1+1,22,none⟩=some (.int .i64 0)∧w'.cell? ⟨B+1+1+1,23,none⟩=some (.func (.func 237) #[] #[])∧w'.cell? ⟨B+1+1+1,24,none⟩=some (.func (.func 291) #[] #[.pointer (some ⟨B+1+1,0,none⟩)])∧w'.cell? ⟨B+1+1+1,25,none⟩=some (.func (.func 238) #[] #[])∧w'.cell? ⟨B+1+1+1,26,none⟩=some (.func (.func 239) #[] #[])∧w'.cell? ⟨B+1+1+1,27,none⟩=some (.string ⟨#[]⟩)) (go_keep) (fail)
 go_wp2_with fail;refine bodyPost_ret (v:=.tuple #[.agg (kd3 B),.bool true]) (by simp[results,Tryz.results120,go_sem,g0,g1,g2,g3,g4,g5,g6,kd3]) rfl (zal.mk (zku (zkv hBl (zkv hBl (zkv hBl (zkv hBl (zkv hBl (zkv hBl (zkv hBl ⟨HK.out,HB.out⟩ _ _) _ _) _ _) _ _) _ _) _ _) _ _)))
theorem zsn (n:Int) (w:World) (h2:0<n):
 Calls Tryz.prog 120 #[.int .i64 3,.int .i64 n] w (zal kd3 false w):=by
 have h1:0≤n:=by omega
 have hd:decide (n≤0)=false:=by simp;omega
 go_enter Tryz.func120,Tryz.ntmps120;go_wp2_with fail;refine(zsa _).mono ?_;rintro e w1 ⟨B,rfl,hB,hK,hc,hb⟩;have f:=fun i=>(boxN hb i).2;have f0:=f 0;have f1:=f 1;have f2:=f 2;have f3:=f 3;have f4:=f 4;have f5:=f 5;have f6:=f 6;have g0:w1.cell? ⟨w.heap.size,0,none⟩=some (.int .i64 0):=(boxN hb 0).1;have g1:w1.cell? ⟨w.heap.size,1,none⟩=some (.int .i64 0):=(boxN hb 1).1;have g2:w1.cell? ⟨w.heap.size,2,none⟩=some (.nilFunc):=(boxN hb 2).1;have g3:w1.cell? ⟨w.heap.size,3,none⟩=some (.nilFunc):=(boxN hb 3).1;have g4:w1.cell? ⟨w.heap.size,4,none⟩=some (.nilFunc):=(boxN hb 4).1;have g5:w1.cell? ⟨w.heap.size,5,none⟩=some (.nilFunc):=(boxN hb 5).1;have g6:w1.cell? ⟨w.heap.size,6,none⟩=some (.string ⟨#[]⟩):=(boxN hb 6).1;have c0:w1.cell? ⟨B+1+1+1,21,none⟩=some (.int .i64 0):=hc 21;have c1:w1.cell? ⟨B+1+1+1,22,none⟩=some (.int .i64 0):=hc 22;have c2:w1.cell? ⟨B+1+1+1,23,none⟩=some (.func (.func 237) #[] #[]):=hc 23;have c3:w1.cell? ⟨B+1+1+1,24,none⟩=some (.func (.func 291) #[] #[.pointer (some ⟨B+1+1,0,none⟩)]):=hc 24;have c4:w1.cell? ⟨B+1+1+1,25,none⟩=some (.func (.func 238) #[] #[]):=hc 25;have c5:w1.cell? ⟨B+1+1+1,26,none⟩=some (.func (.func 239) #[] #[]):=hc 26;have c6:w1.cell? ⟨B+1+1+1,27,none⟩=some (.string ⟨#[]⟩):=hc 27;have HB:=lhd (zfg hb);have HK:=lhd hK;have hBl:w.heap.size<B:=by simp at hB;omega
 have hBn:B+1+1+1≠w.heap.size:=by simp at hB;omega
 have hBn':w.heap.size≠B+1+1+1:=by simp at hB;omega
 clear hc f hb hK;go_wp2_with fail;go_region_held3 (fun w'=>w'.cell? ⟨B+1+1+1,21,none⟩=some (.int .i64 0)∧w'.cell? ⟨B+1+1+1,22,none⟩=some (.int .i64 0)∧w'.cell? ⟨B+1+1+1,23,none⟩=some (.func (.func 237) #[] #[])∧w'.cell? ⟨B+1+1+1,24,none⟩=some (.func (.func 291) #[] #[.pointer (some ⟨B+1+1,0,none⟩)])∧w'.cell? ⟨B+1+1+1,25,none⟩=some (.func (.func 238) #[] #[])∧w'.cell? ⟨B+1+1+1,26,none⟩=some (.func (.func 239) #[] #[])∧w'.cell? ⟨B+1+1+1,27,none⟩=some (.string ⟨#[]⟩)) (go_keep) (fail)
 go_wp2_with fail;refine bodyPost_ret (v:=.tuple #[.agg (kd3 B),.bool false]) (by simp[results,Tryz.results120,go_sem,g0,g1,g2,g3,g4,g5,g6,kd3]) rfl (zal.mk (zku (zkv hBl (zkv hBl (zkv hBl (zkv hBl (zkv hBl (zkv hBl (zkv hBl ⟨HK.out,HB.out⟩ _ _) _ _) _ _) _ _) _ _) _ _) _ _)))
theorem zsf (n:Int) (w:World) (h1:n<1):
 Calls Tryz.prog 120 #[.int .i64 0,.int .i64 n] w (zal kd0 false w):=by
 have hd:decide (1≤n)=false:=by simp;omega
 go_enter Tryz.func120,Tryz.ntmps120;go_wp2_with fail;refine(zsa _).mono ?_;rintro e w1 ⟨B,rfl,hB,hK,hc,hb⟩;have f:=fun i=>(boxN hb i).2;have f0:=f 0;have f1:=f 1;have f2:=f 2;have f3:=f 3;have f4:=f 4;have f5:=f 5;have f6:=f 6;have g0:w1.cell? ⟨w.heap.size,0,none⟩=some (.int .i64 0):=(boxN hb 0).1;have g1:w1.cell? ⟨w.heap.size,1,none⟩=some (.int .i64 0):=(boxN hb 1).1;have g2:w1.cell? ⟨w.heap.size,2,none⟩=some (.nilFunc):=(boxN hb 2).1;have g3:w1.cell? ⟨w.heap.size,3,none⟩=some (.nilFunc):=(boxN hb 3).1;have g4:w1.cell? ⟨w.heap.size,4,none⟩=some (.nilFunc):=(boxN hb 4).1;have g5:w1.cell? ⟨w.heap.size,5,none⟩=some (.nilFunc):=(boxN hb 5).1;have g6:w1.cell? ⟨w.heap.size,6,none⟩=some (.string ⟨#[]⟩):=(boxN hb 6).1;have c0:w1.cell? ⟨B+1+1+1,0,none⟩=some (.int .i64 1):=hc 0;have c1:w1.cell? ⟨B+1+1+1,1,none⟩=some (.int .i64 128):=hc 1;have c2:w1.cell? ⟨B+1+1+1,2,none⟩=some (.func (.func 222) #[] #[]):=hc 2;have c3:w1.cell? ⟨B+1+1+1,3,none⟩=some (.func (.func 223) #[] #[]):=hc 3;have c4:w1.cell? ⟨B+1+1+1,4,none⟩=some (.func (.func 225) #[] #[]):=hc 4;have c5:w1.cell? ⟨B+1+1+1,5,none⟩=some (.func (.func 226) #[] #[]):=hc 5;have c6:w1.cell? ⟨B+1+1+1,6,none⟩=some (.string ⟨#[98]⟩):=hc 6;have HB:=lhd (zfg hb);have HK:=lhd hK;have hBl:w.heap.size<B:=by simp at hB;omega
 have hBn:B+1+1+1≠w.heap.size:=by simp at hB;omega
 have hBn':w.heap.size≠B+1+1+1:=by simp at hB;omega
 clear hc f hb hK;go_wp2_with fail;go_region
 go_wp2_with fail;refine bodyPost_ret (v:=.tuple #[.agg (kd0 B),.bool false]) (by simp[results,Tryz.results120,go_sem,g0,g1,g2,g3,g4,g5,g6,kd0]) rfl (zal.mk (zku (zkv hBl (zkv hBl (zkv hBl (zkv hBl (zkv hBl (zkv hBl (zkv hBl ⟨HK.out,HB.out⟩ _ _) _ _) _ _) _ _) _ _) _ _) _ _)))
theorem zsi (n:Int) (w:World) (h1:n<0):
 Calls Tryz.prog 120 #[.int .i64 1,.int .i64 n] w (zal kd1 false w):=by
 have hd:decide (0≤n)=false:=by simp;omega
 go_enter Tryz.func120,Tryz.ntmps120;go_wp2_with fail;refine(zsa _).mono ?_;rintro e w1 ⟨B,rfl,hB,hK,hc,hb⟩;have f:=fun i=>(boxN hb i).2;have f0:=f 0;have f1:=f 1;have f2:=f 2;have f3:=f 3;have f4:=f 4;have f5:=f 5;have f6:=f 6;have g0:w1.cell? ⟨w.heap.size,0,none⟩=some (.int .i64 0):=(boxN hb 0).1;have g1:w1.cell? ⟨w.heap.size,1,none⟩=some (.int .i64 0):=(boxN hb 1).1;have g2:w1.cell? ⟨w.heap.size,2,none⟩=some (.nilFunc):=(boxN hb 2).1;have g3:w1.cell? ⟨w.heap.size,3,none⟩=some (.nilFunc):=(boxN hb 3).1;have g4:w1.cell? ⟨w.heap.size,4,none⟩=some (.nilFunc):=(boxN hb 4).1;have g5:w1.cell? ⟨w.heap.size,5,none⟩=some (.nilFunc):=(boxN hb 5).1;have g6:w1.cell? ⟨w.heap.size,6,none⟩=some (.string ⟨#[]⟩):=(boxN hb 6).1;have c0:w1.cell? ⟨B+1+1+1,7,none⟩=some (.int .i64 0):=hc 7;have c1:w1.cell? ⟨B+1+1+1,8,none⟩=some (.int .i64 0):=hc 8;have c2:w1.cell? ⟨B+1+1+1,9,none⟩=some (.func (.func 227) #[] #[]):=hc 9;have c3:w1.cell? ⟨B+1+1+1,10,none⟩=some (.func (.func 291) #[] #[.pointer (some ⟨B,0,none⟩)]):=hc 10;have c4:w1.cell? ⟨B+1+1+1,11,none⟩=some (.func (.func 230) #[] #[]):=hc 11;have c5:w1.cell? ⟨B+1+1+1,12,none⟩=some (.func (.func 232) #[] #[]):=hc 12;have c6:w1.cell? ⟨B+1+1+1,13,none⟩=some (.string ⟨#[114]⟩):=hc 13;have HB:=lhd (zfg hb);have HK:=lhd hK;have hBl:w.heap.size<B:=by simp at hB;omega
 have hBn:B+1+1+1≠w.heap.size:=by simp at hB;omega
 have hBn':w.heap.size≠B+1+1+1:=by simp at hB;omega
 clear hc f hb hK;go_wp2_with fail;go_region
 go_wp2_with fail;refine bodyPost_ret (v:=.tuple #[.agg (kd1 B),.bool false]) (by simp[results,Tryz.results120,go_sem,g0,g1,g2,g3,g4,g5,g6,kd1]) rfl (zal.mk (zku (zkv hBl (zkv hBl (zkv hBl (zkv hBl (zkv hBl (zkv hBl (zkv hBl ⟨HK.out,HB.out⟩ _ _) _ _) _ _) _ _) _ _) _ _) _ _)))
theorem zsl (n:Int) (w:World) (h1:n<0):
 Calls Tryz.prog 120 #[.int .i64 2,.int .i64 n] w (zal kd2 false w):=by
 have hd:decide (0≤n)=false:=by simp;omega
 go_enter Tryz.func120,Tryz.ntmps120;go_wp2_with fail;refine(zsa _).mono ?_;rintro e w1 ⟨B,rfl,hB,hK,hc,hb⟩;have f:=fun i=>(boxN hb i).2;have f0:=f 0;have f1:=f 1;have f2:=f 2;have f3:=f 3;have f4:=f 4;have f5:=f 5;have f6:=f 6;have g0:w1.cell? ⟨w.heap.size,0,none⟩=some (.int .i64 0):=(boxN hb 0).1;have g1:w1.cell? ⟨w.heap.size,1,none⟩=some (.int .i64 0):=(boxN hb 1).1;have g2:w1.cell? ⟨w.heap.size,2,none⟩=some (.nilFunc):=(boxN hb 2).1;have g3:w1.cell? ⟨w.heap.size,3,none⟩=some (.nilFunc):=(boxN hb 3).1;have g4:w1.cell? ⟨w.heap.size,4,none⟩=some (.nilFunc):=(boxN hb 4).1;have g5:w1.cell? ⟨w.heap.size,5,none⟩=some (.nilFunc):=(boxN hb 5).1;have g6:w1.cell? ⟨w.heap.size,6,none⟩=some (.string ⟨#[]⟩):=(boxN hb 6).1;have c0:w1.cell? ⟨B+1+1+1,14,none⟩=some (.int .i64 0):=hc 14;have c1:w1.cell? ⟨B+1+1+1,15,none⟩=some (.int .i64 0):=hc 15;have c2:w1.cell? ⟨B+1+1+1,16,none⟩=some (.func (.func 233) #[] #[]):=hc 16;have c3:w1.cell? ⟨B+1+1+1,17,none⟩=some (.func (.func 291) #[] #[.pointer (some ⟨B+1,0,none⟩)]):=hc 17;have c4:w1.cell? ⟨B+1+1+1,18,none⟩=some (.func (.func 234) #[] #[]):=hc 18;have c5:w1.cell? ⟨B+1+1+1,19,none⟩=some (.func (.func 236) #[] #[]):=hc 19;have c6:w1.cell? ⟨B+1+1+1,20,none⟩=some (.string ⟨#[115]⟩):=hc 20;have HB:=lhd (zfg hb);have HK:=lhd hK;have hBl:w.heap.size<B:=by simp at hB;omega
 have hBn:B+1+1+1≠w.heap.size:=by simp at hB;omega
 have hBn':w.heap.size≠B+1+1+1:=by simp at hB;omega
 clear hc f hb hK;go_wp2_with fail;go_region
 go_wp2_with fail;refine bodyPost_ret (v:=.tuple #[.agg (kd2 B),.bool false]) (by simp[results,Tryz.results120,go_sem,g0,g1,g2,g3,g4,g5,g6,kd2]) rfl (zal.mk (zku (zkv hBl (zkv hBl (zkv hBl (zkv hBl (zkv hBl (zkv hBl (zkv hBl ⟨HK.out,HB.out⟩ _ _) _ _) _ _) _ _) _ _) _ _) _ _)))
theorem zso (n:Int) (w:World) (h1:n<0):
 Calls Tryz.prog 120 #[.int .i64 3,.int .i64 n] w (zal kd3 false w):=by
 have hd:decide (0≤n)=false:=by simp;omega
 go_enter Tryz.func120,Tryz.ntmps120;go_wp2_with fail;refine(zsa _).mono ?_;rintro e w1 ⟨B,rfl,hB,hK,hc,hb⟩;have f:=fun i=>(boxN hb i).2;have f0:=f 0;have f1:=f 1;have f2:=f 2;have f3:=f 3;have f4:=f 4;have f5:=f 5;have f6:=f 6;have g0:w1.cell? ⟨w.heap.size,0,none⟩=some (.int .i64 0):=(boxN hb 0).1;have g1:w1.cell? ⟨w.heap.size,1,none⟩=some (.int .i64 0):=(boxN hb 1).1;have g2:w1.cell? ⟨w.heap.size,2,none⟩=some (.nilFunc):=(boxN hb 2).1;have g3:w1.cell? ⟨w.heap.size,3,none⟩=some (.nilFunc):=(boxN hb 3).1;have g4:w1.cell? ⟨w.heap.size,4,none⟩=some (.nilFunc):=(boxN hb 4).1;have g5:w1.cell? ⟨w.heap.size,5,none⟩=some (.nilFunc):=(boxN hb 5).1;have g6:w1.cell? ⟨w.heap.size,6,none⟩=some (.string ⟨#[]⟩):=(boxN hb 6).1;have c0:w1.cell? ⟨B+1+1+1,21,none⟩=some (.int .i64 0):=hc 21;have c1:w1.cell? ⟨B+1+1+1,22,none⟩=some (.int .i64 0):=hc 22;have c2:w1.cell? ⟨B+1+1+1,23,none⟩=some (.func (.func 237) #[] #[]):=hc 23;have c3:w1.cell? ⟨B+1+1+1,24,none⟩=some (.func (.func 291) #[] #[.pointer (some ⟨B+1+1,0,none⟩)]):=hc 24;have c4:w1.cell? ⟨B+1+1+1,25,none⟩=some (.func (.func 238) #[] #[]):=hc 25;have c5:w1.cell? ⟨B+1+1+1,26,none⟩=some (.func (.func 239) #[] #[]):=hc 26;have c6:w1.cell? ⟨B+1+1+1,27,none⟩=some (.string ⟨#[]⟩):=hc 27;have HB:=lhd (zfg hb);have HK:=lhd hK;have hBl:w.heap.size<B:=by simp at hB;omega
 have hBn:B+1+1+1≠w.heap.size:=by simp at hB;omega
 have hBn':w.heap.size≠B+1+1+1:=by simp at hB;omega
 clear hc f hb hK;go_wp2_with fail;go_region
 go_wp2_with fail;refine bodyPost_ret (v:=.tuple #[.agg (kd3 B),.bool false]) (by simp[results,Tryz.results120,go_sem,g0,g1,g2,g3,g4,g5,g6,kd3]) rfl (zal.mk (zku (zkv hBl (zkv hBl (zkv hBl (zkv hBl (zkv hBl (zkv hBl (zkv hBl ⟨HK.out,HB.out⟩ _ _) _ _) _ _) _ _) _ _) _ _) _ _)))
end Go.Proofs.YtfppgpamkdkckaaGreatDoor
