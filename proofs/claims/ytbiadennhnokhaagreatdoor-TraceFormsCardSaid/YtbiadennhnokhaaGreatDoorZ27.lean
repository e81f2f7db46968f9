import Derived.Test.YtbiadennhnokhaaGreatDoorZ22
set_option maxRecDepth 100000
set_option maxHeartbeats 16000000
namespace Go.Proofs.YtbiadennhnokhaaGreatDoor
open Go.RowKit
set_option linter.unusedSimpArgs false
theorem zjC {W:World} {B e size n b:Nat} {v:Value} {xs:List Value} {C:Array Value} {T:TypeId} {fr:Nat×Nat} (h:W.ownsRow B e size v n xs) (hb:W.heap[b]? =some (.cells C T fr)) (hT:T≠e):v.ownBlock≠some b:=by
 rcases h.2 with⟨rfl,-⟩|⟨g,cap,cur,rfl,-,hg,-⟩
 ·simp[Value.ownBlock]
 ·intro h0;obtain rfl:g=b:=by simpa[Value.ownBlock] using h0
  rw[hb]at hg;injection hg with hg;injection hg with _ h2 _;exact hT h2
def TBox (W:World) (b:Nat):Prop:=∃C,W.heap[b]? =some (.cells C 27 (0,0))
theorem TBox.new (W:World) (C:Array Value):TBox (W.alloc (.cells C 27)) W.heap.size:=⟨C,heap_alloc_new W _⟩
theorem TBox.lt {W:World} {b:Nat} (h:TBox W b):b<W.heap.size:=by
 obtain⟨C,h⟩:=h;exact(Array.getElem?_eq_some_iff.1 h).1
theorem TBox.alloc {W:World} {b:Nat} (h:TBox W b) (o:Obj):TBox (W.alloc o) b:=by
 obtain⟨C,hb⟩:=h;exact⟨C,((World.grownBy_alloc W o none).block b (Array.getElem?_eq_some_iff.1 hb).1 (by simp)).trans hb⟩
theorem TBox.grown {W W2:World} {b:Nat} {row:Option Nat} (h:TBox W b) (hg:W.grownBy W2 row) (hne:row≠some b):TBox W2 b:=by
 obtain⟨C,hb⟩:=h;exact⟨C,(hg.block b (Array.getElem?_eq_some_iff.1 hb).1 (Ne.symm hne)).trans hb⟩
theorem TBox.ne {W:World} {b B e size n:Nat} {v:Value} {xs:List Value} (h:TBox W b) (ho:W.ownsRow B e size v n xs) (hT:27≠e):v.ownBlock≠some b:=by
 obtain⟨C,hb⟩:=h;exact zjC ho hb hT
theorem TBox.set {W:World} {b:Nat} (h:TBox W b) (c j:Nat) (u:Value):TBox (W.setCell ⟨c,j,none⟩ u) b:=by
 obtain⟨C,hb⟩:=h;by_cases hc:c=b
 ·subst hc;exact⟨_,heap_setCell_same W c j C _ u hb⟩
 ·exact⟨C,(heap_setCell_other W ⟨c,j,none⟩ b u (fun h=>hc h.symm)).trans hb⟩
theorem TrO.box {B:Nat} {W:World} {t:Tr} {q:TP} (h:TrO B W t q) {b:Nat} (hb:TBox W b) (j:Nat) (u:Value):TrO B (W.setCell ⟨b,j,none⟩ u) t q:=
 ⟨ownsRow_setCell_other (a:=⟨b,j,none⟩) h.s (hb.ne h.s (by decide)) u,ownsRow_setCell_other (a:=⟨b,j,none⟩) h.v (hb.ne h.v (by decide)) u,ownsRow_setCell_other (a:=⟨b,j,none⟩) h.g (hb.ne h.g (by decide)) u,
  fun x hx=>ownsRow_setCell_other (a:=⟨b,j,none⟩) (h.c x hx) (hb.ne (h.c x hx) (by decide)) u,ownsRow_setCell_other (a:=⟨b,j,none⟩) h.q (hb.ne h.q (by decide)) u,h.m⟩
theorem TrO.alloc {B:Nat} {W:World} {t:Tr} {q:TP} (h:TrO B W t q) (o:Obj):TrO B (W.alloc o) t q:=
 ⟨h.s.alloc o,h.v.alloc o,h.g.alloc o,fun x hx=>(h.c x hx).alloc o,h.q.alloc o,h.m⟩
def BxA (W:World) (b:Nat):Prop:=∃u0 u1 u2 u3 u4 u5 u6 u7 u8,zal W b [u0,u1,u2,u3,u4,u5,u6,u7,u8]∧TBox W b
theorem TBox.below {W W':World} {b:Nat} (h:TBox W b) (hb:Below W.heap.size W W'):TBox W' b:=by
 have hlt:=h.lt;obtain⟨C,h⟩:=h;exact⟨C,(hb.block b hlt).trans h⟩
theorem BxA.below {W W':World} {b:Nat} (h:BxA W b) (hb:Below W.heap.size W W'):BxA W' b:=by
 obtain⟨u0,u1,u2,u3,u4,u5,u6,u7,u8,h1,h2⟩:=h;exact⟨u0,u1,u2,u3,u4,u5,u6,u7,u8,h1.below hb h2.lt,h2.below hb⟩
theorem TrO.nine {B:Nat} {W:World} {t:Tr} {q:TP} (h:TrO B W t q) {b:Nat} (hb:b<B) (u0 u1 u2 u3 u4 u5 u6 u7 u8:Value):TrO B (set9 W b u0 u1 u2 u3 u4 u5 u6 u7 u8) t q:=
 ⟨zmR h.s hb ..,zmR h.v hb ..,zmR h.g hb ..,fun x hx=>zmR (h.c x hx) hb ..,zmR h.q hb ..,h.m⟩
theorem TBox.nine {W:World} {b:Nat} (h:TBox W b) (u0 u1 u2 u3 u4 u5 u6 u7 u8:Value):TBox (set9 W b u0 u1 u2 u3 u4 u5 u6 u7 u8) b:=
 ((((((((h.set _ _ _).set _ _ _).set _ _ _).set _ _ _).set _ _ _).set _ _ _).set _ _ _).set _ _ _).set _ _ _
theorem TrO.drew {B:Nat} {W:World} {t:Tr} {q:TP} (h:TrO B W t q):TrO B W.drew t q:=⟨h.s.drew,h.v.drew,h.g.drew,fun x hx=>(h.c x hx).drew,h.q.drew,h.m⟩
end Go.Proofs.YtbiadennhnokhaaGreatDoor
