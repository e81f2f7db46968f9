/- Plain: inserting into increasing numbers, and a trace that was changed everywhere. -/
import Derived.Test.YtbiadennhnokhaaGreatDoorZ36
import Derived.Test.YtbiadennhnokhaaGreatDoorZ14
namespace Go.Proofs.YtbiadennhnokhaaGreatDoor

/-- what differs in all of its parts -/
structure Changed (t u : Tr) : Prop where
  g : ∀ i (h : i < t.G.length) (h' : i < u.G.length), u.G[i].1 ≠ t.G[i].1
  s : ∀ i (h : i < t.S.length) (h' : i < u.S.length), u.S[i] ≠ t.S[i]
  v : ∀ i (h : i < t.V.length) (h' : i < u.V.length), u.V[i] ≠ t.V[i]
  p : ∀ i (h : i < t.P.length) (h' : i < u.P.length), u.P[i] ≠ t.P[i]
theorem Changed.ne {t u : Tr} (h : Changed t u) (hn : t.G.length + t.S.length + t.V.length + t.P.length ≠ 0) : eqT u t = false := by
  rw [← Bool.not_eq_true, eqT_iff]
  rintro rfl
  have h1 : ¬ 0 < u.G.length := fun h0 => h.g 0 h0 h0 rfl
  have h2 : ¬ 0 < u.S.length := fun h0 => h.s 0 h0 h0 rfl
  have h3 : ¬ 0 < u.V.length := fun h0 => h.v 0 h0 h0 rfl
  have h4 : ¬ 0 < u.P.length := fun h0 => h.p 0 h0 h0 rfl
  omega
end Go.Proofs.YtbiadennhnokhaaGreatDoor
