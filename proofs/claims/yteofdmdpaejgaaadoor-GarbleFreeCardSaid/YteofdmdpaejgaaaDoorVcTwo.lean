/- The calculus: blocks that lie beside one another. -/
import Derived.Test.YteofdmdpaejgaaaDoorVcDrawI
import Derived.Test.YteofdmdpaejgaaaDoorVcStruct
import Derived.Test.YteofdmdpaejgaaaDoorVcAppN
namespace Go.Proofs.YteofdmdpaejgaaaDoor.Vc
open Go

section
variable {M : Nat → Prop} {w₀ w w' : World} {L : List (Option Nat × Obj)} {b : Nat} {o : Obj}
/-- a block that was made since, told of too -/
theorem Hp.also (H : Hp M w₀ w L) (hM : w₀.heap.size ≤ b) (h : w.heap[b]? = some o) (hne : ∀ p ∈ L, p.1 ≠ some b) : Hp M w₀ w ((some b, o) :: L) := by
  have H1 : Hp (fun i => M i ∨ i = b) w₀ w L := ⟨H.chg.mono fun _ h => .inl h, fun p hp c hc => (H.own p hp c hc).imp .inl id, H.apart, H.has⟩
  have H2 := H1.hand (.inr rfl) h hne
  exact ⟨H.chg, fun p hp c hc => by
    rcases List.mem_cons.1 hp with rfl | hp
    · cases hc; exact .inr hM
    · exact H.own p hp c hc, H2.apart, H2.has⟩
/-- another block turns -/
theorem Hp.aside (H : Hp M w₀ w L) (h : Chg (· = b) w w') (hM : w₀.heap.size ≤ b) (hne : ∀ p ∈ L, p.1 ≠ some b) : Hp M w₀ w' L := by
  refine ⟨H.chg.own (.inr hM) h, H.own, H.apart, fun p hp c hc => h.blk c _ (fun e => hne p hp (by rw [hc, e])) (H.has p hp c hc)⟩
/-- a row of another type is another block -/
theorem Hp.notRow {cs : Array Value} {T : TypeId} {fr : Nat × Nat} (H : Hp M w₀ w L) (h : w.heap[b]? = some (.cells cs T fr)) (hT : ∀ p ∈ L, ∀ cs' fr', p.2 ≠ .cells cs' T fr') : ∀ p ∈ L, p.1 ≠ some b := by
  intro p hp hb
  have := H.has p hp b hb
  rw [h] at this
  exact hT p hp cs fr (Option.some.inj this).symm
end
end Go.Proofs.YteofdmdpaejgaaaDoor.Vc
