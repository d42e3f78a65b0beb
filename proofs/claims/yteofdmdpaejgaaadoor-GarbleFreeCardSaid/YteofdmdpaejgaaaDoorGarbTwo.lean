/- Garbled circuits, in plain Lean: what is evaluated. -/
import Derived.Test.YteofdmdpaejgaaaDoorGarbSpec
namespace Go.Proofs.YteofdmdpaejgaaaDoor.Gb
open Go Go.Proofs.YteofdmdpaejgaaaDoor.Vc Go.Proofs.YteofdmdpaejgaaaDoor.Circ

theorem andsS_mono (gs : List Gt) (i d : Nat) : andsS gs i ≤ andsS gs (i + d) := by
  induction d with
  | zero => exact Nat.le_refl _
  | succ d ih => rw [← Nat.add_assoc, andsS]; split <;> omega
theorem andsS_step (gs : List Gt) (i : Nat) (h : i < gs.length) (hk : (gs.getD i g0).k = 2) : andsS gs i + 1 ≤ andsS gs gs.length := by
  have h1 : andsS gs (i + 1) = andsS gs i + 1 := by rw [andsS, if_pos hk]
  have h2 := andsS_mono gs (i + 1) (gs.length - (i + 1))
  rw [show i + 1 + (gs.length - (i + 1)) = gs.length by omega] at h2
  omega
/-- the word of colours -/
def colS (l : List Lb) : Nat → BitVec 64
  | 0 => 0#64
  | i + 1 => colS l i ||| (((l.getD i lb0).1 &&& 1#64) <<< i)
end Go.Proofs.YteofdmdpaejgaaaDoor.Gb
