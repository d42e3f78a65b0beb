/- What an error of the program's is: a number, in so many places. -/
import Derived.Test.YteofdmdpaejgaaaDoorVcErr
import Derived.Test.YteofdmdpaejgaaaDoorProg
namespace Go.Proofs.YteofdmdpaejgaaaDoor.Vc
open Go

/-- an error with the number e, in k places, whose blocks aren't below lo -/
def Er (lo : Nat) (w : World) (e : Int) : Nat → Value → Prop
  | 0, v => v = .iface 57 (i64 e)
  | k + 1, v => ∃ (b : Nat) (nm : ByteArray) (at' : Int) (v' : Value), v = .iface 183 (.pointer (some ⟨b, 0, none⟩)) ∧ lo ≤ b ∧ w.heap[b]? = some (.cells #[.string nm, i64 at', i64 ((k + 1 : Nat) : Int), v'] 186 (0, 0)) ∧ Er lo w e k v'
theorem Er.chg {lo : Nat} {M : Nat → Prop} {w w' : World} {e : Int} (hC : Chg M w w') (hM : ∀ b, lo ≤ b → ¬ M b) : ∀ {k : Nat} {v : Value}, Er lo w e k v → Er lo w' e k v
  | 0, _, h => h
  | _ + 1, _, ⟨b, nm, at', v', h1, h2, h3, h4⟩ => ⟨b, nm, at', v', h1, h2, hC.blk _ _ (hM b h2) h3, Er.chg hC hM h4⟩
theorem Er.chgs {lo : Nat} {N : Nat → Prop} {w w' : World} {e : Int} (hC : Chg N w w') (hN : ∀ b, lo ≤ b → b < w.heap.size → ¬ N b) : ∀ {k : Nat} {v : Value}, Er lo w e k v → Er lo w' e k v
  | 0, _, h => h
  | _ + 1, _, ⟨b, nm, at', v', h1, h2, h3, h4⟩ => ⟨b, nm, at', v', h1, h2, hC.blk _ _ (hN b h2 (lt_of_some h3)) h3, Er.chgs hC hN h4⟩
theorem Er.ext {lo : Nat} {w w' : World} {e : Int} {k : Nat} {v : Value} (h : Er lo w e k v) (hE : Ext w w') : Er lo w' e k v := Er.chg hE (fun _ _ x => x) h
theorem Er.mono {lo lo' : Nat} {w : World} {e : Int} (hl : lo' ≤ lo) : ∀ {k : Nat} {v : Value}, Er lo w e k v → Er lo' w e k v
  | 0, _, h => h
  | _ + 1, _, ⟨b, nm, at', v', h1, h2, h3, h4⟩ => ⟨b, nm, at', v', h1, Nat.le_trans hl h2, h3, Er.mono hl h4⟩
theorem Er.iface {lo : Nat} {w : World} {e : Int} : ∀ {k : Nat} {v : Value}, Er lo w e k v → ∃ T x, v = .iface T x
  | 0, _, h => ⟨_, _, h⟩
  | _ + 1, _, ⟨_, _, _, _, h1, _, _, _⟩ => ⟨_, _, h1⟩
/-- what the condition tells of errors.errorType's cell -/
def Gl (w : World) : Prop := ∃ (cs : Array Value) (T : TypeId) (fr : Nat × Nat), w.heap[0]? = some (.cells cs T fr) ∧ cs[0]? = some (.iface 221 (.agg #[typeHandle Tryd.prog 27]))
theorem Chg.gl {M : Nat → Prop} {w w' : World} (h : Chg M w w') (hM : ¬ M 0) (hG : Gl w) : Gl w' := by
  obtain ⟨cs, T, fr, h1, h2⟩ := hG
  exact ⟨cs, T, fr, h.blk _ _ hM h1, h2⟩
theorem Ext.gl {w w' : World} (h : Ext w w') (hG : Gl w) : Gl w' := Chg.gl h (fun x => x) hG
theorem Gl.lt {w : World} (hG : Gl w) : 0 < w.heap.size := by
  obtain ⟨cs, T, fr, h1, _⟩ := hG
  exact lt_of_some h1
end Go.Proofs.YteofdmdpaejgaaaDoor.Vc
