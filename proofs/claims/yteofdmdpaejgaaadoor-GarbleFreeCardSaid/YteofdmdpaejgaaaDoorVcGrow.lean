/- The calculus: a row of zeros that is appended to nothing; the complement; the room of a slice. -/
import Derived.Test.YteofdmdpaejgaaaDoorVcNet
import Derived.Lib.AppendZeros
namespace Go.Proofs.YteofdmdpaejgaaaDoor.Vc
open Go

section
variable {α : Type} {E : Enc α} {P : Program} {n : Nat} {ops : Array Oper} {Q : Exit → Act → World → Prop} {rest : List Oper} {ρ : Env} {w w₀ : World} {d : Option Nat} {t S T Y : TypeId} {pos : String} {after : Array Edge} {x y : Operand} {g : Option (Nat × Bool)}
  {M : Nat → Prop} {L : List (Option Nat × Obj)} {z : Value} {z0 : α} {m by' : Nat}
theorem zero_cel (hz : z.cells.toList = E.f z0) (k : Nat) : (Builtin.zeroCells z.cells k).toList = cel E (List.replicate k z0) := by
  have hsz : z.cells.size = E.s := by rw [← Array.length_toList, hz, E.len]
  have h := made_cel (E := E) hz k
  have e : Builtin.zeroCells z.cells k = madeCells z.cells (k * E.s) := by
    apply Array.ext
    · rw [size_zeroCells, size_madeCells, hsz]
    · intro i h1 h2
      simp [Builtin.zeroCells, madeCells]
  rw [e, h]
/-- 'append(nil, make(.., m)...)' -/
theorem q_appZ {kl : IntKind} (H : Hp M w₀ w L) (hT : sli P S = some (T, E.s)) (hY : P.underlying Y = some (.int kl)) (hz : zer P T = some z) (hz0 : z.cells.toList = E.f z0) (hby : byt P T = some by') (hx : ev n ρ x = .slice none 0 0) (hy : ev n ρ y = i64 (m : Nat)) (h0 : 0 < m)
    (hb : m * by' ≤ 140737488355328 ∧ m ≤ 140737488355328)
    (h : ∀ b c sp w', Sl E (some b) ([] : List α) c sp → Hp M w₀ w' ((some b, sob E T ([] : List α) sp) :: L) → Ext w w' → W P n ops Q rest (updo ρ d (.slice (ownA (some b)) m c)) w') :
    W P n ops Q (⟨d, .call ⟨.builtin .append, #[x, y], #[S, Y]⟩, t, pos, after, none⟩ :: rest) ρ w := by
  obtain ⟨hu, i, hi, hz', hs, rfl⟩ := info_of hT hz hby
  have hpos := E.pos
  have hrun := Go.Lib.run_append_nil_zeros (P := P) w S Y t T i z .i64 kl hu hY hi hz' m h0 (by omega) (by omega) (by omega)
  have hge := grownCap_ge w m 0 T
  have hcm := grownCap_le_maxLen w m 0 T (by simp only [maxLen]; omega)
  have hob : Obj.cells (Builtin.zeroCells z.cells m ++ Builtin.zeroCells z.cells (grownCap w m 0 T - m)) T (0, 0) = sob E T ([] : List α) (cel E (List.replicate m z0) ++ cel E (List.replicate (grownCap w m 0 T - m) z0)) := by
    simp only [sob]
    congr 1
    apply Array.ext'
    rw [Array.toList_append, zero_cel hz0, zero_cel hz0]
    simp
  have hrun' : (Builtin.append_ #[S, Y] t #[.slice none 0 0, i64 (m : Nat)]).run P w = .ok (.slice (some ⟨w.heap.size, 0, none⟩) m (grownCap w m 0 T)) (w.drew.alloc (.cells (Builtin.zeroCells z.cells m ++ Builtin.zeroCells z.cells (grownCap w m 0 T - m)) T)) := hrun
  rw [hob] at hrun'
  refine sq (v := .slice (some ⟨w.heap.size, 0, none⟩) m (grownCap w m 0 T)) ?_ (h w.heap.size (grownCap w m 0 T) (cel E (List.replicate m z0) ++ cel E (List.replicate (grownCap w m 0 T - m) z0)) _ ⟨?_, hcm, fun h => by cases h⟩ (H.add1 ((Ext.drew w).trans (Ext.alloc _ _)) (Nat.le_refl _) (alloc_new _ _)) ((Ext.drew w).trans (Ext.alloc _ _)))
  · simp only [Runs, execOp, resolve, hx, hy, invoke, builtin, Sem.run_bind, Sem.run_pure, Result.andThen_ok, List.map_toArray, List.map_cons, List.map_nil, hrun']; rfl
  · rw [List.length_append, cel_length, cel_length, List.length_replicate, List.length_replicate, ← Nat.add_mul]
    simp only [List.length_nil, Nat.zero_mul, Nat.zero_add]
    congr 1; omega
theorem r_com32 {a : BitVec 32} (hx : ev n ρ x = u32 a) : Runs P n ρ ⟨d, .unOp .xor T x, t, pos, after, g⟩ w (u32 (4294967295#32 ^^^ a)) w := by
  have e2 : BitVec.ofInt 32 (a.toNat : Int) = a := by simp
  have hw : ∀ r : BitVec 32, IntKind.u32.wrap (r.toNat : Int) = r.toNat := fun r => by rw [wrapU32]; have := r.isLt; omega
  have e1 : BitVec.ofInt 32 IntKind.u32.max = 4294967295#32 := by decide
  simp [Runs, execOp, hx, u32, Op.unary, Op.intBits, IntKind.bits, IntKind.signed, e1, e2, hw]
  rfl
theorem r_capS {c k : Nat} {a : Option Addr} {e : TypeId} {s : Nat} (hT : sli P T = some (e, s)) (hx : ev n ρ x = .slice a k c) : Runs P n ρ ⟨d, .call ⟨.builtin .cap, #[x], #[T]⟩, t, pos, after, g⟩ w (i64 (c : Nat)) w := by
  unfold sli at hT
  split at hT
  · rename_i e' hu
    simp [Runs, execOp, resolve, hx, invoke, builtin, Builtin.cap_, run_underlying hu, goInt, i64]
  · cases hT
/-- all of a row's elements become room -/
theorem Sl.zero {l : List α} {c : Nat} {sp : List Value} {key : Option Nat} (hS : Sl E key l c sp) : Sl E key ([] : List α) c (cel E l ++ sp) := by
  refine ⟨?_, hS.max, fun h => ⟨rfl, (hS.nil h).2⟩⟩
  rw [List.length_append, cel_length, ← hS.len]; simp
theorem sob_zero (l : List α) (sp : List Value) : sob E T ([] : List α) (cel E l ++ sp) = sob E T l sp := by simp [sob]
end
section
variable {α : Type} {E : Enc α} {P : Program} {n : Nat} {ops : Array Oper} {Q : Exit → Act → World → Prop} {rest : List Oper} {ρ : Env} {w w₀ : World} {d : Option Nat} {t S T : TypeId} {pos : String} {after : Array Edge} {x y : Operand} {g : Option (Nat × Bool)}
  {m c : Nat} {z : Value} {M : Nat → Prop} {L : List (Option Nat × Obj)}
/-- a slice that is made under a guard -/
theorem q_makeSliceG {by' : Nat} {kl kc : IntKind} {i j : Int} {z0 : α} (hw : Region.wanted ⟨d, .makeSlice S x y, t, pos, after, g⟩ (yielded ops (St n ρ).tmps) = true) (H : Hp M w₀ w L) (hT : sli P S = some (T, E.s)) (hz : zer P T = some z) (hz0 : z.cells.toList = E.f z0) (hby : byt P T = some by') (hx : ev n ρ x = .int kl i) (hy : ev n ρ y = .int kc j) (hi : i = (m : Int)) (hj : j = (c : Int)) (hmc : m ≤ c)
    (hb : c * (by' + 1) ≤ 281474976710656)
    (h : ∀ b w', Sl E (some b) (List.replicate m z0) c (cel E (List.replicate (c - m) z0)) → Hp M w₀ w' ((some b, sob E T (List.replicate m z0) (cel E (List.replicate (c - m) z0))) :: L) → Ext w w' → W P n ops Q rest (updo ρ d (.slice (ownA (some b)) m c)) w') :
    W P n ops Q (⟨d, .makeSlice S x y, t, pos, after, g⟩ :: rest) ρ w := by
  refine sqAny hw (r_makeSlice hT hz hby hx hy hi hj hmc hb) (h _ _ ⟨?_, ?_, fun h => by cases h⟩ ?_ (Ext.alloc _ _))
  · rw [List.length_replicate, cel_length, List.length_replicate, ← Nat.add_mul]; congr 1; omega
  · rw [Nat.mul_add, Nat.mul_one] at hb; simp only [maxLen]; omega
  · have := H.alloc (.cells (madeCells z.cells (c * E.s)) T (0, 0))
    rw [made_cel hz0] at this
    have e : sob E T (List.replicate m z0) (cel E (List.replicate (c - m) z0)) = .cells (cel E (List.replicate c z0)).toArray T (0, 0) := by
      rw [sob, ← cel_append, List.replicate_append_replicate, Nat.add_sub_cancel' hmc]
    rw [e, ← made_cel hz0]; rwa [← made_cel hz0] at this
end
end Go.Proofs.YteofdmdpaejgaaaDoor.Vc
