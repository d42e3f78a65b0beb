/- The calculus' rows of structs, and further built-in functions. -/
import Derived.Test.YteofdmdpaejgaaaDoorVcErr
import Derived.Test.YteofdmdpaejgaaaDoorVcMake
namespace Go.Proofs.YteofdmdpaejgaaaDoor.Vc
open Go

/-- a struct of three integers -/
structure Gt where
  k : Int
  a : Int
  b : Int
def g0 : Gt := ⟨0, 0, 0⟩
def EG : Enc Gt := ⟨fun g => .agg #[i64 g.k, i64 g.a, i64 g.b], 3, by decide, fun _ => rfl, fun a u h => by
  simp [Value.cells] at h
  rcases h with rfl | rfl | rfl <;> rfl⟩
theorem fitsG {P : Program} {T : TypeId} (h1 : siz P T = some 3) (h2 : isAgg' P T = true) : Fits P T EG := ⟨h1, .inr ⟨h2, fun _ => rfl⟩⟩
section
variable {P : Program} {n : Nat} {ρ : Env} {w : World} {d : Option Nat} {t e S D T T' : TypeId} {pos : String} {after : Array Edge} {g : Option (Nat × Bool)} {x y : Operand} {ats : Array TypeId} {a b : Int}
theorem r_maxI (hx : ev n ρ x = i64 a) (hy : ev n ρ y = i64 b) : Runs P n ρ ⟨d, .call ⟨.builtin .max, #[x, y], ats⟩, t, pos, after, g⟩ w (i64 (max a b)) w := by
  have h : (if a < b then b else a) = max a b := by omega
  simp [Runs, execOp, resolve, hx, hy, invoke, builtin, Builtin.max_, Builtin.max2, i64, h]
theorem r_minI (hx : ev n ρ x = i64 a) (hy : ev n ρ y = i64 b) : Runs P n ρ ⟨d, .call ⟨.builtin .min, #[x, y], ats⟩, t, pos, after, g⟩ w (i64 (min a b)) w := by
  have h : (if b < a then b else a) = min a b := by omega
  simp [Runs, execOp, resolve, hx, hy, invoke, builtin, Builtin.min_, Builtin.min2, i64, h]
/-- the address of a field of an element -/
theorem r_fieldS {α : Type} {E : Enc α} {l : List α} {ad : Option Addr} {k k' o z f : Nat} {U : TypeId} (hf : fld P S f = some (o, z, U)) (hz : z ≠ 0) (hR : Rd E w ad l) (hl : 0 < l.length) (hx : ev n ρ x = .pointer (adr ad k)) (hk : k + o = k') :
    Runs P n ρ ⟨d, .fieldAddr S x f, t, pos, after, g⟩ w (.pointer (adr ad k')) w := by
  subst hk
  rcases hR with h | ⟨b, off, cs, X, fr, rfl, _, _⟩
  · rw [h] at hl; simp at hl
  · refine (r_fieldAddr (b := b) (off := off + k) hf hz (by rw [hx]; simp [adr, Addr.add_lit]) rfl).as ?_
    simp [adr, Addr.add_lit, Nat.add_assoc]
/-- one cell of an element -/
theorem r_ldP {α : Type} {E : Enc α} {l : List α} {ad : Option Addr} {j k o : Nat} {v : α} {u : Value} (h1 : isOne P T = true) (hR : Rd E w ad l) (hj : l[j]? = some v) (ho : (E.f v)[o]? = some u) (hx : ev n ρ x = .pointer (adr ad k)) (hk : k = j * E.s + o) :
    Runs P n ρ ⟨d, .load T x, t, pos, after, g⟩ w u w := by
  subst hk
  have hl := (List.getElem?_eq_some_iff.1 hj).1
  have hlo : o < E.s := by have := (List.getElem?_eq_some_iff.1 ho).1; rwa [E.len] at this
  rcases hR with h | ⟨b, off, cs, X, fr, rfl, h2, h3⟩
  · rw [h] at hl; simp at hl
  · refine r_loadC (b := b) (off := off + (j * E.s + o)) h1 h2 (by rw [hx]; simp [adr, Addr.add_lit]) ?_
    exact h3 _ _ ((cel_get (E := E) l j o v hj hlo).trans ho)
end
/-! ### blocks beside one that changes -/
section
variable {M : Nat → Prop} {w₀ w w' : World} {L : List (Option Nat × Obj)}
theorem hpGetSt {i j b c : Nat} {o o2 : Obj} (H : Hp M w₀ w L) (hi : L[i]? = some (some b, o)) (hj : L[j]? = some (some c, o2)) (hij : Nat.beq i j = false) : ∀ w', Chg (· = b) w w' → w'.heap[c]? = some o2 := fun w' hC => by
  refine hC.blk _ _ (fun e => ?_) (H.get hj)
  have e' : c = b := e
  subst e'
  have := H.apart i j _ _ c hi hj rfl rfl
  simp [this] at hij
/-- what has become of a row is no longer known -/
theorem hpLose {i b : Nat} {o : Obj} (H : Hp M w₀ w L) (hi : L[i]? = some (some b, o)) (hC : Chg (· = b) w w') : Hp M w₀ w' (L.eraseIdx i) := by
  have hb : b < w'.heap.size := Nat.lt_of_lt_of_le (H.lt (List.mem_of_getElem? hi) rfl) hC.size
  have h := (H.set (o' := w'.heap[b]) hi hC (Array.getElem?_eq_getElem hb)).dropk i
  have e : (L.set i (some b, w'.heap[b])).eraseIdx i = L.eraseIdx i := by
    apply List.ext_getElem?
    intro k
    rw [List.getElem?_eraseIdx, List.getElem?_eraseIdx]
    split
    · rw [List.getElem?_set_ne (by omega)]
    · rw [List.getElem?_set_ne (by omega)]
  rwa [e] at h
end
/-! ### under a guard -/
section
variable {α : Type} {E : Enc α} {P : Program} {n : Nat} {ops : Array Oper} {Q : Exit → Act → World → Prop} {rest : List Oper} {ρ : Env} {w w₀ : World} {d : Option Nat} {t S T : TypeId} {pos : String} {after : Array Edge} {g : Option (Nat × Bool)}
  {l : List α} {m : Nat} {z : Value} {M : Nat → Prop} {L : List (Option Nat × Obj)}
theorem q_buildSliceG {parts : Array (Nat × Operand)} {ps : List (Nat × Value)} (hw : Region.wanted ⟨d, .buildSlice S m parts, t, pos, after, g⟩ (yielded ops (St n ρ).tmps) = true) (H : Hp M w₀ w L) (hT : sli P S = some (T, E.s)) (hz : zer P T = some z) (hm : m * E.s ≤ 16777216) (hp : (parts.toList.map fun q => (q.1, ev n ρ q.2)) = ps)
    (hf : Instr.fill (fun i => some (i * E.s, E.s)) ((Array.range (m * E.s)).map (z.cells[· % z.cells.size]!)) ps = some (cel E l).toArray) (hl : m = l.length)
    (h : ∀ b w', Sl E (some b) l m [] → Hp M w₀ w' ((some b, sob E T l []) :: L) → Ext w w' → W P n ops Q rest (updo ρ d (.slice (ownA (some b)) m m)) w') :
    W P n ops Q (⟨d, .buildSlice S m parts, t, pos, after, g⟩ :: rest) ρ w := by
  refine sqAny hw (r_buildSlice hT hz hm hp hf) (h _ _ ⟨by rw [hl]; simp, ?_, fun h => by cases h⟩ (by simpa [sob] using H.alloc (.cells (cel E l).toArray T (0, 0))) (Ext.alloc _ _))
  have := Nat.le_of_mul_le_mul_right (Nat.le_trans hm (Nat.le_mul_of_pos_right _ E.pos)) E.pos
  simp only [maxLen]; omega
end
/-- what a guard finds where its own operation wasn't carried out -/
theorem wantedUndef {n : Nat} {ops : Array Oper} {ρ : Env} {d : Option Nat} {op : Op} {t : TypeId} {pos : String} {after : Array Edge} {j d' : Nat} {want : Bool}
    (hj : (ops[j]?).bind (·.dst) = some d') (hd : Nat.blt d' n = true) (hb : ρ d' = undef) :
    Region.wanted ⟨d, op, t, pos, after, some (j, want)⟩ (yielded ops (St n ρ).tmps) = false := by
  have hd' : d' < n := by simpa [Nat.blt_eq] using hd
  have hy : yielded ops (St n ρ).tmps j = none := by
    simp only [yielded, hj, Option.bind_some]
    simp [St, hd', hb, undef]
  show (yielded ops (St n ρ).tmps j == some want) = false
  rw [hy]; rfl
end Go.Proofs.YteofdmdpaejgaaaDoor.Vc
