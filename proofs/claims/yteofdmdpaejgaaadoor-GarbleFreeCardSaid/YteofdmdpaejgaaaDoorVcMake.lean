/- The calculus' slices that are made; stores into them. -/
import Derived.Test.YteofdmdpaejgaaaDoorVcAppW
namespace Go.Proofs.YteofdmdpaejgaaaDoor.Vc
open Go

section
variable {α : Type} {E : Enc α}
theorem made_cel {z : Value} {z0 : α} (hz : z.cells.toList = E.f z0) (k : Nat) : madeCells z.cells (k * E.s) = (cel E (List.replicate k z0)).toArray := by
  have hpos := E.pos
  have hsz : z.cells.size = E.s := by rw [← Array.length_toList, hz, E.len]
  apply Array.ext'
  apply List.ext_getElem?
  intro i
  by_cases hi : i < k * E.s
  · have hq : i / E.s < k := Nat.div_lt_of_lt_mul (by rw [Nat.mul_comm]; exact hi)
    have hr : i % E.s < E.s := Nat.mod_lt _ hpos
    have h1 := cel_get (E := E) (List.replicate k z0) (i / E.s) (i % E.s) z0 (by simp [hq]) hr
    rw [Nat.mul_comm, Nat.div_add_mod] at h1
    simp only [Array.getElem?_toList]
    rw [h1, ← hz]
    have hr' : i % E.s < z.cells.size := by omega
    simp only [Array.getElem?_toList]
    rw [Array.getElem?_eq_getElem hr', ← getElem!_pos z.cells (i % E.s) hr']
    simp [madeCells, hi, hsz]
  · have h2 : (cel E (List.replicate k z0)).length = k * E.s := by rw [cel_length, List.length_replicate]
    have h3 : (madeCells z.cells (k * E.s)).toList.length = k * E.s := by rw [Array.length_toList, size_madeCells]
    rw [List.getElem?_eq_none (by omega), List.getElem?_eq_none (by simp only; omega)]
theorem zip_putR (off : Nat) : ∀ (l : List Value) (k : Nat) (cells : Array Value), (l.zipIdx k).foldl (fun cs p => cs.setIfInBounds (off + p.2) p.1) cells = putR cells (off + k) l
  | [], _, _ => by simp [putR]
  | a :: l, k, cells => by
    rw [List.zipIdx_cons, List.foldl_cons, zip_putR off l (k + 1), putR, Nat.add_assoc]
theorem fill_from : ∀ (l pre : List α) (rest : List Value), rest.length = l.length * E.s →
    Instr.fill (fun i => some (i * E.s, E.s)) (cel E pre ++ rest).toArray ((l.zipIdx pre.length).map fun p => (p.2, E.val p.1)) = some (cel E (pre ++ l)).toArray
  | [], pre, rest, h => by
    have : rest = [] := List.length_eq_zero_iff.1 (by simpa using h)
    subst this
    simp [Instr.fill]
  | a :: l, pre, rest, h => by
    have hl : E.s ≤ rest.length := by rw [h, List.length_cons, Nat.add_mul]; omega
    have hz := E.hs a
    have hs1 : (cel E pre ++ rest).toArray.size = pre.length * E.s + rest.length := by simp [cel_length]
    have hs2 : (E.val a).cells.toList.length = E.s := by rw [Array.length_toList, hz]
    have h1 : ¬ ((decide ((E.val a).cells.size ≠ E.s) || decide (pre.length * E.s + (E.val a).cells.size > (cel E pre ++ rest).toArray.size)) = true) := by
      rw [hs1, hz]; simp; omega
    have h2 : (E.val a).cells.zipIdx.foldl (fun cs p => cs.setIfInBounds (pre.length * E.s + p.2) p.1) (cel E pre ++ rest).toArray = (cel E (pre ++ [a]) ++ rest.drop E.s).toArray := by
      rw [← Array.foldl_toList, Array.toList_zipIdx, zip_putR]
      have := putR_append (cel E pre) (rest.take E.s) (E.val a).cells.toList (rest.drop E.s) (by rw [List.length_take, hs2]; omega)
      rw [List.append_assoc, List.take_append_drop, cel_length] at this
      rw [Nat.add_zero, this, cel_append]
      simp [Enc.f]
    rw [List.zipIdx_cons, List.map_cons, Instr.fill]
    simp only [if_neg h1]
    rw [h2]
    have := fill_from l (pre ++ [a]) (rest.drop E.s) (by rw [List.length_drop, h, List.length_cons, Nat.add_mul]; omega)
    rw [List.length_append, List.length_singleton] at this
    rw [this, List.append_assoc]; rfl
/-- a literal of which each part is given -/
theorem fillAll {m : Nat} {f : Nat → Value} {l : List α} {ps : List (Nat × Value)} (hm : m = l.length) (hps : ps = l.zipIdx.map fun p => (p.2, E.val p.1)) :
    Instr.fill (fun i => some (i * E.s, E.s)) ((Array.range (m * E.s)).map f) ps = some (cel E l).toArray := by
  subst hm hps
  have e : ∀ A : Array Value, (cel E ([] : List α) ++ A.toList).toArray = A := fun A => by simp
  have := fill_from (E := E) l [] ((Array.range (l.length * E.s)).map f).toList (by simp)
  rw [e] at this
  exact this
/-- a slice literal -/
def bsRel (E : Enc α) (T : TypeId) (l : List α) (m : Nat) (ws : World) : Rel := fun _ v w' => ∃ b, v = .slice (some ⟨b, 0, none⟩) m m ∧ ws.heap.size ≤ b ∧ w'.heap[b]? = some (.cells (cel E l).toArray T (0, 0))
theorem bsRel_ext {r : Env} {v : Value} {T : TypeId} {l : List α} {m : Nat} {ws w1 w2 : World} (h : Ext w1 w2) (hB : bsRel E T l m ws r v w1) : bsRel E T l m ws r v w2 := by
  obtain ⟨b, h1, h2, h3⟩ := hB
  exact ⟨b, h1, h2, h.get h3⟩
theorem bsRel_app {r : Env} {v : Value} {T : TypeId} {l : List α} {m : Nat} {ws w1 w2 : World} {key : Option Nat} {o1 o2 : Obj} (hk : ∀ g, key = some g → g < ws.heap.size) (h : AppR key o1 o2 w1 w2) (hB : bsRel E T l m ws r v w1) : bsRel E T l m ws r v w2 := by
  obtain ⟨b, h1, h2, h3⟩ := hB
  exact ⟨b, h1, h2, h.1.blk b _ (fun e => by have := hk b e; omega) h3⟩
end
section
variable {α : Type} {E : Enc α} {P : Program} {n : Nat} {ops : Array Oper} {Q : Exit → Act → World → Prop} {rest : List Oper} {ρ : Env} {w w₀ u : World} {d : Option Nat} {t S T : TypeId} {pos : String} {after : Array Edge} {x y : Operand}
  {l : List α} {m c : Nat} {z : Value} {M : Nat → Prop} {L : List (Option Nat × Obj)} {k : Nat} {g : Option (Nat × Bool)}
theorem r_buildSlice {parts : Array (Nat × Operand)} {ps : List (Nat × Value)} {s : Nat} {cs' : Array Value} (hT : sli P S = some (T, s)) (hz : zer P T = some z) (hm : m * s ≤ 16777216) (hp : (parts.toList.map fun q => (q.1, ev n ρ q.2)) = ps)
    (hf : Instr.fill (fun i => some (i * s, s)) ((Array.range (m * s)).map (z.cells[· % z.cells.size]!)) ps = some cs') :
    Runs P n ρ ⟨d, .buildSlice S m parts, t, pos, after, g⟩ w (.slice (some ⟨w.heap.size, 0, none⟩) m m) (w.alloc (.cells cs' T)) := by
  unfold sli at hT
  split at hT
  · rename_i e hu
    simp only [Option.map_eq_some_iff, Prod.mk.injEq] at hT
    obtain ⟨s', hs, rfl, rfl⟩ := hT
    have hps : (parts.map fun q => (q.1, ev n ρ q.2)).toList = ps := by simpa using hp
    have h1 : ¬ (m * s' > 2 ^ 24) := by omega
    by_cases h0 : m * s' = 0
    · have hf' : Instr.fill (fun i => some (i * s', s')) ((Array.range (m * s')).map ((#[] : Array Value)[· % (#[] : Array Value).size]!)) ps = some cs' := by
        rw [← hf]; congr 1; rw [h0]; simp
      simp only [Runs, execOp, Sem.run_bind, Instr.buildSlice, run_underlying hu, Result.andThen_ok, run_siz hs, hps, if_neg h1, if_pos h0, Sem.run_pure, hf']
      rfl
    · simp only [Runs, execOp, Sem.run_bind, Instr.buildSlice, run_underlying hu, Result.andThen_ok, run_siz hs, hps, if_neg h1, if_neg h0, run_zer hz, Sem.run_pure, hf]
      rfl
  · cases hT
theorem q_buildSlice {parts : Array (Nat × Operand)} {ps : List (Nat × Value)} (H : Hp M w₀ w L) (hT : sli P S = some (T, E.s)) (hz : zer P T = some z) (hm : m * E.s ≤ 16777216) (hp : (parts.toList.map fun q => (q.1, ev n ρ q.2)) = ps)
    (hf : Instr.fill (fun i => some (i * E.s, E.s)) ((Array.range (m * E.s)).map (z.cells[· % z.cells.size]!)) ps = some (cel E l).toArray) (hl : m = l.length)
    (h : ∀ b w', Sl E (some b) l m [] → Hp M w₀ w' ((some b, sob E T l []) :: L) → Ext w w' → W P n ops Q rest (updo ρ d (.slice (ownA (some b)) m m)) w') :
    W P n ops Q (⟨d, .buildSlice S m parts, t, pos, after, none⟩ :: rest) ρ w := by
  refine sq (r_buildSlice hT hz hm hp hf) (h _ _ ⟨by rw [hl]; simp, ?_, fun h => by cases h⟩ (by simpa [sob] using H.alloc (.cells (cel E l).toArray T (0, 0))) (Ext.alloc _ _))
  have := Nat.le_of_mul_le_mul_right (Nat.le_trans hm (Nat.le_mul_of_pos_right _ E.pos)) E.pos
  simp only [maxLen]; omega
theorem bsGives {parts : Array (Nat × Operand)} {ps : List (Nat × Value)} {r : Env} {ws : World} {R : World → World → Prop} (hT : sli P S = some (T, E.s)) (hz : zer P T = some z) (hm : m * E.s ≤ 16777216) (hp : (parts.toList.map fun q => (q.1, ev n ρ q.2)) = ps)
    (hf : Instr.fill (fun i => some (i * E.s, E.s)) ((Array.range (m * E.s)).map (z.cells[· % z.cells.size]!)) ps = some (cel E l).toArray) (hs : ws.heap.size ≤ u.heap.size) (hR : ∀ w', Ext u w' → R u w') :
    Gives P n ops ρ ⟨d, .buildSlice S m parts, t, pos, after, none⟩ u fun v w' => bsRel E T l m ws r v w' ∧ R u w' :=
  Gives.run rfl (r_buildSlice hT hz hm hp hf) ⟨⟨_, rfl, hs, alloc_new _ _⟩, hR _ (Ext.alloc _ _)⟩
/-- 'make' -/
theorem r_makeSlice {by' : Nat} {kl kc : IntKind} {i j : Int} (hT : sli P S = some (T, E.s)) (hz : zer P T = some z) (hby : byt P T = some by') (hx : ev n ρ x = .int kl i) (hy : ev n ρ y = .int kc j) (hi : i = (m : Int)) (hj : j = (c : Int)) (hmc : m ≤ c)
    (hb : c * (by' + 1) ≤ 281474976710656) :
    Runs P n ρ ⟨d, .makeSlice S x y, t, pos, after, g⟩ w (.slice (some ⟨w.heap.size, 0, none⟩) m c) (w.alloc (.cells (madeCells z.cells (c * E.s)) T)) := by
  subst hi hj
  obtain ⟨hu, i, hi, hz', hs, rfl⟩ := info_of hT hz hby
  rw [Nat.mul_add, Nat.mul_one] at hb
  have hb' : (i.bytes : Int) * (c : Int) ≤ 281474976710656 := by
    have h : ((i.bytes * c : Nat) : Int) ≤ 281474976710656 := by rw [Nat.mul_comm]; omega
    rwa [Int.natCast_mul] at h
  have hr := run_make (P := P) w S T i z hu hi hz' kl kc m c (by omega) (by omega) hb' (by omega)
  simp only [Int.toNat_natCast, hs] at hr
  simp [Runs, execOp, hx, hy, hr]
theorem q_makeSlice {by' : Nat} {kl kc : IntKind} {i j : Int} {z0 : α} (H : Hp M w₀ w L) (hT : sli P S = some (T, E.s)) (hz : zer P T = some z) (hz0 : z.cells.toList = E.f z0) (hby : byt P T = some by') (hx : ev n ρ x = .int kl i) (hy : ev n ρ y = .int kc j) (hi : i = (m : Int)) (hj : j = (c : Int)) (hmc : m ≤ c)
    (hb : c * (by' + 1) ≤ 281474976710656)
    (h : ∀ b w', Sl E (some b) (List.replicate m z0) c (cel E (List.replicate (c - m) z0)) → Hp M w₀ w' ((some b, sob E T (List.replicate m z0) (cel E (List.replicate (c - m) z0))) :: L) → Ext w w' → W P n ops Q rest (updo ρ d (.slice (ownA (some b)) m c)) w') :
    W P n ops Q (⟨d, .makeSlice S x y, t, pos, after, none⟩ :: rest) ρ w := by
  refine sq (r_makeSlice hT hz hby hx hy hi hj hmc hb) (h _ _ ⟨?_, ?_, fun h => by cases h⟩ ?_ (Ext.alloc _ _))
  · rw [List.length_replicate, cel_length, List.length_replicate, ← Nat.add_mul]; congr 1; omega
  · rw [Nat.mul_add, Nat.mul_one] at hb; simp only [maxLen]; omega
  · have := H.alloc (.cells (madeCells z.cells (c * E.s)) T (0, 0))
    rw [made_cel hz0] at this
    have e : sob E T (List.replicate m z0) (cel E (List.replicate (c - m) z0)) = .cells (cel E (List.replicate c z0)).toArray T (0, 0) := by
      rw [sob, ← cel_append, List.replicate_append_replicate, Nat.add_sub_cancel' hmc]
    rw [e, ← made_cel hz0]; rwa [← made_cel hz0] at this
/-- a store into a slice of one's own -/
theorem d_storeS {key : Option Nat} {sp : List Value} {j q : Nat} {a b : α} {v : Value} (H : Hp M w₀ w L) (hk : L[k]? = some (key, sob E T l sp)) (hS : Sl E key l c sp) (hx : ev n ρ x = .pointer (adr (ownA key) q)) (hq : q = j * E.s) (hy : ev n ρ y = v) (hv : v = E.val b) (h2 : siz P S = some E.s) (hj : l[j]? = some a)
    (h : ∀ w', Sl E key (l.set j b) c sp → Hp M w₀ w' (L.set k (key, sob E T (l.set j b) sp)) → W P n ops Q rest ρ w') :
    W P n ops Q (⟨none, .store S x y, t, pos, after, none⟩ :: rest) ρ w := by
  subst hq hv
  have hl := (List.getElem?_eq_some_iff.1 hj).1
  obtain ⟨g, rfl⟩ := hS.some (by omega)
  refine d_store (k := k) (b := g) (off := j * E.s) (v := E.val b) (cs' := (cel E (l.set j b) ++ sp).toArray) H hk (by rw [hx]; simp [adr, ownA, Addr.add_lit]) hy h2 (E.hs b) (E.one b) ?_ ?_ ?_
  · rw [List.size_toArray, List.length_append, cel_length]
    have := Nat.mul_le_mul_right E.s (show j + 1 ≤ l.length by omega)
    rw [Nat.add_mul, Nat.one_mul] at this; omega
  · have := cel_set (E := E) l j a b hj [] sp
    simpa [Enc.f] using this
  · intro w' H' _
    exact h w' ⟨by simpa using hS.len, hS.max, fun h => by cases h⟩ H'
end
end Go.Proofs.YteofdmdpaejgaaaDoor.Vc
