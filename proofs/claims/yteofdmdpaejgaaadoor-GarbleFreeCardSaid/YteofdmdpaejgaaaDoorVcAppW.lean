/- The calculus' appends in a walk, and in a region whose order is open; slices that are made. -/
import Derived.Test.YteofdmdpaejgaaaDoorVcApp
namespace Go.Proofs.YteofdmdpaejgaaaDoor.Vc
open Go

/-- an own slice's class of worlds, while the region appends to it: it is as it was, or it is appended to -/
def AppC (key : Option Nat) (ob ob2 : Obj) (w w' : World) : Prop := Chg (fun i => key = some i) w w' ∧ ∀ g, key = some g → w'.heap[g]? = some ob ∨ w'.heap[g]? = some ob2
def AppR (key : Option Nat) (ob ob2 : Obj) (w' w'' : World) : Prop := Chg (fun i => key = some i) w' w'' ∧ ∀ g, key = some g → ∀ o, w'.heap[g]? = some o → w''.heap[g]? = some o ∨ (o = ob ∧ w''.heap[g]? = some ob2)
def ob2 {α : Type} (E : Enc α) (T : TypeId) (l l2 : List α) (c : Nat) (sp : List Value) : Obj := if l.length + l2.length ≤ c then sob E T (l ++ l2) (sp.drop (l2.length * E.s)) else sob E T l sp
/-- what is told of the append -/
def appRel {α : Type} (E : Enc α) (T : TypeId) (key : Option Nat) (l l2 : List α) (m : Nat) (ws : World) : Rel := fun _ v w' =>
  ∃ key' c' sp', v = .slice (ownA key') m c' ∧ Sl E key' (l ++ l2) c' sp' ∧ (l2 ≠ [] → key' ≠ none) ∧ ∀ b, key' = some b → (key = some b ∨ ws.heap.size ≤ b) ∧ w'.heap[b]? = some (sob E T (l ++ l2) sp')
section
variable {α : Type} {E : Enc α} {P : Program} {w w' u : World} {S T : TypeId} {key : Option Nat} {l l2 : List α} {c c2 m m2 : Nat} {sp : List Value} {a2 : Option Addr} {o1 o2 : Obj}
theorem AppC.drew (h : ∀ g, key = some g → w.heap[g]? = some o1) : AppC key o1 o2 w { w with drawn := w.drawn + 1 } := ⟨(Ext.drew w).chg, fun g hg => .inl (h g hg)⟩
theorem AppR.ext (h : Ext w w') : AppR key o1 o2 w w' := ⟨h.chg, fun _ _ _ ho => .inl (h.get ho)⟩
theorem AppR.refl : AppR key o1 o2 w w := AppR.ext (Chg.refl _ _)
theorem AppC.trans (w1 w2 : World) (h : AppC key o1 o2 w w1) (k : AppR key o1 o2 w1 w2) : AppC key o1 o2 w w2 :=
  ⟨h.1.trans k.1, fun g hg => by
    rcases h.2 g hg with h1 | h1
    · rcases k.2 g hg _ h1 with h2 | ⟨_, h2⟩
      · exact .inl h2
      · exact .inr h2
    · rcases k.2 g hg _ h1 with h2 | ⟨_, h2⟩ <;> exact .inr h2⟩
theorem ob2_sob : ∃ sp2, ob2 E T l l2 c sp = sob E T l sp2 ∧ (l.length + l2.length ≤ c → sp2.drop (l2.length * E.s) = sp.drop (l2.length * E.s)) ∧ (Sl E key l c sp → Sl E key l c sp2) := by
  unfold ob2
  split
  · rename_i h
    refine ⟨cel E l2 ++ sp.drop (l2.length * E.s), by simp [sob, cel_append], fun _ => by rw [← cel_length (E := E) l2, List.drop_left], fun hS => ⟨?_, hS.max, hS.nil⟩⟩
    have := hS.len
    have h2 := Nat.mul_le_mul_right E.s h
    rw [Nat.add_mul] at h2
    rw [List.length_append, List.length_drop, cel_length]; omega
  · exact ⟨sp, rfl, fun _ => rfl, fun h => h⟩
/-- in the class, all that is one's own lies as it lay, but for the spare room -/
theorem AppC.hp {M : Nat → Prop} {w₀ : World} {L : List (Option Nat × Obj)} {k : Nat} (hC : AppC key (sob E T l sp) (ob2 E T l l2 c sp) w u) (H : Hp M w₀ w L) (hk : L[k]? = some (key, sob E T l sp)) (hS : Sl E key l c sp) :
    ∃ sp2, Hp M w₀ u (L.set k (key, sob E T l sp2)) ∧ Sl E key l c sp2 ∧ (sp2 = sp ∨ (l.length + l2.length ≤ c ∧ sob E T l sp2 = ob2 E T l l2 c sp)) := by
  obtain ⟨sp2, h1, h2, h3⟩ := ob2_sob (E := E) (T := T) (key := key) (l := l) (l2 := l2) (c := c) (sp := sp)
  cases key with
  | none => exact ⟨sp, H.turn hk hC.1 (fun b hb => by cases hb), hS, .inl rfl⟩
  | some g =>
    rcases hC.2 g rfl with h | h
    · exact ⟨sp, H.turn hk hC.1 (fun b hb => by cases hb; exact ⟨.inl rfl, h⟩), hS, .inl rfl⟩
    · by_cases hr : l.length + l2.length ≤ c
      · rw [h1] at h
        exact ⟨sp2, H.turn hk hC.1 (fun b hb => by cases hb; exact ⟨.inl rfl, h⟩), h3 hS, .inr ⟨hr, h1.symm⟩⟩
      · have : ob2 E T l l2 c sp = sob E T l sp := by unfold ob2; rw [if_neg hr]
        rw [this] at h
        exact ⟨sp, H.turn hk hC.1 (fun b hb => by cases hb; exact ⟨.inl rfl, h⟩), hS, .inl rfl⟩
theorem sob_len {l' : List α} {sp1 sp2 : List Value} (h : sob E T l sp1 = sob E T l' sp2) : l.length * E.s + sp1.length = l'.length * E.s + sp2.length := by
  simp only [sob, Obj.cells.injEq] at h
  have := congrArg Array.size h.1
  simpa [cel_length] using this
theorem appRel_stable {r : Env} {v : Value} {w1 w2 : World} (hR : AppR key (sob E T l sp) (ob2 E T l l2 c sp) w1 w2)
    (h : appRel E T key l l2 m w r v w1) : appRel E T key l l2 m w r v w2 := by
  obtain ⟨key', c', sp', h1, h2, h3, h4⟩ := h
  cases key' with
  | none => exact ⟨none, c', sp', h1, h2, h3, fun b hb => by cases hb⟩
  | some b =>
    obtain ⟨h5, h6⟩ := h4 b rfl
    by_cases e : key = some b
    · rcases hR.2 b e _ h6 with h7 | ⟨h7, h8⟩
      · exact ⟨some b, c', sp', h1, h2, h3, fun b' hb => by cases hb; exact ⟨h5, h7⟩⟩
      · by_cases hr : l.length + l2.length ≤ c
        · refine ⟨some b, c', sp.drop (l2.length * E.s), h1, ⟨?_, h2.max, h2.nil⟩, h3, fun b' hb => by cases hb; refine ⟨h5, ?_⟩; rw [h8]; unfold ob2; rw [if_pos hr]⟩
          have h9 := sob_len h7
          have := h2.len
          rw [List.length_drop]; rw [List.length_append, Nat.add_mul] at *; omega
        · have : ob2 E T l l2 c sp = sob E T l sp := by unfold ob2; rw [if_neg hr]
          exact ⟨some b, c', sp', h1, h2, h3, fun b' hb => by cases hb; exact ⟨h5, by rw [h8, this, ← h7]⟩⟩
    · exact ⟨some b, c', sp', h1, h2, h3, fun b' hb => by cases hb; exact ⟨h5, hR.1.blk b _ e h6⟩⟩
theorem info_of (hT : sli P S = some (T, E.s)) {z : Value} (hz : zer P T = some z) {by' : Nat} (hby : byt P T = some by') : P.underlying S = some (.slice T) ∧ ∃ i, P.info? T = some i ∧ i.zero = some z ∧ i.size = E.s ∧ i.bytes = by' := by
  unfold sli at hT
  split at hT
  · rename_i e hu
    simp only [Option.map_eq_some_iff, Prod.mk.injEq] at hT
    obtain ⟨z', h1, rfl, rfl⟩ := hT
    simp only [siz, Option.map_eq_some_iff] at h1
    obtain ⟨i, hi, h2⟩ := h1
    simp only [zer, hi, Option.bind_some] at hz
    simp only [byt, hi, Option.map_some, Option.some.injEq] at hby
    exact ⟨hu, i, hi, hz, h2, hby⟩
  · cases hT
end
section
variable {α : Type} {E : Enc α} {P : Program} {n : Nat} {ops : Array Oper} {Q : Exit → Act → World → Prop} {rest : List Oper} {ρ : Env} {w w₀ u : World} {d : Option Nat} {t S T : TypeId} {pos : String} {after : Array Edge} {x y : Operand}
  {key : Option Nat} {l l2 : List α} {c c2 m m2 by' : Nat} {sp : List Value} {a2 : Option Addr} {z : Value} {M : Nat → Prop} {L : List (Option Nat × Obj)} {k : Nat} {g : Option (Nat × Bool)}
theorem r_append (hT : sli P S = some (T, E.s)) (hz : zer P T = some z) (hzs : z.cells.size = E.s) (hby : byt P T = some by') (hS : Sl E key l c sp) (hk : ∀ g, key = some g → w.heap[g]? = some (sob E T l sp)) (hR : Rd E w a2 l2)
    (hx : ev n ρ x = .slice (ownA key) m c) (hm : m = l.length) (hy : ev n ρ y = .slice a2 m2 c2) (hm2 : m2 = l2.length) (hb : (m + m2) * by' ≤ 140737488355328 ∧ m + m2 ≤ 140737488355328) :
    ∃ key' c' sp' w', Runs P n ρ ⟨d, .call ⟨.builtin .append, #[x, y], #[S, S]⟩, t, pos, after, g⟩ w (.slice (ownA key') (m + m2) c') w' ∧ Sl E key' (l ++ l2) c' sp' ∧
      (l2 ≠ [] → key' ≠ none) ∧
      ((l.length + l2.length ≤ c ∧ key' = key ∧ Chg (fun i => key = some i) w w' ∧ ∀ g, key = some g → w'.heap[g]? = some (sob E T (l ++ l2) (sp.drop (l2.length * E.s))) ∧ sp' = sp.drop (l2.length * E.s)) ∨
       (c < l.length + l2.length ∧ ∃ g, key' = some g ∧ w.heap.size ≤ g ∧ Ext w w' ∧ w'.heap[g]? = some (sob E T (l ++ l2) sp'))) := by
  subst hm hm2
  obtain ⟨hu, i, hi, hz', hs, rfl⟩ := info_of hT hz hby
  obtain ⟨key', c', sp', w', h1, h2, h3, h4⟩ := run_app (c2 := c2) (ty := t) hu hi hz' hs hzs hS hk hR hb.1 (by simp only [maxLen]; omega)
  exact ⟨key', c', sp', w', by simp [Runs, execOp, resolve, hx, hy, invoke, builtin, h1], h2, h3, h4⟩
theorem q_append (H : Hp M w₀ w L) (hL : L[k]? = some (key, sob E T l sp)) (hS : Sl E key l c sp) (hT : sli P S = some (T, E.s)) (hz : zer P T = some z) (hzs : z.cells.size = E.s) (hby : byt P T = some by') (hR : Rd E w a2 l2)
    (hx : ev n ρ x = .slice (ownA key) m c) (hm : m = l.length) (hy : ev n ρ y = .slice a2 m2 c2) (hm2 : m2 = l2.length) (hb : (m + m2) * by' ≤ 140737488355328 ∧ m + m2 ≤ 140737488355328)
    (h : ∀ key' c' sp' w', Sl E key' (l ++ l2) c' sp' → (l2 ≠ [] → key' ≠ none) → Hp M w₀ w' (L.set k (key', sob E T (l ++ l2) sp')) → W P n ops Q rest (updo ρ d (.slice (ownA key') (m + m2) c')) w') :
    W P n ops Q (⟨d, .call ⟨.builtin .append, #[x, y], #[S, S]⟩, t, pos, after, none⟩ :: rest) ρ w := by
  obtain ⟨key', c', sp', w', h1, h2, h3, h4⟩ := r_append (d := d) (t := t) (pos := pos) (after := after) (g := none) hT hz hzs hby hS (fun g hg => H.has _ (List.mem_of_getElem? hL) g hg) hR hx hm hy hm2 hb
  refine sq h1 (h key' c' sp' w' h2 h3 ?_)
  rcases h4 with ⟨_, rfl, hC, hg⟩ | ⟨_, g, rfl, hs, hE, hg⟩
  · exact H.turn hL hC fun b hb => ⟨.inl hb, by rw [(hg b hb).1, (hg b hb).2]⟩
  · exact H.turn hL hE.chg fun b hb => by cases hb; exact ⟨.inr hs, hg⟩
theorem appGives {r : Env} (hC : AppC key (sob E T l sp) (ob2 E T l l2 c sp) w u) (H : Hp M w₀ w L) (hL : L[k]? = some (key, sob E T l sp)) (hS : Sl E key l c sp) (hT : sli P S = some (T, E.s)) (hz : zer P T = some z) (hzs : z.cells.size = E.s) (hby : byt P T = some by') (hR : Rd E u a2 l2)
    (hx : ev n ρ x = .slice (ownA key) m c) (hm : m = l.length) (hy : ev n ρ y = .slice a2 m2 c2) (hm2 : m2 = l2.length) (hb : (m + m2) * by' ≤ 140737488355328 ∧ m + m2 ≤ 140737488355328) :
    Gives P n ops ρ ⟨d, .call ⟨.builtin .append, #[x, y], #[S, S]⟩, t, pos, after, none⟩ u fun v w' => appRel E T key l l2 (m + m2) w r v w' ∧ AppR key (sob E T l sp) (ob2 E T l l2 c sp) u w' := by
  obtain ⟨sp2, H2, hS2, hs2⟩ := hC.hp H hL hS
  have hk : k < L.length := (List.getElem?_eq_some_iff.1 hL).1
  obtain ⟨key', c', sp', w', h1, h2, h3, h4⟩ := r_append (d := d) (t := t) (pos := pos) (after := after) (g := none) hT hz hzs hby hS2 (fun g hg => H2.has (key, sob E T l sp2) (List.mem_of_getElem? (i := k) (by simp [hk])) g hg) hR hx hm hy hm2 hb
  refine Gives.run rfl h1 ?_
  rcases h4 with ⟨hr, rfl, hC', hg⟩ | ⟨hr, g, rfl, hs, hE, hg⟩
  · refine ⟨⟨key', c', sp', rfl, h2, h3, fun b hb => ⟨.inl hb, by rw [(hg b hb).1, (hg b hb).2]⟩⟩, hC', fun b hb o ho => ?_⟩
    have e : w'.heap[b]? = some (ob2 E T l l2 c sp) := by
      rw [(hg b hb).1]
      rcases hs2 with rfl | ⟨_, h5⟩
      · unfold ob2; rw [if_pos hr]
      · obtain ⟨sp3, h6, h7, _⟩ := ob2_sob (E := E) (T := T) (key := key') (l := l) (l2 := l2) (c := c) (sp := sp)
        have h8 : sp2.drop (l2.length * E.s) = sp.drop (l2.length * E.s) := by
          rw [h6] at h5
          simp only [sob, Obj.cells.injEq] at h5
          have h9 := congrArg Array.toList h5.1
          simp only at h9
          rw [List.append_cancel_left h9, h7 hr]
        rw [h8]; unfold ob2; rw [if_pos hr]
    rcases hC.2 b hb with h5 | h5
    · rw [h5] at ho; cases ho; exact .inr ⟨rfl, e⟩
    · rw [h5] at ho; cases ho; exact .inl e
  · exact ⟨⟨some g, c', sp', rfl, h2, h3, fun b hb => by cases hb; exact ⟨.inr (Nat.le_trans hC.1.size hs), hg⟩⟩, AppR.ext hE⟩
end
end Go.Proofs.YteofdmdpaejgaaaDoor.Vc
