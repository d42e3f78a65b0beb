/- The calculus' appends in a region whose order is open, onto a slice that the region itself has made. -/
import Derived.Test.YteofdmdpaejgaaaDoorVcMake
namespace Go.Proofs.YteofdmdpaejgaaaDoor.Vc
open Go

/-- what a call hands back: a slice in new memory -/
def SlRes {α : Type} (E : Enc α) (T : TypeId) (l : List α) (ws : World) (v : Value) (w' : World) : Prop :=
  ∃ key c sp, v = .slice (ownA key) l.length c ∧ Sl E key l c sp ∧ ∀ g, key = some g → ws.heap.size ≤ g ∧ w'.heap[g]? = some (sob E T l sp)
/-- a step of such a region: what is new may be appended to -/
def NewR {α : Type} (E : Enc α) (T : TypeId) (l l2 : List α) (ws w' w'' : World) : Prop :=
  Chg (fun b => ws.heap.size ≤ b) w' w'' ∧ ∀ b, ws.heap.size ≤ b → ∀ o, w'.heap[b]? = some o → w''.heap[b]? = some o ∨ ∃ sp, o = sob E T l sp ∧ l2.length * E.s ≤ sp.length ∧ w''.heap[b]? = some (sob E T (l ++ l2) (sp.drop (l2.length * E.s)))
def slRel {α : Type} (E : Enc α) (T : TypeId) (l : List α) (ws : World) : Rel := fun _ v w' => SlRes E T l ws v w'
section
variable {α : Type} {E : Enc α} {T : TypeId} {l l2 l' : List α} {ws w w' : World} {v : Value} {r : Env} {m : Nat}
theorem SlRes.ext {w1 w2 : World} (h : SlRes E T l ws v w1) (hE : Ext w1 w2) : SlRes E T l ws v w2 := by
  obtain ⟨key, c, sp, h1, h2, h3⟩ := h
  exact ⟨key, c, sp, h1, h2, fun g hg => ⟨(h3 g hg).1, hE.get (h3 g hg).2⟩⟩
theorem SlRes.old {w0 : World} (h : SlRes E T l ws v w') (hs : w0.heap.size ≤ ws.heap.size) : SlRes E T l w0 v w' := by
  obtain ⟨key, c, sp, h1, h2, h3⟩ := h
  exact ⟨key, c, sp, h1, h2, fun g hg => ⟨Nat.le_trans hs (h3 g hg).1, (h3 g hg).2⟩⟩
theorem Hp.res {L : List (Option Nat × Obj)} {k : Nat} {key : Option Nat} {c : Nat} {sp : List Value} (H : Hp No ws w L) (hk : L[k]? = some (key, sob E T l sp)) (hS : Sl E key l c sp) : SlRes E T l ws (.slice (ownA key) l.length c) w :=
  ⟨key, c, sp, rfl, hS, fun g hg => ⟨(H.own _ (List.mem_of_getElem? hk) g hg).resolve_left (fun h => h), H.has _ (List.mem_of_getElem? hk) g hg⟩⟩
theorem Hp.resN {L : List (Option Nat × Obj)} {k q : Nat} {key : Option Nat} {c : Nat} {sp : List Value} (H : Hp No ws w L) (hk : L[k]? = some (key, sob E T l sp)) (hS : Sl E key l c sp) (hq : q = l.length) : SlRes E T l ws (.slice (ownA key) q c) w :=
  hq ▸ H.res hk hS
theorem SlRes.rd (h : SlRes E T l ws v w) : ∃ a c, v = .slice a l.length c ∧ Rd E w a l := by
  obtain ⟨key, c, sp, h1, h2, h3⟩ := h
  exact ⟨_, _, h1, Rd.mine h2 fun g hg => (h3 g hg).2⟩
theorem NewR.ext (h : Ext w w') : NewR E T l l2 ws w w' := ⟨h.chg, fun _ _ _ ho => .inl (h.get ho)⟩
theorem NewR.trans (w1 w2 : World) (h : Ext ws w1) (k : NewR E T l l2 ws w1 w2) : Ext ws w2 :=
  ⟨fun b o _ hb => k.1.blk b o (fun e => by have := lt_of_some hb; omega) (h.get hb), Nat.le_trans h.size k.1.size, k.1.os.trans h.os, k.1.tape.trans h.tape, k.1.output.trans h.output⟩
theorem NewR.bs {w1 w2 : World} (h : NewR E T l l2 ws w1 w2) (hB : bsRel E T l2 m ws r v w1) : bsRel E T l2 m ws r v w2 := by
  obtain ⟨b, h1, h2, h3⟩ := hB
  rcases h.2 b h2 _ h3 with h4 | ⟨sp, h4, h5, h6⟩
  · exact ⟨b, h1, h2, h4⟩
  · refine ⟨b, h1, h2, h6.trans ?_⟩
    have h4' : sob E T l2 [] = sob E T l sp := by rw [← h4]; simp [sob]
    have h7 := sob_len h4'
    have hl : l = [] := by
      have : l.length * E.s = 0 := by simp at h7; omega
      rcases Nat.mul_eq_zero.1 this with h | h
      · exact List.length_eq_zero_iff.1 h
      · have := E.pos; omega
    subst hl
    have h8 : sp.drop (l2.length * E.s) = [] := List.drop_of_length_le (by simp at h7; omega)
    rw [h8]; simp [sob]
/-- a row that begins with a list no longer than l begins with it behind the step, too -/
theorem NewR.sl {w1 w2 : World} (hl : l'.length ≤ l.length) (h : NewR E T l l2 ws w1 w2) (hB : SlRes E T l' ws v w1) : SlRes E T l' ws v w2 := by
  obtain ⟨key, c, sp, h1, h2, h3⟩ := hB
  cases key with
  | none => exact ⟨none, c, sp, h1, h2, fun g hg => by cases hg⟩
  | some g =>
    obtain ⟨h4, h5⟩ := h3 g rfl
    rcases h.2 g h4 _ h5 with h6 | ⟨sp1, h6, h7, h8⟩
    · exact ⟨some g, c, sp, h1, h2, fun b hb => by cases hb; exact ⟨h4, h6⟩⟩
    · have e1 : cel E l' ++ sp = cel E l ++ sp1 := by
        simp only [sob, Obj.cells.injEq] at h6
        exact congrArg Array.toList h6.1
      have e2 : cel E l = cel E l' ++ (cel E l).drop (cel E l').length := by
        have h9 := congrArg (List.take (cel E l').length) e1
        rw [List.take_left, List.take_append_of_le_length (by rw [cel_length, cel_length]; exact Nat.mul_le_mul_right _ hl)] at h9
        conv => lhs; rw [← List.take_append_drop (cel E l').length (cel E l), ← h9]
      have e3 : sob E T (l ++ l2) (sp1.drop (l2.length * E.s)) = sob E T l' ((cel E l).drop (cel E l').length ++ cel E l2 ++ sp1.drop (l2.length * E.s)) := by
        simp only [sob, cel_append]
        conv => lhs; rw [e2]
        simp [List.append_assoc]
      refine ⟨some g, c, _, h1, ⟨?_, h2.max, h2.nil⟩, fun b hb => by cases hb; exact ⟨h4, h8.trans (congrArg some e3)⟩⟩
      have h10 := sob_len e3
      have h11 := sob_len h6
      have h12 := h2.len
      rw [List.length_drop, List.length_append, Nat.add_mul] at h10
      omega
/-- what the append itself gives lies still -/
theorem NewR.app {w1 w2 : World} (h : NewR E T l l2 ws w1 w2) (hB : SlRes E T (l ++ l2) ws v w1) : SlRes E T (l ++ l2) ws v w2 := by
  obtain ⟨key, c, sp, h1, h2, h3⟩ := hB
  refine ⟨key, c, sp, h1, h2, fun g hg => ?_⟩
  obtain ⟨h4, h5⟩ := h3 g hg
  refine ⟨h4, ?_⟩
  rcases h.2 g h4 _ h5 with h6 | ⟨sp1, h6, h7, h8⟩
  · exact h6
  · have e1 : cel E (l ++ l2) ++ sp = cel E l ++ sp1 := by
      simp only [sob, Obj.cells.injEq] at h6
      exact congrArg Array.toList h6.1
    rw [cel_append, List.append_assoc] at e1
    have e2 := List.append_cancel_left e1
    rw [h8, ← e2, List.drop_append_of_le_length (by rw [cel_length]; exact Nat.le_refl _), List.drop_of_length_le (by rw [cel_length]; exact Nat.le_refl _)]; rfl
/-- what a region has made becomes a row of one's own -/
theorem Hp.ownBs {M : Nat → Prop} {w₀ : World} {L : List (Option Nat × Obj)} (H : Hp M w₀ ws L) (hE : Ext ws w') (hm : m = l.length) (hx : m ≤ 16777216) (hB : bsRel E T l m ws r v w') :
    ∃ key, v = .slice (ownA key) m m ∧ Sl E key l m [] ∧ Hp M w₀ w' ((key, sob E T l []) :: L) := by
  obtain ⟨b, h1, h2, h3⟩ := hB
  refine ⟨some b, h1, ⟨by rw [hm]; simp, by simp only [maxLen]; omega, fun h => by cases h⟩, ?_⟩
  exact H.add1 hE h2 (by rw [h3]; simp [sob])
theorem Hp.ownSl {M : Nat → Prop} {w₀ : World} {L : List (Option Nat × Obj)} (H : Hp M w₀ ws L) (hE : Ext ws w') (hB : SlRes E T l ws v w') :
    ∃ key c sp, v = .slice (ownA key) l.length c ∧ Sl E key l c sp ∧ Hp M w₀ w' ((key, sob E T l sp) :: L) := by
  obtain ⟨key, c, sp, h1, h2, h3⟩ := hB
  exact ⟨key, c, sp, h1, h2, H.add hE h3⟩
end
section
variable {α : Type} {E : Enc α} {P : Program} {n : Nat} {ops : Array Oper} {ρ : Env} {ws u : World} {d : Option Nat} {t S T : TypeId} {pos : String} {after : Array Edge} {x y : Operand}
  {l l2 : List α} {c2 m2 by' : Nat} {a2 : Option Addr} {z v1 : Value}
theorem newGives {r : Env} (hC : Ext ws u) (h1 : SlRes E T l ws v1 u) (hT : sli P S = some (T, E.s)) (hz : zer P T = some z) (hzs : z.cells.size = E.s) (hby : byt P T = some by') (hR : Rd E u a2 l2)
    (hx : ev n ρ x = v1) (hy : ev n ρ y = .slice a2 m2 c2) (hm2 : m2 = l2.length) (hb : (l.length + m2) * by' ≤ 140737488355328 ∧ l.length + m2 ≤ 140737488355328) :
    Gives P n ops ρ ⟨d, .call ⟨.builtin .append, #[x, y], #[S, S]⟩, t, pos, after, none⟩ u fun v w' => slRel E T (l ++ l2) ws r v w' ∧ NewR E T l l2 ws u w' := by
  obtain ⟨key, c, sp, rfl, hS, hk⟩ := h1
  obtain ⟨key', c', sp', w', h1, h2, h3, h4⟩ := r_append (d := d) (t := t) (pos := pos) (after := after) (g := none) hT hz hzs hby hS (fun g hg => (hk g hg).2) hR hx rfl hy hm2 hb
  refine Gives.run rfl h1 ?_
  rcases h4 with ⟨hr, rfl, hC', hg⟩ | ⟨hr, g, rfl, hs, hE, hg⟩
  · refine ⟨⟨key', c', sp', by rw [List.length_append, hm2], h2, fun b hb => ⟨(hk b hb).1, by rw [(hg b hb).1, (hg b hb).2]⟩⟩, ⟨fun b o hn ho => hC'.blk b o (fun e => hn (hk b e).1) ho, hC'.size, hC'.os, hC'.tape, hC'.output⟩, fun b _ o ho => ?_⟩
    by_cases e : key' = some b
    · have h5 := (hk b e).2
      rw [h5] at ho; cases ho
      refine .inr ⟨sp, rfl, ?_, (hg b e).1⟩
      have := Nat.mul_le_mul_right E.s hr
      have h6 := hS.len
      rw [Nat.add_mul] at this; omega
    · exact .inl (hC'.blk b o e ho)
  · exact ⟨⟨some g, c', sp', by rw [List.length_append, hm2], h2, fun b hb => by cases hb; exact ⟨Nat.le_trans hC.size hs, hg⟩⟩, NewR.ext hE⟩
end
/-- rows that a call has made stand ahead of those that were there -/
theorem Hp.join {M : Nat → Prop} {w₀ w w' : World} {L L' : List (Option Nat × Obj)} (H : Hp M w₀ w L) (H' : Hp No w w' L') : Hp M w₀ w' (L' ++ L) := by
  have hnew : ∀ p ∈ L', ∀ b, p.1 = some b → w.heap.size ≤ b := fun p hp b hb => (H'.own p hp b hb).resolve_left fun x => x
  refine ⟨H.chg.trans (Ext.chg H'.chg), ?_, ?_, ?_⟩
  · intro p hp b hb
    rcases List.mem_append.1 hp with hp | hp
    · have := hnew p hp b hb; have := H.chg.size; exact .inr (by omega)
    · exact H.own p hp b hb
  · intro i j p q b hi hj hp hq
    rw [List.getElem?_append] at hi hj
    split at hi <;> split at hj
    · exact H'.apart i j p q b hi hj hp hq
    · have h1 := hnew p (List.mem_of_getElem? hi) b hp
      have h2 := H.lt (List.mem_of_getElem? hj) hq
      omega
    · have h1 := hnew q (List.mem_of_getElem? hj) b hq
      have h2 := H.lt (List.mem_of_getElem? hi) hp
      omega
    · have := H.apart _ _ p q b hi hj hp hq; omega
  · intro p hp b hb
    rcases List.mem_append.1 hp with hp | hp
    · exact H'.has p hp b hb
    · exact Ext.get H'.chg (H.has p hp b hb)
theorem Sl.cap {α : Type} {E : Enc α} {key : Option Nat} {l : List α} {c : Nat} {sp : List Value} (h : Sl E key l c sp) : l.length ≤ c :=
  Nat.le_of_mul_le_mul_right (Nat.le_trans (Nat.le_add_right _ _) (Nat.le_of_eq h.len)) E.pos
end Go.Proofs.YteofdmdpaejgaaaDoor.Vc
