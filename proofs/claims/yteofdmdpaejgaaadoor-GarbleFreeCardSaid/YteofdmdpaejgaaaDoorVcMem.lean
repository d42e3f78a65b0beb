/- The calculus' memory: what is there, what stays, and the operations that load, store and make cells. -/
import Derived.Test.YteofdmdpaejgaaaDoorVcInt
namespace Go.Proofs.YteofdmdpaejgaaaDoor.Vc
open Go

/-- What was there stays, but for the blocks of M. -/
structure Chg (M : Nat → Prop) (w w' : World) : Prop where
  blk : ∀ b o, ¬ M b → w.heap[b]? = some o → w'.heap[b]? = some o
  size : w.heap.size ≤ w'.heap.size
  os : w'.os = w.os
  tape : w'.tape = w.tape
  output : w'.output = w.output

def No : Nat → Prop := fun _ => False
abbrev Ext (w w' : World) : Prop := Chg No w w'

theorem Chg.refl (M : Nat → Prop) (w : World) : Chg M w w := ⟨fun _ _ _ h => h, Nat.le_refl _, rfl, rfl, rfl⟩
theorem Chg.trans {M : Nat → Prop} {a b c : World} (h : Chg M a b) (k : Chg M b c) : Chg M a c :=
  ⟨fun i o hn hi => k.blk i o hn (h.blk i o hn hi), Nat.le_trans h.size k.size, k.os.trans h.os, k.tape.trans h.tape, k.output.trans h.output⟩
theorem Chg.mono {M M' : Nat → Prop} {a b : World} (h : Chg M a b) (hm : ∀ i, M i → M' i) : Chg M' a b :=
  ⟨fun i o hn hi => h.blk i o (fun x => hn (hm i x)) hi, h.size, h.os, h.tape, h.output⟩
theorem Ext.chg {M : Nat → Prop} {a b : World} (h : Ext a b) : Chg M a b := h.mono fun _ x => x.elim
theorem Ext.get {a b : World} (h : Ext a b) {i : Nat} {o : Obj} (hi : a.heap[i]? = some o) : b.heap[i]? = some o := h.blk i o (fun x => x) hi
theorem lt_of_some {w : World} {i : Nat} {o : Obj} (h : w.heap[i]? = some o) : i < w.heap.size := by
  rcases Nat.lt_or_ge i w.heap.size with h' | h'
  · exact h'
  · rw [Array.getElem?_eq_none h'] at h; cases h
theorem Ext.below {a b : World} (h : Ext a b) : RowKit.Below a.heap.size a b :=
  ⟨h.os, h.tape, h.output, h.size, fun k hk => by rw [Array.getElem?_eq_getElem hk]; exact h.get (Array.getElem?_eq_getElem hk)⟩
/-- blocks that are new may turn -/
theorem Chg.own {M : Nat → Prop} {a b c : World} {i : Nat} (h : Chg M a b) (hi : M i ∨ a.heap.size ≤ i) (k : Chg (· = i) b c) : Chg M a c :=
  ⟨fun j o hn hj => k.blk j o (fun e => by
      rcases hi with hi | hi
      · exact hn (e ▸ hi)
      · have := lt_of_some hj; omega) (h.blk j o hn hj), Nat.le_trans h.size k.size, k.os.trans h.os, k.tape.trans h.tape, k.output.trans h.output⟩
theorem Ext.drew (w : World) : Ext w { w with drawn := w.drawn + 1 } := ⟨fun _ _ _ h => h, Nat.le_refl _, rfl, rfl, rfl⟩
theorem Ext.alloc (w : World) (o : Obj) : Ext w (w.alloc o) :=
  ⟨fun i x _ h => by
    have := lt_of_some h
    simp only [World.alloc, Array.getElem?_push]
    rw [if_neg (by omega)]; exact h, by simp, rfl, rfl, rfl⟩
theorem alloc_new (w : World) (o : Obj) : (w.alloc o).heap[w.heap.size]? = some o := by simp only [World.alloc]; exact Array.getElem?_push_size

/-- A world with one block as said. -/
def setBlk (w : World) (b : Nat) (o : Obj) : World := { w with heap := w.heap.setIfInBounds b o }
theorem Chg.setBlk (w : World) (b : Nat) (o : Obj) : Chg (· = b) w (setBlk w b o) :=
  ⟨fun i x hn h => by simp only [Vc.setBlk]; rw [Array.getElem?_setIfInBounds_ne (fun e => hn e.symm)]; exact h, by simp [Vc.setBlk], rfl, rfl, rfl⟩
theorem setBlk_new {w : World} {b : Nat} {o o' : Obj} (h : w.heap[b]? = some o) : (setBlk w b o').heap[b]? = some o' := by
  have := lt_of_some h
  simp [setBlk, this]
theorem setBlk_self {w : World} {b : Nat} {o : Obj} (h : w.heap[b]? = some o) : setBlk w b o = w := by
  have e : w.heap.setIfInBounds b o = w.heap := by
    apply Array.ext_getElem?
    intro j
    by_cases e : j = b
    · subst e; rw [Array.getElem?_setIfInBounds, if_pos rfl, if_pos (lt_of_some h), h]
    · rw [Array.getElem?_setIfInBounds_ne (Ne.symm e)]
  simp only [setBlk, e]
theorem setBlk_two (w : World) (b : Nat) (o o' : Obj) : setBlk (setBlk w b o) b o' = setBlk w b o' := by
  simp only [setBlk]
  congr 1
  apply Array.ext_getElem?
  intro i
  by_cases h : i = b
  · subst h
    simp only [Array.getElem?_setIfInBounds]
    simp
  · simp only [Array.getElem?_setIfInBounds_ne (Ne.symm h)]

theorem setCell_eq {w : World} {b off : Nat} {cs : Array Value} {T : TypeId} {fr : Nat × Nat} {v : Value} (h : w.heap[b]? = some (.cells cs T fr)) :
    w.setCell ⟨b, off, none⟩ v = setBlk w b (.cells (cs.setIfInBounds off v) T fr) := by
  simp only [World.setCell, setBlk]
  congr 1
  apply Array.ext_getElem?
  intro i
  have hb := lt_of_some h
  by_cases e : i = b
  · subst e
    rw [Array.getElem?_modify, if_pos rfl, h, Array.getElem?_setIfInBounds]
    simp [hb]
  · rw [Array.getElem?_setIfInBounds_ne (Ne.symm e), Array.getElem?_modify, if_neg (fun x => e x.symm)]

/-- WHAT A PIECE OF CODE KNOWS OF MEMORY: what has become of the world in which it began, and blocks of its own, each by its own number (a nil slice has none). -/
structure Hp (M : Nat → Prop) (w₀ w : World) (L : List (Option Nat × Obj)) : Prop where
  chg : Chg M w₀ w
  own : ∀ p ∈ L, ∀ b, p.1 = some b → M b ∨ w₀.heap.size ≤ b
  apart : ∀ (i j : Nat) (p q : Option Nat × Obj) b, L[i]? = some p → L[j]? = some q → p.1 = some b → q.1 = some b → i = j
  has : ∀ p ∈ L, ∀ b, p.1 = some b → w.heap[b]? = some p.2

section
variable {M : Nat → Prop} {w₀ w w' : World} {L : List (Option Nat × Obj)} {b k : Nat} {o o' : Obj} {key key' : Option Nat}
theorem Hp.start (M : Nat → Prop) (w : World) : Hp M w w [] := ⟨Chg.refl _ _, fun _ h => (by cases h), fun _ _ _ _ _ h => (by simp at h), fun _ h => (by cases h)⟩
theorem Hp.get (H : Hp M w₀ w L) (hk : L[k]? = some (some b, o)) : w.heap[b]? = some o := H.has _ (List.mem_of_getElem? hk) b rfl
theorem Hp.ext (H : Hp M w₀ w L) (h : Ext w w') : Hp M w₀ w' L := ⟨H.chg.trans h.chg, H.own, H.apart, fun p hp b hb => h.get (H.has p hp b hb)⟩
theorem Hp.drew (H : Hp M w₀ w L) : Hp M w₀ { w with drawn := w.drawn + 1 } L := H.ext (Ext.drew w)
theorem Hp.lt (H : Hp M w₀ w L) {p : Option Nat × Obj} (hp : p ∈ L) (hb : p.1 = some b) : b < w.heap.size := lt_of_some (H.has p hp b hb)
/-- a block more, made since -/
theorem Hp.add (H : Hp M w₀ w L) (h : Ext w w') (hb : ∀ b, key = some b → w.heap.size ≤ b ∧ w'.heap[b]? = some o) : Hp M w₀ w' ((key, o) :: L) := by
  refine ⟨H.chg.trans h.chg, ?_, ?_, ?_⟩
  · intro p hp c hc
    rcases List.mem_cons.1 hp with rfl | hp
    · have := (hb c hc).1; have := H.chg.size; exact .inr (by omega)
    · exact H.own p hp c hc
  · intro i j p q c hi hj hp hq
    cases i with
    | zero =>
      cases j with
      | zero => rfl
      | succ j =>
        simp only [List.getElem?_cons_zero, Option.some.injEq] at hi
        subst hi
        have h1 := (hb c hp).1
        have h2 := H.lt (List.mem_of_getElem? (by simpa using hj)) hq
        omega
    | succ i =>
      cases j with
      | zero =>
        simp only [List.getElem?_cons_zero, Option.some.injEq] at hj
        subst hj
        have h1 := (hb c hq).1
        have h2 := H.lt (List.mem_of_getElem? (by simpa using hi)) hp
        omega
      | succ j => rw [H.apart i j p q c (by simpa using hi) (by simpa using hj) hp hq]
  · intro p hp c hc
    rcases List.mem_cons.1 hp with rfl | hp
    · exact (hb c hc).2
    · exact h.get (H.has p hp c hc)
theorem Hp.add1 (H : Hp M w₀ w L) (h : Ext w w') (hb : w.heap.size ≤ b) (ho : w'.heap[b]? = some o) : Hp M w₀ w' ((some b, o) :: L) :=
  H.add h fun c hc => by cases hc; exact ⟨hb, ho⟩
/-- a nil slice has no block -/
theorem Hp.nil (H : Hp M w₀ w L) (o : Obj) : Hp M w₀ w ((none, o) :: L) := H.add (Chg.refl _ _) fun c hc => by cases hc
theorem Hp.alloc (H : Hp M w₀ w L) (o : Obj) : Hp M w₀ (w.alloc o) ((some w.heap.size, o) :: L) := H.add1 (Ext.alloc w o) (Nat.le_refl _) (alloc_new w o)
/-- a block that the call may turn: handed in -/
theorem Hp.start1 {M : Nat → Prop} {w : World} (hM : M b) (h : w.heap[b]? = some o) : Hp M w w [(some b, o)] :=
  ⟨Chg.refl _ _, fun p hp c hc => by simp at hp; subst hp; cases hc; exact .inl hM,
   fun i j p q c hi hj _ _ => by cases i <;> cases j <;> simp at hi hj <;> rfl,
   fun p hp c hc => by simp at hp; subst hp; cases hc; exact h⟩
/-- one more of these -/
theorem Hp.hand (H : Hp M w₀ w L) (hM : M b) (h : w.heap[b]? = some o) (hne : ∀ p ∈ L, p.1 ≠ some b) : Hp M w₀ w ((some b, o) :: L) := by
  refine ⟨H.chg, ?_, ?_, ?_⟩
  · intro p hp c hc
    rcases List.mem_cons.1 hp with rfl | hp
    · cases hc; exact .inl hM
    · exact H.own p hp c hc
  · intro i j p q c hi hj hp hq
    cases i with
    | zero =>
      cases j with
      | zero => rfl
      | succ j =>
        simp only [List.getElem?_cons_zero, Option.some.injEq] at hi
        subst hi
        cases hp
        exact absurd hq (hne q (List.mem_of_getElem? (by simpa using hj)))
    | succ i =>
      cases j with
      | zero =>
        simp only [List.getElem?_cons_zero, Option.some.injEq] at hj
        subst hj
        cases hq
        exact absurd hp (hne p (List.mem_of_getElem? (by simpa using hi)))
      | succ j => rw [H.apart i j p q c (by simpa using hi) (by simpa using hj) hp hq]
  · intro p hp c hc
    rcases List.mem_cons.1 hp with rfl | hp
    · cases hc; exact h
    · exact H.has p hp c hc
/-- one entry has turned: its old block may have changed, its new one is the old one or made since -/
theorem Hp.turn (H : Hp M w₀ w L) (hk : L[k]? = some (key, o)) (h : Chg (fun i => key = some i) w w')
    (ho : ∀ b, key' = some b → (key = some b ∨ w.heap.size ≤ b) ∧ w'.heap[b]? = some o') : Hp M w₀ w' (L.set k (key', o')) := by
  have hlt : k < L.length := (List.getElem?_eq_some_iff.1 hk).1
  have hown : ∀ b, key = some b → M b ∨ w₀.heap.size ≤ b := H.own _ (List.mem_of_getElem? hk)
  have hin : ∀ i p, (L.set k (key', o'))[i]? = some p → (i = k ∧ p = (key', o')) ∨ (i ≠ k ∧ L[i]? = some p) := by
    intro i p hi
    by_cases e : k = i
    · subst e
      rw [List.getElem?_set_self hlt] at hi
      exact .inl ⟨rfl, (Option.some.inj hi).symm⟩
    · rw [List.getElem?_set_ne e] at hi
      exact .inr ⟨fun x => e x.symm, hi⟩
  have hnew : ∀ i p b, i ≠ k → L[i]? = some p → p.1 = some b → key' = some b → False := by
    intro i p b hi hp hb hb'
    rcases (ho b hb').1 with e | e
    · exact hi (H.apart i k p (key, o) b hp hk hb e)
    · have := H.lt (List.mem_of_getElem? hp) hb; omega
  refine ⟨?_, ?_, ?_, ?_⟩
  · refine ⟨fun j x hn hj => h.blk j x (fun e => ?_) (H.chg.blk j x hn hj), Nat.le_trans H.chg.size h.size, h.os.trans H.chg.os, h.tape.trans H.chg.tape, h.output.trans H.chg.output⟩
    rcases hown j e with hi | hi
    · exact hn hi
    · have := lt_of_some hj; omega
  · intro p hp b hb
    obtain ⟨i, hi⟩ := List.getElem?_of_mem hp
    rcases hin i p hi with ⟨_, rfl⟩ | ⟨_, hi⟩
    · rcases (ho b hb).1 with e | e
      · exact hown b e
      · have := H.chg.size; exact .inr (by omega)
    · exact H.own p (List.mem_of_getElem? hi) b hb
  · intro i j p q b hi hj hp hq
    rcases hin i p hi with ⟨ei, rfl⟩ | ⟨ei, hi⟩ <;> rcases hin j q hj with ⟨ej, rfl⟩ | ⟨ej, hj⟩
    · omega
    · exact (hnew j q b ej hj hq hp).elim
    · exact (hnew i p b ei hi hp hq).elim
    · exact H.apart i j p q b hi hj hp hq
  · intro p hp b hb
    obtain ⟨i, hi⟩ := List.getElem?_of_mem hp
    rcases hin i p hi with ⟨_, rfl⟩ | ⟨ei, hi⟩
    · exact (ho b hb).2
    · refine h.blk b p.2 (fun e => ei (H.apart i k p (key, o) b hi hk hb e)) (H.has p (List.mem_of_getElem? hi) b hb)
theorem Hp.set (H : Hp M w₀ w L) (hk : L[k]? = some (some b, o)) (h : Chg (· = b) w w') (ho : w'.heap[b]? = some o') : Hp M w₀ w' (L.set k (some b, o')) :=
  H.turn hk (h.mono fun i e => by rw [e]) fun c hc => by cases hc; exact ⟨.inl rfl, ho⟩
theorem Hp.keep (H : Hp M w₀ w L) {i : Nat} {x : Obj} (hn : ¬ M i) (h : w₀.heap[i]? = some x) : w.heap[i]? = some x := H.chg.blk i x hn h
theorem Hp.keepE (H : Hp No w₀ w L) {i : Nat} {x : Obj} (h : w₀.heap[i]? = some x) : w.heap[i]? = some x := H.chg.blk i x (fun x => x) h
theorem Hp.as (H : Hp M w₀ w L) {L' : List (Option Nat × Obj)} (h : L = L') : Hp M w₀ w L' := h ▸ H
theorem Hp.drop1 {p : Option Nat × Obj} (H : Hp M w₀ w (p :: L)) : Hp M w₀ w L :=
  ⟨H.chg, fun q hq => H.own q (List.mem_cons_of_mem _ hq), fun i j p q b hi hj hp hq => by
    have := H.apart (i + 1) (j + 1) p q b (by simpa using hi) (by simpa using hj) hp hq; omega, fun q hq => H.has q (List.mem_cons_of_mem _ hq)⟩
end

/-! ### types -/
def isOne (P : Program) (T : TypeId) : Bool := match P.underlying T with
  | some (.struct _) | some (.array _ _) | none => false
  | _ => true
def isAgg' (P : Program) (T : TypeId) : Bool := match P.underlying T with
  | some (.struct _) | some (.array _ _) => true
  | _ => false
def siz (P : Program) (T : TypeId) : Option Nat := (P.info? T).map (·.size)
def byt (P : Program) (T : TypeId) : Option Nat := (P.info? T).map (·.bytes)
def zer (P : Program) (T : TypeId) : Option Value := (P.info? T).bind (·.zero)

section
variable {P : Program} {w : World} {T : TypeId}
theorem run_siz {s : Nat} (h : siz P T = some s) : (sizeOf T).run P w = .ok s w := by
  simp only [siz, Option.map_eq_some_iff] at h
  obtain ⟨i, hi, hs⟩ := h
  simp [sizeOf, typeInfo, hi, hs]
theorem run_zer {v : Value} (h : zer P T = some v) : (zeroValue T).run P w = .ok v w := by
  simp only [zer, Option.bind_eq_some_iff] at h
  obtain ⟨i, hi, hs⟩ := h
  simp [zeroValue, typeInfo, hi, hs]
theorem run_one (h : isOne P T = true) : (isAgg T).run P w = .ok false w := by
  unfold isOne at h
  cases hu : P.underlying T with
  | none => rw [hu] at h; cases h
  | some d =>
    rw [hu] at h
    simp only [isAgg, Sem.run_bind, run_underlying hu, Result.andThen_ok]
    cases d <;> first | (cases h; done) | rfl
theorem run_agg (h : isAgg' P T = true) : (isAgg T).run P w = .ok true w := by
  unfold isAgg' at h
  cases hu : P.underlying T with
  | none => rw [hu] at h; cases h
  | some d =>
    rw [hu] at h
    simp only [isAgg, Sem.run_bind, run_underlying hu, Result.andThen_ok]
    cases d <;> first | (cases h; done) | rfl
theorem cell_eq {b off : Nat} {cs : Array Value} {E : TypeId} {fr : Nat × Nat} (h : w.heap[b]? = some (.cells cs E fr)) : w.cell? ⟨b, off, none⟩ = cs[off]? := by
  simp [World.cell?, h]
theorem frozen_eq {b off : Nat} {cs : Array Value} {E : TypeId} (h : w.heap[b]? = some (.cells cs E (0, 0))) : w.frozen? ⟨b, off, none⟩ = false := by
  simp [World.frozen?, h]
theorem run_load1 {b off : Nat} {cs : Array Value} {E : TypeId} {fr : Nat × Nat} {v : Value} (h1 : isOne P T = true) (h : w.heap[b]? = some (.cells cs E fr)) (hv : cs[off]? = some v) :
    (loadVar T ⟨b, off, none⟩).run P w = .ok v w := by
  simp only [loadVar, Sem.run_bind, run_one h1, Result.andThen_ok, Bool.false_eq_true, if_false, run_load, cell_eq h, hv]
theorem run_loadA {b off s : Nat} {cs : Array Value} {E : TypeId} {fr : Nat × Nat} (h1 : isAgg' P T = true) (h2 : siz P T = some s) (h : w.heap[b]? = some (.cells cs E fr)) (hs : off + s ≤ cs.size) :
    (loadVar T ⟨b, off, none⟩).run P w = .ok (.agg (cs.extract off (off + s))) w := by
  simp only [loadVar, Sem.run_bind, run_agg h1, Result.andThen_ok, if_true, run_siz h2]
  rw [run_loadCells w ⟨b, off, none⟩ s (fun j => cs.getD (off + j) undef) (fun j hj => by
    rw [Addr.add_lit, cell_eq h]
    have : off + j < cs.size := by omega
    simp [this])]
  simp only [Result.andThen_ok, Sem.run_pure]
  congr 2
  apply Array.ext
  · simp; omega
  · intro i h1 h2
    simp at h1
    have : off + i < cs.size := by omega
    simp [this]
/-- cells that are set, one behind the other -/
def putR (cs : Array Value) (off : Nat) : List Value → Array Value
  | [] => cs
  | v :: r => putR (cs.setIfInBounds off v) (off + 1) r
theorem size_putR : ∀ (l : List Value) (cs : Array Value) (off : Nat), (putR cs off l).size = cs.size
  | [], _, _ => rfl
  | v :: r, cs, off => by rw [putR, size_putR r]; simp
theorem run_storeCells {b : Nat} {E : TypeId} : ∀ (l : List Value) (w : World) (cs : Array Value) (off i : Nat), (∀ v ∈ l, v.oneCell' = true) →
    w.heap[b]? = some (.cells cs E (0, 0)) → off + i + l.length ≤ cs.size →
    (storeCells ⟨b, off, none⟩ l i).run P w = .ok () (setBlk w b (.cells (putR cs (off + i) l) E (0, 0)))
  | [], w, cs, off, i, _, h, _ => by
    simp only [storeCells, putR, Sem.run_pure, setBlk_self h]
  | v :: r, w, cs, off, i, hv, h, hs => by
    simp only [List.length_cons] at hs
    have hi : off + i < cs.size := by omega
    simp only [storeCells, Sem.run_bind, Addr.add_lit]
    rw [run_store P w _ v .plain (hv v (by simp)), cell_eq h, frozen_eq h, Array.getElem?_eq_getElem hi]
    simp only [Bool.false_eq_true, if_false, Result.andThen_ok]
    rw [setCell_eq h, run_storeCells r _ (cs.setIfInBounds (off + i) v) off (i + 1) (fun u hu => hv u (by simp [hu])) (setBlk_new h) (by simp; omega), setBlk_two]
    rfl
theorem run_storeV {b off : Nat} {cs : Array Value} {E : TypeId} {v : Value} {s : Nat} (h2 : siz P T = some s) (hs : v.cells.size = s) (hone : ∀ u ∈ v.cells.toList, u.oneCell' = true)
    (h : w.heap[b]? = some (.cells cs E (0, 0))) (ho : off + s ≤ cs.size) :
    (storeVar T ⟨b, off, none⟩ v).run P w = .ok () (setBlk w b (.cells (putR cs off v.cells.toList) E (0, 0))) := by
  simp only [storeVar, Sem.run_bind, run_siz h2, Result.andThen_ok, hs, ne_eq, not_true_eq_false, if_false]
  rw [run_storeCells v.cells.toList w cs off 0 hone h (by simp; omega)]
  rfl
end
end Go.Proofs.YteofdmdpaejgaaaDoor.Vc
