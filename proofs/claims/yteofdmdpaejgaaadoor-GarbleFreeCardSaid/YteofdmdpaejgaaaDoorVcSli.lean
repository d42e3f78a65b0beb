/- The calculus' slices: rows that are read; rows of one's own, to which is appended. -/
import Derived.Test.YteofdmdpaejgaaaDoorVcMore
import Derived.Laws.OwnMore
import Derived.ArgAppend
namespace Go.Proofs.YteofdmdpaejgaaaDoor.Vc
open Go

/-- What a slice's address leads to. -/
def Rd {α : Type} (E : Enc α) (w : World) (a : Option Addr) (l : List α) : Prop :=
  l = [] ∨ ∃ b off cs X fr, a = some ⟨b, off, none⟩ ∧ w.heap[b]? = some (.cells cs X fr) ∧ ∀ i u, (cel E l)[i]? = some u → cs[off + i]? = some u
/-- a slice's address, further on -/
def adr (a : Option Addr) (k : Nat) : Option Addr := a.map (·.add k)
/-- a slice of one's own: its address -/
def ownA (key : Option Nat) : Option Addr := key.map fun g => ⟨g, 0, none⟩
/-- its block -/
def sob {α : Type} (E : Enc α) (T : TypeId) (l : List α) (sp : List Value) : Obj := .cells (cel E l ++ sp).toArray T (0, 0)
/-- what is told of it -/
structure Sl {α : Type} (E : Enc α) (key : Option Nat) (l : List α) (c : Nat) (sp : List Value) : Prop where
  len : l.length * E.s + sp.length = c * E.s
  max : c ≤ maxLen
  nil : key = none → l = [] ∧ c = 0

section
variable {α : Type} {E : Enc α} {w w' : World} {a : Option Addr} {l : List α}
theorem Rd.nil : Rd E w a ([] : List α) := .inl rfl
theorem Rd.ext (h : Rd E w a l) (hE : Ext w w') : Rd E w' a l := by
  rcases h with h | ⟨b, off, cs, X, fr, h1, h2, h3⟩
  · exact .inl h
  · exact .inr ⟨b, off, cs, X, fr, h1, hE.get h2, h3⟩
/-- a part of it -/
theorem Rd.sub (h : Rd E w a l) (i k : Nat) {m : Nat} (hm : m = i → (l.drop i).take k = []) : Rd E w (if m = i then a else adr a (i * E.s)) ((l.drop i).take k) := by
  by_cases e : m = i
  · exact .inl (hm e)
  rw [if_neg e]
  rcases h with h | ⟨b, off, cs, X, fr, h1, h2, h3⟩
  · exact .inl (by rw [h]; simp)
  · refine .inr ⟨b, off + i * E.s, cs, X, fr, by rw [h1]; simp [adr, Addr.add_lit], h2, fun j u hj => ?_⟩
    rw [Nat.add_assoc]
    refine h3 _ _ ?_
    have e1 : cel E l = cel E (l.take i) ++ cel E (l.drop i) := by rw [← cel_append, List.take_append_drop]
    have e2 : cel E (l.drop i) = cel E ((l.drop i).take k) ++ cel E ((l.drop i).drop k) := by rw [← cel_append, List.take_append_drop]
    have hj' := (List.getElem?_eq_some_iff.1 hj).1
    by_cases hi : i ≤ l.length
    · rw [e1, List.getElem?_append_right (by rw [cel_length, List.length_take, Nat.min_eq_left hi]; omega), cel_length, List.length_take, Nat.min_eq_left hi, Nat.add_sub_cancel_left, e2, List.getElem?_append_left hj']
      exact hj
    · rw [List.drop_of_length_le (by omega)] at hj; simp at hj
theorem Rd.take (h : Rd E w a l) (k : Nat) : Rd E w a (l.take k) := by
  rcases h with h | ⟨b, off, cs, X, fr, h1, h2, h3⟩
  · exact .inl (by rw [h]; simp)
  · refine .inr ⟨b, off, cs, X, fr, h1, h2, fun j u hj => h3 _ _ ?_⟩
    have e1 : cel E l = cel E (l.take k) ++ cel E (l.drop k) := by rw [← cel_append, List.take_append_drop]
    rw [e1, List.getElem?_append_left (List.getElem?_eq_some_iff.1 hj).1]; exact hj
theorem Sl.none : Sl E none ([] : List α) 0 [] := ⟨by simp, Nat.zero_le _, fun _ => ⟨rfl, rfl⟩⟩
/-- from a block that lies there -/
theorem Rd.of {b off : Nat} {cs : Array Value} {X : TypeId} {fr : Nat × Nat} (h : w.heap[b]? = some (.cells cs X fr)) (hc : ∀ i u, (cel E l)[i]? = some u → cs[off + i]? = some u) : Rd E w (some ⟨b, off, none⟩) l :=
  .inr ⟨b, off, cs, X, fr, rfl, h, hc⟩
theorem Rd.row {b : Nat} {X : TypeId} {fr : Nat × Nat} (h : w.heap[b]? = some (.cells (cel E l).toArray X fr)) : Rd E w (some ⟨b, 0, none⟩) l :=
  Rd.of h fun i u hu => by simpa using hu
theorem Rd.mine {key : Option Nat} {X : TypeId} {c : Nat} {sp : List Value} (hS : Sl E key l c sp) (h : ∀ g, key = some g → w.heap[g]? = some (sob E X l sp)) : Rd E w (ownA key) l := by
  cases key with
  | none => exact .inl (hS.nil rfl).1
  | some g =>
    refine Rd.of (h g rfl) fun i u hu => ?_
    rw [Nat.zero_add, List.getElem?_toArray, List.getElem?_append_left (List.getElem?_eq_some_iff.1 hu).1]; exact hu
theorem Rd.cells (h : Rd E w a l) {x : Addr} (hx : a = some x) : ∀ j u, (cel E l)[j]? = some u → w.cell? (x.add j) = some u := by
  intro j u hu
  rcases h with h | ⟨b, off, cs, X, fr, h1, h2, h3⟩
  · rw [h] at hu; simp at hu
  · rw [hx] at h1; cases h1
    rw [Addr.add_lit, cell_eq h2]; exact h3 j u hu
theorem Rd.some (h : Rd E w a l) (hl : 0 < l.length) : ∃ x, a = some x := by
  rcases h with h | ⟨b, off, _, _, _, h1, _, _⟩
  · rw [h] at hl; simp at hl
  · exact ⟨_, h1⟩
theorem Sl.some {key : Option Nat} {c : Nat} {sp : List Value} (h : Sl E key l c sp) (hl : 0 < l.length) : ∃ g, key = some g := by
  cases key with
  | none => rw [(h.nil rfl).1] at hl; simp at hl
  | some g => exact ⟨g, rfl⟩
theorem Hp.dropk {M : Nat → Prop} {w₀ : World} {L : List (Option Nat × Obj)} (H : Hp M w₀ w L) (k : Nat) : Hp M w₀ w (L.eraseIdx k) := by
  have hin : ∀ i p, (L.eraseIdx k)[i]? = Option.some p → L[if i < k then i else i + 1]? = Option.some p := fun i p hp => by
    rw [List.getElem?_eraseIdx] at hp; split at hp <;> rename_i h
    · rw [if_pos h]; exact hp
    · rw [if_neg h]; exact hp
  refine ⟨H.chg, fun p hp => H.own p (List.mem_of_mem_eraseIdx hp), fun i j p q b hi hj hp hq => ?_, fun p hp => H.has p (List.mem_of_mem_eraseIdx hp)⟩
  have := H.apart _ _ p q b (hin i p hi) (hin j q hj) hp hq
  by_cases h1 : i < k <;> by_cases h2 : j < k <;> simp only [h1, h2, if_true, if_false] at this <;> omega
theorem Hp.rd {M : Nat → Prop} {w₀ : World} {L : List (Option Nat × Obj)} {k : Nat} {key : Option Nat} {X : TypeId} {c : Nat} {sp : List Value} (H : Hp M w₀ w L) (hk : L[k]? = Option.some (key, sob E X l sp)) (hS : Sl E key l c sp) : Rd E w (ownA key) l :=
  Rd.mine hS fun g hg => H.has _ (List.mem_of_getElem? hk) g hg
end

section
variable {P : Program} {n : Nat} {ρ : Env} {w : World} {d : Option Nat} {t T : TypeId} {pos : String} {after : Array Edge} {g : Option (Nat × Bool)} {x y : Operand} {a : Option Addr}
/-- the address of an element -/
theorem r_idxS {e : TypeId} {z m c j : Nat} {kk : IntKind} {i : Int} {α : Type} {E : Enc α} {l : List α} (hT : sli P T = some (e, z)) (hR : Rd E w a l) (hx : ev n ρ x = .slice a m c) (hy : ev n ρ y = .int kk i) (hi : i = (j : Int)) (hm : m = l.length) (hj : j < l.length) :
    Runs P n ρ ⟨d, .indexAddr T x y, t, pos, after, g⟩ w (.pointer (adr a (j * z))) w := by
  subst hi hm
  obtain ⟨⟨b, off, spot⟩, rfl⟩ := hR.some (by omega)
  have hsp : spot = none := by
    rcases hR with h | ⟨b', off', _, _, _, h1, _, _⟩
    · rw [h] at hj; simp at hj
    · cases h1; rfl
  subst hsp
  unfold sli at hT
  split at hT
  · rename_i e' hu
    simp only [Option.map_eq_some_iff, Prod.mk.injEq] at hT
    obtain ⟨z', hz, rfl, rfl⟩ := hT
    have h1 : (0 : Int) ≤ (j : Int) ∧ (j : Int) < (l.length : Int) := by omega
    simp [Runs, execOp, hx, hy, Instr.indexAt, asIntOf, run_underlying hu, h1, hj, run_siz hz, adr]
  · cases hT
/-- an element that is read -/
theorem r_ldS {α : Type} {E : Enc α} {l : List α} {j k : Nat} {v : α} (hF : Fits P T E) (hR : Rd E w a l) (hx : ev n ρ x = .pointer (adr a k)) (hk : k = j * E.s) (hj : l[j]? = some v) :
    Runs P n ρ ⟨d, .load T x, t, pos, after, g⟩ w (E.val v) w := by
  subst hk
  have hl := (List.getElem?_eq_some_iff.1 hj).1
  rcases hR with h | ⟨b, off, cs, X, fr, rfl, h2, h3⟩
  · rw [h] at hl; simp at hl
  · refine r_load hF h2 (off := off + j * E.s) (by rw [hx]; simp [adr, Addr.add_lit]) fun i hi => ?_
    have := cel_get (E := E) l j i v hj hi
    rw [Nat.add_assoc, h3 (j * E.s + i) ((E.f v)[i]'(by rw [E.len]; exact hi)) (by rw [this]; simp [E.len, hi])]
    simp [E.len, hi]
/-- a part of a slice -/
theorem r_sliceS {e : TypeId} {z m c l h : Nat} {lo hi : Option Operand} (hT : sli P T = some (e, z)) (hx : ev n ρ x = .slice a m c)
    (hl : (∃ o kl i, lo = some o ∧ ev n ρ o = .int kl i ∧ i = (l : Int)) ∨ (lo = none ∧ l = 0)) (hh : (∃ o kh i, hi = some o ∧ ev n ρ o = .int kh i ∧ i = (h : Int)) ∨ (hi = none ∧ h = m)) (h1 : l ≤ h) (h2 : h ≤ c) :
    Runs P n ρ ⟨d, .slice T x lo hi none, t, pos, after, g⟩ w (.slice (if c = l then a else adr a (l * z)) (h - l) (c - l)) w := by
  unfold sli at hT
  split at hT
  · rename_i e' hu
    simp only [Option.map_eq_some_iff, Prod.mk.injEq] at hT
    obtain ⟨z', hz, rfl, rfl⟩ := hT
    have c1 : (0 : Int) ≤ (h : Int) ∧ (h : Int) ≤ (c : Int) := by omega
    have c2 : (0 : Int) ≤ (l : Int) ∧ (l : Int) ≤ (h : Int) := by omega
    have b1 : (Instr.sliceBounds true m c (lo.map (ev n ρ)) (hi.map (ev n ρ)) none).run P w = .ok (l, h, c) w := by
      rcases hl with ⟨o, kl, i, rfl, e1, rfl⟩ | ⟨rfl, rfl⟩ <;> rcases hh with ⟨o', kh, i', rfl, e2, rfl⟩ | ⟨rfl, rfl⟩ <;>
        simp [Instr.sliceBounds, Instr.sliceBound, asIntOf, *]
    simp only [Runs, execOp, hx, Option.map_none, Instr.sliceAt, Instr.slice, Sem.run_bind, run_underlying hu, Result.andThen_ok, Sem.run_pure, b1, run_siz hz, adr]
  · cases hT
end
end Go.Proofs.YteofdmdpaejgaaaDoor.Vc
