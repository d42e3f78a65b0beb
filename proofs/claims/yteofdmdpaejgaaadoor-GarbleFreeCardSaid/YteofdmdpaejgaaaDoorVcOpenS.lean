/- The calculus' two ends: an argument that is a slice; a cell of a variable. -/
import Derived.Test.YteofdmdpaejgaaaDoorVcOpen
import Derived.Test.YteofdmdpaejgaaaDoorVcSli
import Derived.Deep.Slices
import Derived.SizedLaws
namespace Go.Proofs.YteofdmdpaejgaaaDoor.Vc
open Go Go.ChangeShapes Go.WideShapes Go.ChangeAt Go.RowKit Go.Deep

theorem cell_some {w : World} {b off : Nat} {v : Value} (h : w.cell? ⟨b, off, none⟩ = some v) : ∃ cs T fr, w.heap[b]? = some (.cells cs T fr) ∧ cs[off]? = some v := by
  unfold World.cell? at h
  split at h
  · rename_i cs T fr hc
    exact ⟨cs, T, fr, hc, h⟩
  · cases h
theorem list_of {α : Type} {p : Nat → α → Prop} : ∀ (n : Nat), (∀ i, i < n → ∃ a, p i a) → ∃ l : List α, l.length = n ∧ ∀ i a, l[i]? = some a → p i a
  | 0, _ => ⟨[], rfl, fun i a h => by simp at h⟩
  | n + 1, h => by
    obtain ⟨l, h1, h2⟩ := list_of n fun i hi => h i (by omega)
    obtain ⟨a, ha⟩ := h n (by omega)
    refine ⟨l ++ [a], by simp [h1], fun i x hx => ?_⟩
    by_cases hi : i < l.length
    · rw [List.getElem?_append_left hi] at hx; exact h2 i x hx
    · rw [List.getElem?_append_right (by omega)] at hx
      have := (List.getElem?_eq_some_iff.1 hx).1
      simp only [List.length_singleton] at this
      have e : i = n := by omega
      subst e
      rw [h1, Nat.sub_self] at hx
      simp at hx; subst hx; exact ha
section
variable {P : Program} {t e : TypeId} {α : Type} {E : Enc α} {Q : α → Prop} {H : Type} {enc : TypeId × Value → H} {w : World} {base : Nat} {held : Bool} {r : Reach} {b0 : Nat} {v : Value} {d : DataW H} {ps : List MemPlace}
theorem cel_one (h1 : ∀ a, E.f a = [E.val a]) : ∀ (l : List α) (i : Nat), (cel E l)[i]? = (l[i]?).map E.val
  | [], i => by simp [cel]
  | a :: l, i => by
    rw [cel_cons, h1]
    cases i with
    | zero => rfl
    | succ i => simpa using cel_one h1 l i
/-- an argument that is a slice of one kind of single cells -/
theorem open_sl (ht : P.underlying t = some (.slice e)) (hE : Opens P e E Q) (hs : E.s = 1) (hf : ∀ a, E.f a = [E.val a]) (hv : Value.okWide P w r b0 t v) (h : DataW.Trod enc P w base (fun _ => true) held t v d ps) :
    ∃ a l c, v = .slice a l.length c ∧ Rd E w a l ∧ (∀ x ∈ l, Q x) ∧ l.length ≤ c ∧ (l = [] ∨ ∃ elems sp, d = .slice elems sp ∧ elems.length = l.length) := by
  obtain ⟨a, len, cap, rfl⟩ := okWide_slice ht hv
  obtain ⟨fuel, h⟩ := h
  rcases open_slice1 ht (hE.1.trans hs) h with ⟨h1, _⟩ | ⟨x, len', cap', m, n, V, D, Pl, h1, _, hl, _, hm, hx, hi⟩
  · simp only [Value.cells, List.cons.injEq, Value.slice.injEq, and_true] at h1
    obtain ⟨rfl, rfl, rfl⟩ := h1
    exact ⟨none, [], 0, rfl, .inl rfl, by simp, by simp, .inl rfl⟩
  · simp only [Value.cells, List.cons.injEq, Value.slice.injEq, and_true] at h1
    obtain ⟨rfl, rfl, rfl⟩ := h1
    simp only [if_true] at hm
    obtain ⟨l, hl1, hl2⟩ := list_of (p := fun i b => V i = E.val b ∧ Q b) len fun i hi' => by
      obtain ⟨b, hb, hq⟩ := hE.2 _ _ _ _ _ _ _ _ _ (hi i (by omega)).2
      rw [hf] at hb
      exact ⟨b, (List.cons.inj hb).1, hq⟩
    refine ⟨some x, l, cap, by rw [hl1], ?_, fun y hy => ?_, by omega, ?_⟩
    · by_cases h0 : l = []
      · exact .inl h0
      · have hpos : 0 < len := by rw [← hl1]; exact List.length_pos_iff.2 h0
        obtain ⟨b, off, spot⟩ := x
        have hspot : spot = none := by simpa [Addr.add] using World.cell?_spot (hi 0 (by omega)).1
        subst hspot
        have h00 := (hi 0 (by omega)).1
        rw [Addr.add_lit] at h00
        obtain ⟨cs, T, fr, h2, _⟩ := cell_some h00
        refine .inr ⟨b, off, cs, T, fr, rfl, h2, fun i u hu => ?_⟩
        rw [cel_one hf] at hu
        cases hli : l[i]? with
        | none => rw [hli] at hu; cases hu
        | some y =>
          rw [hli] at hu
          have hil := (List.getElem?_eq_some_iff.1 hli).1
          have h3 := (hi i (by omega)).1
          rw [Addr.add_lit] at h3
          obtain ⟨cs', T', fr', h4, h5⟩ := cell_some h3
          rw [h2] at h4; cases h4
          rw [h5, (hl2 i y hli).1]; exact hu
    · obtain ⟨i, hi1, hi2⟩ := List.getElem_of_mem hy
      exact (hl2 i y (by rw [List.getElem?_eq_getElem hi1, hi2])).2
    · simp only [Prod.mk.injEq] at hx
      exact .inr ⟨_, _, hx.1, by simp [hl1]⟩
/-- .. and how long it may be -/
theorem open_sized {ts : List TypeId} {ds : List (DataW H)} {j by' : Nat} {l : List α} (hw : (DataW.weightsEach P ts ds).all (· ≤ reachBytes) = true) (ht : P.underlying t = some (.slice e)) (hj : ts[j]? = some t) (hd : ds[j]? = some d) (hby : P.bytesOf e = by')
    (h : l = [] ∨ ∃ elems sp, d = .slice elems sp ∧ elems.length = l.length) : l.length * by' ≤ 140737488351232 := by
  rcases h with rfl | ⟨elems, sp, rfl, h1⟩
  · simp
  · have := sized_slice hw hj hd ht
    rw [hby, Nat.add_mul, h1] at this
    have h2 : reachBytes = 140737488351232 := by decide
    omega
end
end Go.Proofs.YteofdmdpaejgaaaDoor.Vc
