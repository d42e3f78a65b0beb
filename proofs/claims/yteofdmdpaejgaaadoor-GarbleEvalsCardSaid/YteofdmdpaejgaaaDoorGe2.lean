/- What the claim has need of: VcOpenN, VcOpenT, VcOpenK. -/
import Derived.Test.YteofdmdpaejgaaaDoorGe1
namespace Go.Proofs.YteofdmdpaejgaaaDoor.Vc
open Go Go.ChangeShapes Go.WideShapes Go.ChangeAt Go.RowKit Go.Deep
section
variable {P : Program} {t e e8 : TypeId} {α : Type} {E : Enc α} {H : Type} {enc : TypeId × Value → H} {w : World} {base : Nat} {held : Bool} {r : Reach} {b0 : Nat} {v : Value} {d : DataW H} {ps : List MemPlace}
/-- What reads at a type is of one encoding; what is told of its value may hang on the world and on what was read. -/
def OpD (H : Type) (enc : TypeId × Value → H) {α : Type} (P : Program) (e : TypeId) (E : Enc α) (Q : World → DataW H → α → Prop) : Prop :=
  P.cellsOf e = E.s ∧ ∀ (w : World) (base : Nat) (held : Bool) (fuel : Nat) (cs : List Value) (x : DataW H × List MemPlace),
    DataW.trod enc P w base (fun _ => true) held fuel e cs = some x → ∃ a, cs = E.f a ∧ Q w x.1 a
/-- a slice, of what leads further -/
theorem open_slD {Q : World → DataW H → α → Prop} (ht : P.underlying t = some (.slice e)) (hE : OpD H enc P e E Q) (hv : Value.okWide P w r b0 t v) (h : DataW.Trod enc P w base (fun _ => true) held t v d ps) :
    ∃ a l c, v = .slice a l.length c ∧ Rd E w a l ∧ l.length ≤ c ∧ (l = [] ∨ ∃ elems sp, d = .slice elems sp ∧ elems.length = l.length ∧ ∀ (i : Nat) (x : α), l[i]? = some x → ∃ di, elems[i]? = some di ∧ Q w di x) := by
  obtain ⟨a, len, cap, rfl⟩ := okWide_slice ht hv
  obtain ⟨fuel, h⟩ := h
  rcases open_slice ht h with ⟨h1, _⟩ | ⟨ad, len', cap', m', n, D, Pl, h1, _, hl, _, hm, hx, hi⟩
  · simp only [Value.cells, List.cons.injEq, Value.slice.injEq, and_true] at h1
    obtain ⟨rfl, rfl, rfl⟩ := h1
    exact ⟨none, [], 0, rfl, .inl rfl, by simp, .inl rfl⟩
  · simp only [Value.cells, List.cons.injEq, Value.slice.injEq, and_true] at h1
    obtain ⟨rfl, rfl, rfl⟩ := h1
    simp only [if_true] at hm
    obtain ⟨l, hl1, hl2⟩ := list_of (p := fun i b => (∀ j, j < E.s → w.cell? ((ad.add (i * E.s)).add j) = (E.f b)[j]?) ∧ Q w (D i) b) len fun i hi' => by
      obtain ⟨cs', h2, h3⟩ := hi i (by omega)
      rw [hE.1] at h2
      obtain ⟨b, hb, hq⟩ := hE.2 _ _ _ _ _ _ h3
      obtain ⟨_, _, h4⟩ := World.cells?_some h2
      exact ⟨b, fun j hj => by rw [h4 j hj, hb], hq⟩
    refine ⟨some ad, l, cap, by rw [hl1], ?_, by omega, ?_⟩
    · by_cases h0 : l = []
      · exact .inl h0
      · have hpos : 0 < len := by rw [← hl1]; exact List.length_pos_iff.2 h0
        have hcell : ∀ i y, l[i]? = some y → ∀ j, j < E.s → w.cell? ((ad.add (i * E.s)).add j) = (E.f y)[j]? := fun i y hy => (hl2 i y hy).1
        obtain ⟨y0, hy0⟩ : ∃ y, l[0]? = some y := ⟨_, List.getElem?_eq_getElem (by omega)⟩
        have h00 := hcell 0 y0 hy0 0 E.pos
        obtain ⟨u0, hu0⟩ : ∃ u, (E.f y0)[0]? = some u := ⟨_, List.getElem?_eq_getElem (by rw [E.len]; exact E.pos)⟩
        rw [hu0] at h00
        obtain ⟨b, off, spot⟩ := ad
        have hspot : spot = none := by
          have := World.cell?_spot h00
          cases spot with
          | none => rfl
          | some s => simp [Addr.add] at this
        subst hspot
        rw [Addr.add_lit, Addr.add_lit] at h00
        obtain ⟨cs, T, fr, h2, _⟩ := cell_some h00
        refine .inr ⟨b, off, cs, T, fr, rfl, h2, fun q u hu => ?_⟩
        have hq := (List.getElem?_eq_some_iff.1 hu).1
        rw [cel_length] at hq
        have hi' : q / E.s < l.length := Nat.div_lt_of_lt_mul (by rw [Nat.mul_comm]; exact hq)
        have hj' : q % E.s < E.s := Nat.mod_lt _ E.pos
        have hqe : q / E.s * E.s + q % E.s = q := by rw [Nat.mul_comm]; exact Nat.div_add_mod _ _
        have hy := List.getElem?_eq_getElem hi'
        have h5 := hcell _ _ hy _ hj'
        have h6 := cel_get (E := E) l (q / E.s) (q % E.s) _ hy hj'
        rw [hqe, hu] at h6
        rw [← h6, Addr.add_lit, Addr.add_lit, Nat.add_assoc, hqe] at h5
        obtain ⟨cs', T', fr', h7, h8⟩ := cell_some h5
        rw [h2] at h7; cases h7
        exact h8
    · simp only [Prod.mk.injEq] at hx
      refine .inr ⟨_, _, hx.1, by simp [hl1], fun i y hy => ⟨D i, ?_, (hl2 i y hy).2⟩⟩
      have := (List.getElem?_eq_some_iff.1 hy).1
      rw [List.getElem?_map, List.getElem?_range (by omega)]; rfl
end
end Go.Proofs.YteofdmdpaejgaaaDoor.Vc
namespace Go.Proofs.YteofdmdpaejgaaaDoor.Vc
open Go Go.ChangeShapes Go.WideShapes Go.ChangeAt Go.RowKit Go.Deep
section
variable {P : Program} {t e e2 e4 : TypeId} {H : Type} {enc : TypeId × Value → H} {w : World} {base : Nat} {held : Bool} {r : Reach} {b0 : Nat} {v : Value} {d : DataW H} {ps : List MemPlace}
def QT {α : Type} {H : Type} (_ : World) (_ : DataW H) (_ : α) : Prop := True
theorem opensLb (h2 : P.underlying e2 = some (.array 2 e)) (hu : P.underlying e = some (.int .u64)) (hc : P.cellsOf e = 1) (hc2 : P.cellsOf e2 = 2) : Opens P e2 ELb fun _ => True := by
  refine ⟨hc2, fun H enc w base spare held fuel cs x h => ?_⟩
  obtain ⟨l, h3, h4, _⟩ := opens_cells h2 (opens64 hu hc) (by rw [hc2, hc]) h
  obtain ⟨a, b, rfl⟩ := two_ex h4
  exact ⟨(a, b), by rw [h3]; rfl, trivial⟩
/-- an argument that is such a slice -/
theorem open_slQ {α : Type} {E : Enc α} {ts : List TypeId} {ds : List (DataW H)} {j by' : Nat} (ht : P.underlying t = some (.slice e)) (hO : OpD H enc P e E QT) (hb : P.bytesOf e = by')
    (hv : Value.okWide P w r b0 t v) (h : DataW.Trod enc P w base (fun _ => true) held t v d ps) (hw : (DataW.weightsEach P ts ds).all (· ≤ reachBytes) = true) (hj : ts[j]? = some t) (hd : ds[j]? = some d) :
    ∃ a l c, v = .slice a l.length c ∧ Rd E w a l ∧ l.length ≤ c ∧ l.length * by' ≤ 140737488351232 := by
  obtain ⟨a, l, c, rfl, hR, hlc, hq⟩ := open_slD ht hO hv h
  exact ⟨a, l, c, rfl, hR, hlc, open_sized (l := l) hw ht hj hd hb (hq.imp id fun ⟨elems, sp, h1, h2, _⟩ => ⟨elems, sp, h1, h2⟩)⟩
end
end Go.Proofs.YteofdmdpaejgaaaDoor.Vc
namespace Go.Proofs.YteofdmdpaejgaaaDoor.Vc
open Go Go.ChangeShapes Go.WideShapes Go.ChangeAt Go.RowKit Go.Deep Go.Joins
section
variable {P : Program} {t e : TypeId} {α : Type} {E : Enc α} {Q : α → Prop} {H : Type} {enc : TypeId × Value → H} {w : World} {base : Nat} {held : Bool}
theorem Opens.opd (h : Opens P e E Q) : OpD H enc P e E QT :=
  ⟨h.1, fun _ _ _ _ _ _ hx => let ⟨a, h1, _⟩ := h.2 _ _ _ _ _ _ _ _ _ hx; ⟨a, h1, trivial⟩⟩
end
end Go.Proofs.YteofdmdpaejgaaaDoor.Vc
