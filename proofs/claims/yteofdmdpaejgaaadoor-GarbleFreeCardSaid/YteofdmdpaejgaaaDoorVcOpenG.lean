/- The calculus' two ends: an argument that is a struct; a slice of structs. -/
import Derived.Test.YteofdmdpaejgaaaDoorVcOpenS
import Derived.Test.YteofdmdpaejgaaaDoorVcStruct
import Derived.Lib.SmallJoins
namespace Go.Proofs.YteofdmdpaejgaaaDoor.Vc
open Go Go.ChangeShapes Go.WideShapes Go.ChangeAt Go.RowKit Go.Deep Go.Joins

section
variable {P : Program} {t e : TypeId} {α : Type} {E : Enc α} {Q : α → Prop} {H : Type} {enc : TypeId × Value → H} {w : World} {base : Nat} {held : Bool}
theorem opensG {f0 f1 f2 : Field} (hs : P.underlying e = some (.struct #[f0, f1, f2])) (hone : oneCellFields P #[f0, f1, f2] = true) (hC : P.cellsOf e = 3)
    (i0 : P.underlying f0.type = some (.int .i64)) (i1 : P.underlying f1.type = some (.int .i64)) (i2 : P.underlying f2.type = some (.int .i64)) : Opens P e EG fun _ => True := by
  refine ⟨hC, fun H enc w base spare held fuel cs x h => ?_⟩
  obtain ⟨y0, y1, y2, n, _, hl, h0, h1, h2⟩ := trod_struct3 hs h
  rw [hC] at hl
  match cs, hl with
  | [c0, c1, c2], _ =>
    obtain ⟨o0, k0⟩ := hone_of hone 0 f0 rfl
    obtain ⟨o1, k1⟩ := hone_of hone 1 f1 rfl
    obtain ⟨o2, k2⟩ := hone_of hone 2 f2 rfl
    simp only [o0, k0, o1, k1, o2, k2, List.drop_zero, List.take_succ_cons, List.take_zero, List.drop_succ_cons] at h0 h1 h2
    obtain ⟨a, ha, _, _⟩ := DataW.trod_int i0 h0
    obtain ⟨b, hb, _, _⟩ := DataW.trod_int i1 h1
    obtain ⟨c, hc, _, _⟩ := DataW.trod_int i2 h2
    cases ha; cases hb; cases hc
    exact ⟨⟨a, b, c⟩, rfl, trivial⟩
/-- a slice, as one cell -/
theorem open_slT {m : Nat} {c : Value} {x : DataW H × List MemPlace} (ht : P.underlying t = some (.slice e)) (hE : Opens P e E Q) (h : DataW.trod enc P w base (fun _ => true) held m t [c] = some x) :
    ∃ a l cap, c = .slice a l.length cap ∧ Rd E w a l ∧ (∀ y ∈ l, Q y) ∧ l.length ≤ cap := by
  rcases open_slice ht h with ⟨h1, _⟩ | ⟨ad, len, cap, m', n, D, Pl, h1, _, hl, _, hm, _, hi⟩
  · cases h1
    exact ⟨none, [], 0, rfl, .inl rfl, by simp, by simp⟩
  · cases h1
    simp only [if_true] at hm
    obtain ⟨l, hl1, hl2⟩ := list_of (p := fun i b => (∀ j, j < E.s → w.cell? ((ad.add (i * E.s)).add j) = (E.f b)[j]?) ∧ Q b) len fun i hi' => by
      obtain ⟨cs', h2, h3⟩ := hi i (by omega)
      rw [hE.1] at h2
      obtain ⟨b, hb, hq⟩ := hE.2 _ _ _ _ _ _ _ _ _ h3
      obtain ⟨_, _, h4⟩ := World.cells?_some h2
      exact ⟨b, fun j hj => by rw [h4 j hj, hb], hq⟩
    refine ⟨some ad, l, cap, by rw [hl1], ?_, fun y hy => ?_, by omega⟩
    · by_cases h0 : l = []
      · exact .inl h0
      · have hpos : 0 < len := by rw [← hl1]; exact List.length_pos_iff.2 h0
        have hcell : ∀ i y, l[i]? = some y → ∀ j, j < E.s → w.cell? ((ad.add (i * E.s)).add j) = (E.f y)[j]? := fun i y hy => (hl2 i y hy).1
        obtain ⟨y0, hy0⟩ : ∃ y, l[0]? = some y := ⟨_, List.getElem?_eq_getElem (by omega)⟩
        have h00 := hcell 0 y0 hy0 0 E.pos
        have hv0 : ∃ u, (E.f y0)[0]? = some u := ⟨_, List.getElem?_eq_getElem (by rw [E.len]; exact E.pos)⟩
        obtain ⟨u0, hu0⟩ := hv0
        rw [hu0] at h00
        obtain ⟨b, off, spot⟩ := ad
        have hspot : spot = none := by
          have := World.cell?_spot h00
          cases spot with
          | none => rfl
          | some s => simp [Addr.add] at this
        subst hspot
        rw [Addr.add_lit, Addr.add_lit] at h00
        obtain ⟨cs, T, fr, h2, _⟩ := cell_some h00
        refine .inr ⟨b, off, cs, T, fr, rfl, h2, fun q u hu => ?_⟩
        have hq := (List.getElem?_eq_some_iff.1 hu).1
        rw [cel_length] at hq
        have hi' : q / E.s < l.length := Nat.div_lt_of_lt_mul (by rw [Nat.mul_comm]; exact hq)
        have hj' : q % E.s < E.s := Nat.mod_lt _ E.pos
        have hqe : q / E.s * E.s + q % E.s = q := by rw [Nat.mul_comm]; exact Nat.div_add_mod _ _
        have hy := List.getElem?_eq_getElem hi'
        have h5 := hcell _ _ hy _ hj'
        have h6 := cel_get (E := E) l (q / E.s) (q % E.s) _ hy hj'
        rw [hqe, hu] at h6
        rw [← h6, Addr.add_lit, Addr.add_lit, Nat.add_assoc, hqe] at h5
        obtain ⟨cs', T', fr', h7, h8⟩ := cell_some h5
        rw [h2] at h7; cases h7
        exact h8
    · obtain ⟨i, hi1, hi2⟩ := List.getElem_of_mem hy
      exact (hl2 i y (by rw [List.getElem?_eq_getElem hi1, hi2])).2
end
end Go.Proofs.YteofdmdpaejgaaaDoor.Vc
