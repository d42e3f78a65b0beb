/- The calculus' two ends: an argument that leads to further slices. -/
import Derived.Test.YteofdmdpaejgaaaDoorVcOpenS
import Derived.Test.YteofdmdpaejgaaaDoorVcNet
namespace Go.Proofs.YteofdmdpaejgaaaDoor.Vc
open Go Go.ChangeShapes Go.WideShapes Go.ChangeAt Go.RowKit Go.Deep

section
variable {P : Program} {t e e8 : TypeId} {α : Type} {E : Enc α} {H : Type} {enc : TypeId × Value → H} {w : World} {base : Nat} {held : Bool} {r : Reach} {b0 : Nat} {v : Value} {d : DataW H} {ps : List MemPlace}
/-- What reads at a type is of one encoding; what is told of its value may hang on the world and on what was read. -/
def OpD (H : Type) (enc : TypeId × Value → H) {α : Type} (P : Program) (e : TypeId) (E : Enc α) (Q : World → DataW H → α → Prop) : Prop :=
  P.cellsOf e = E.s ∧ ∀ (w : World) (base : Nat) (held : Bool) (fuel : Nat) (cs : List Value) (x : DataW H × List MemPlace),
    DataW.trod enc P w base (fun _ => true) held fuel e cs = some x → ∃ a, cs = E.f a ∧ Q w x.1 a
/-- of a slice of bytes -/
def QS {H : Type} (w : World) (d : DataW H) (s : SlV) : Prop := ∃ bs : List (BitVec 8), s.n = bs.length ∧ s.n ≤ s.c ∧ Rd E8 w s.a bs ∧ (bs = [] ∨ ∃ elems sp, d = .slice elems sp ∧ elems.length = bs.length)
theorem opd_bytes (he : P.underlying e = some (.slice e8)) (h8 : P.underlying e8 = some (.int .u8)) (hc8 : P.cellsOf e8 = 1) (hc : P.cellsOf e = 1) : OpD H enc P e ES QS := by
  refine ⟨hc, fun w base held fuel cs x h => ?_⟩
  rcases open_slice1 he hc8 h with ⟨rfl, rfl⟩ | ⟨a, len, cap, m, n, V, D, Pl, rfl, _, hl, _, hm, rfl, hi⟩
  · exact ⟨⟨none, 0, 0⟩, rfl, [], rfl, Nat.le_refl _, .inl rfl, .inl rfl⟩
  · simp only [if_true] at hm
    have hE := opens8 h8 hc8
    obtain ⟨l, hl1, hl2⟩ := list_of (p := fun i b => V i = E8.val b) len fun i hi' => by
      obtain ⟨b, hb, _⟩ := hE.2 _ _ _ _ _ _ _ _ _ (hi i (by omega)).2
      exact ⟨b, (List.cons.inj hb).1⟩
    refine ⟨⟨some a, len, cap⟩, rfl, l, hl1.symm, hl, ?_, .inr ⟨_, _, rfl, by simp [hl1]⟩⟩
    by_cases h0 : l = []
    · exact .inl h0
    · have hpos : 0 < len := by rw [← hl1]; exact List.length_pos_iff.2 h0
      obtain ⟨b, off, spot⟩ := a
      have hspot : spot = none := by simpa [Addr.add] using World.cell?_spot (hi 0 (by omega)).1
      subst hspot
      have h00 := (hi 0 (by omega)).1
      rw [Addr.add_lit] at h00
      obtain ⟨cs, T, fr, h2, _⟩ := cell_some h00
      refine .inr ⟨b, off, cs, T, fr, rfl, h2, fun i u hu => ?_⟩
      rw [cel_one (fun _ => rfl)] at hu
      cases hli : l[i]? with
      | none => rw [hli] at hu; cases hu
      | some y =>
        rw [hli] at hu
        have hil := (List.getElem?_eq_some_iff.1 hli).1
        have h3 := (hi i (by omega)).1
        rw [Addr.add_lit] at h3
        obtain ⟨cs', T', fr', h4, h5⟩ := cell_some h3
        rw [h2] at h4; cases h4
        rw [h5, hl2 i y hli]; exact hu
/-- a slice, of what leads further -/
theorem open_slD {Q : World → DataW H → α → Prop} (ht : P.underlying t = some (.slice e)) (hE : OpD H enc P e E Q) (hv : Value.okWide P w r b0 t v) (h : DataW.Trod enc P w base (fun _ => true) held t v d ps) :
    ∃ a l c, v = .slice a l.length c ∧ Rd E w a l ∧ l.length ≤ c ∧ (l = [] ∨ ∃ elems sp, d = .slice elems sp ∧ elems.length = l.length ∧ ∀ (i : Nat) (x : α), l[i]? = some x → ∃ di, elems[i]? = some di ∧ Q w di x) := by
  obtain ⟨a, len, cap, rfl⟩ := okWide_slice ht hv
  obtain ⟨fuel, h⟩ := h
  rcases open_slice ht h with ⟨h1, _⟩ | ⟨ad, len', cap', m', n, D, Pl, h1, _, hl, _, hm, hx, hi⟩
  · simp only [Value.cells, List.cons.injEq, Value.slice.injEq, and_true] at h1
    obtain ⟨rfl, rfl, rfl⟩ := h1
    exact ⟨none, [], 0, rfl, .inl rfl, by simp, .inl rfl⟩
  · simp only [Value.cells, List.cons.injEq, Value.slice.injEq, and_true] at h1
    obtain ⟨rfl, rfl, rfl⟩ := h1
    simp only [if_true] at hm
    obtain ⟨l, hl1, hl2⟩ := list_of (p := fun i b => (∀ j, j < E.s → w.cell? ((ad.add (i * E.s)).add j) = (E.f b)[j]?) ∧ Q w (D i) b) len fun i hi' => by
      obtain ⟨cs', h2, h3⟩ := hi i (by omega)
      rw [hE.1] at h2
      obtain ⟨b, hb, hq⟩ := hE.2 _ _ _ _ _ _ h3
      obtain ⟨_, _, h4⟩ := World.cells?_some h2
      exact ⟨b, fun j hj => by rw [h4 j hj, hb], hq⟩
    refine ⟨some ad, l, cap, by rw [hl1], ?_, by omega, ?_⟩
    · by_cases h0 : l = []
      · exact .inl h0
      · have hpos : 0 < len := by rw [← hl1]; exact List.length_pos_iff.2 h0
        have hcell : ∀ i y, l[i]? = some y → ∀ j, j < E.s → w.cell? ((ad.add (i * E.s)).add j) = (E.f y)[j]? := fun i y hy => (hl2 i y hy).1
        obtain ⟨y0, hy0⟩ : ∃ y, l[0]? = some y := ⟨_, List.getElem?_eq_getElem (by omega)⟩
        have h00 := hcell 0 y0 hy0 0 E.pos
        obtain ⟨u0, hu0⟩ : ∃ u, (E.f y0)[0]? = some u := ⟨_, List.getElem?_eq_getElem (by rw [E.len]; exact E.pos)⟩
        rw [hu0] at h00
        obtain ⟨b, off, spot⟩ := ad
        have hspot : spot = none := by
          have := World.cell?_spot h00
          cases spot with
          | none => rfl
          | some s => simp [Addr.add] at this
        subst hspot
        rw [Addr.add_lit, Addr.add_lit] at h00
        obtain ⟨cs, T, fr, h2, _⟩ := cell_some h00
        refine .inr ⟨b, off, cs, T, fr, rfl, h2, fun q u hu => ?_⟩
        have hq := (List.getElem?_eq_some_iff.1 hu).1
        rw [cel_length] at hq
        have hi' : q / E.s < l.length := Nat.div_lt_of_lt_mul (by rw [Nat.mul_comm]; exact hq)
        have hj' : q % E.s < E.s := Nat.mod_lt _ E.pos
        have hqe : q / E.s * E.s + q % E.s = q := by rw [Nat.mul_comm]; exact Nat.div_add_mod _ _
        have hy := List.getElem?_eq_getElem hi'
        have h5 := hcell _ _ hy _ hj'
        have h6 := cel_get (E := E) l (q / E.s) (q % E.s) _ hy hj'
        rw [hqe, hu] at h6
        rw [← h6, Addr.add_lit, Addr.add_lit, Nat.add_assoc, hqe] at h5
        obtain ⟨cs', T', fr', h7, h8⟩ := cell_some h5
        rw [h2] at h7; cases h7
        exact h8
    · simp only [Prod.mk.injEq] at hx
      refine .inr ⟨_, _, hx.1, by simp [hl1], fun i y hy => ⟨D i, ?_, (hl2 i y hy).2⟩⟩
      have := (List.getElem?_eq_some_iff.1 hy).1
      rw [List.getElem?_map, List.getElem?_range (by omega)]; rfl
theorem weightsAll_mem {e : TypeId} : ∀ {elems : List (DataW H)} {i : Nat} {di : DataW H} {n : Nat}, elems[i]? = some di → n ∈ di.weights P e → n ∈ DataW.weightsAll P e elems
  | [], i, di, n, h, _ => by simp at h
  | x :: l, 0, di, n, h, hn => by simp at h; subst h; simp [DataW.weightsAll, hn]
  | x :: l, i + 1, di, n, h, hn => by
    have := weightsAll_mem (elems := l) (i := i) (by simpa using h) hn
    simp [DataW.weightsAll, this]
theorem sized_in {ts : List TypeId} {ds : List (DataW H)} {j i n : Nat} {elems sp : List (DataW H)} {di : DataW H} (hw : (DataW.weightsEach P ts ds).all (· ≤ reachBytes) = true) (ht : P.underlying t = some (.slice e)) (hj : ts[j]? = some t) (hd : ds[j]? = some (.slice elems sp)) (hi : elems[i]? = some di) (hn : n ∈ di.weights P e) : n ≤ 140737488351232 := by
  have := List.all_eq_true.1 hw _ (DataW.weights_mem_each hj hd n (by simp only [DataW.weights, ht]; exact List.mem_cons_of_mem _ (List.mem_append_left _ (weightsAll_mem hi hn))))
  have h2 : reachBytes = 140737488351232 := by decide
  simp only [decide_eq_true_eq] at this; omega
/-- an argument that is a slice of slices of bytes -/
theorem open_slsl {ts : List TypeId} {ds : List (DataW H)} {j : Nat} (ht : P.underlying t = some (.slice e)) (hc : P.cellsOf e = 1) (he : P.underlying e = some (.slice e8)) (h8 : P.underlying e8 = some (.int .u8)) (hc8 : P.cellsOf e8 = 1) (hb8 : P.bytesOf e8 = 1) (hb : P.bytesOf e = 24)
    (hv : Value.okWide P w r b0 t v) (h : DataW.Trod enc P w base (fun _ => true) held t v d ps) (hw : (DataW.weightsEach P ts ds).all (· ≤ reachBytes) = true) (hj : ts[j]? = some t) (hd : ds[j]? = some d) :
    ∃ a fl c, ∃ cont : Nat → List (BitVec 8), v = .slice a fl.length c ∧ Rd ES w a fl ∧ fl.length * 24 ≤ 140737488351232 ∧ fl.length ≤ c ∧ ∀ i, i < fl.length → (fl.getD i sv0).n = (cont i).length ∧ Rd E8 w (fl.getD i sv0).a (cont i) ∧ (cont i).length ≤ 140737488351232 ∧ (fl.getD i sv0).n ≤ (fl.getD i sv0).c := by
  obtain ⟨a, l, c, rfl, hR, hlc, hq⟩ := open_slD ht (opd_bytes he h8 hc8 hc) hv h
  have hlen : l.length * 24 ≤ 140737488351232 := by
    rw [← hb]
    refine open_sized (l := l) hw ht hj hd rfl (hq.imp id fun ⟨elems, sp, h1, h2, _⟩ => ⟨elems, sp, h1, h2⟩)
  have hall : ∀ i, i < l.length → ∃ bs : List (BitVec 8), (l.getD i sv0).n = bs.length ∧ Rd E8 w (l.getD i sv0).a bs ∧ bs.length ≤ 140737488351232 ∧ (l.getD i sv0).n ≤ (l.getD i sv0).c := by
    intro i hi
    rcases hq with rfl | ⟨elems, sp, rfl, he1, he2⟩
    · simp at hi
    · have hli : l[i]? = some (l.getD i sv0) := by simp [hi]
      obtain ⟨di, hdi, bs, q1, q2, q3, q4⟩ := he2 i _ hli
      refine ⟨bs, q1, q3, ?_, q2⟩
      rcases q4 with rfl | ⟨el2, sp2, rfl, q5⟩
      · simp
      · have := sized_in (n := (el2.length + sp2.length) * P.bytesOf e8) hw ht hj hd hdi (by simp [DataW.weights, he])
        rw [hb8] at this; omega
  obtain ⟨bl, hb1, hb2⟩ := list_of (p := fun i bs => (l.getD i sv0).n = bs.length ∧ Rd E8 w (l.getD i sv0).a bs ∧ bs.length ≤ 140737488351232 ∧ (l.getD i sv0).n ≤ (l.getD i sv0).c) l.length hall
  exact ⟨a, l, c, fun i => bl.getD i [], rfl, hR, hlen, hlc, fun i hi => hb2 i _ (by simp [hb1, hi])⟩
end
end Go.Proofs.YteofdmdpaejgaaaDoor.Vc
