/- The calculus' two ends: an argument that is a struct of an array of two words, a slice of such arrays, and a word. -/
import Derived.Test.YteofdmdpaejgaaaDoorVcOpenG
import Derived.Test.YteofdmdpaejgaaaDoorVcOpenT
namespace Go.Proofs.YteofdmdpaejgaaaDoor.Vc
open Go Go.ChangeShapes Go.WideShapes Go.ChangeAt Go.RowKit Go.Deep Go.Joins

section
variable {P : Program} {t e : TypeId} {α : Type} {E : Enc α} {Q : α → Prop} {H : Type} {enc : TypeId × Value → H} {w : World} {base : Nat} {held : Bool}
/-- a slice, as one cell; and what was read of it -/
theorem open_slC {m : Nat} {c : Value} {x : DataW H × List MemPlace} (ht : P.underlying t = some (.slice e)) (hE : Opens P e E Q) (h : DataW.trod enc P w base (fun _ => true) held m t [c] = some x) :
    ∃ a l cap, c = .slice a l.length cap ∧ Rd E w a l ∧ (∀ y ∈ l, Q y) ∧ l.length ≤ cap ∧ (l = [] ∨ ∃ elems sp, x.1 = .slice elems sp ∧ elems.length = l.length) := by
  rcases open_slice ht h with ⟨h1, _⟩ | ⟨ad, len, cap, m', n, D, Pl, h1, _, hl, _, hm, hx, hi⟩
  · cases h1
    exact ⟨none, [], 0, rfl, .inl rfl, by simp, by simp, .inl rfl⟩
  · cases h1
    simp only [if_true] at hm
    obtain ⟨l, hl1, hl2⟩ := list_of (p := fun i b => (∀ j, j < E.s → w.cell? ((ad.add (i * E.s)).add j) = (E.f b)[j]?) ∧ Q b) len fun i hi' => by
      obtain ⟨cs', h2, h3⟩ := hi i (by omega)
      rw [hE.1] at h2
      obtain ⟨b, hb, hq⟩ := hE.2 _ _ _ _ _ _ _ _ _ h3
      obtain ⟨_, _, h4⟩ := World.cells?_some h2
      exact ⟨b, fun j hj => by rw [h4 j hj, hb], hq⟩
    refine ⟨some ad, l, cap, by rw [hl1], ?_, fun y hy => ?_, by omega, ?_⟩
    · by_cases h0 : l = []
      · exact .inl h0
      · have hpos : 0 < len := by rw [← hl1]; exact List.length_pos_iff.2 h0
        have hcell : ∀ i y, l[i]? = some y → ∀ j, j < E.s → w.cell? ((ad.add (i * E.s)).add j) = (E.f y)[j]? := fun i y hy => (hl2 i y hy).1
        obtain ⟨y0, hy0⟩ : ∃ y, l[0]? = some y := ⟨_, List.getElem?_eq_getElem (by omega)⟩
        have h00 := hcell 0 y0 hy0 0 E.pos
        have hv0 : ∃ u, (E.f y0)[0]? = some u := ⟨_, List.getElem?_eq_getElem (by rw [E.len]; exact E.pos)⟩
        obtain ⟨u0, hu0⟩ := hv0
        rw [hu0] at h00
        obtain ⟨b, off, spot⟩ := ad
        have hspot : spot = none := by
          have := World.cell?_spot h00
          cases spot with
          | none => rfl
          | some s => simp [Addr.add] at this
        subst hspot
        rw [Addr.add_lit, Addr.add_lit] at h00
        obtain ⟨cs, T, fr, h2, _⟩ := cell_some h00
        refine .inr ⟨b, off, cs, T, fr, rfl, h2, fun q u hu => ?_⟩
        have hq := (List.getElem?_eq_some_iff.1 hu).1
        rw [cel_length] at hq
        have hi' : q / E.s < l.length := Nat.div_lt_of_lt_mul (by rw [Nat.mul_comm]; exact hq)
        have hj' : q % E.s < E.s := Nat.mod_lt _ E.pos
        have hqe : q / E.s * E.s + q % E.s = q := by rw [Nat.mul_comm]; exact Nat.div_add_mod _ _
        have hy := List.getElem?_eq_getElem hi'
        have h5 := hcell _ _ hy _ hj'
        have h6 := cel_get (E := E) l (q / E.s) (q % E.s) _ hy hj'
        rw [hqe, hu] at h6
        rw [← h6, Addr.add_lit, Addr.add_lit, Nat.add_assoc, hqe] at h5
        obtain ⟨cs', T', fr', h7, h8⟩ := cell_some h5
        rw [h2] at h7; cases h7
        exact h8
    · obtain ⟨i, hi1, hi2⟩ := List.getElem_of_mem hy
      exact (hl2 i y (by rw [List.getElem?_eq_getElem hi1, hi2])).2
    · exact .inr ⟨_, _, by rw [hx], by simp [hl1]⟩
theorem open_keys {e2 : TypeId} {f0 f1 f2 : Field} {r : Reach} {b0 : Nat} {v : Value} {d : DataW H} {ps : List MemPlace} {ts : List TypeId} {ds : List (DataW H)} {j : Nat} (hs : P.underlying t = some (.struct #[f0, f1, f2])) (hC : P.cellsOf t = 4)
    (h0 : P.underlying f0.type = some (.array 2 e)) (hu : P.underlying e = some (.int .u64)) (hce : P.cellsOf e = 1) (h1 : P.underlying f1.type = some (.slice e2)) (hE : Opens P e2 ELb fun _ => True) (hb : P.bytesOf e2 = 16) (h2 : P.underlying f2.type = some (.int .u64))
    (o0 : f0.offset = 0 ∧ P.cellsOf f0.type = 2) (o1 : f1.offset = 2 ∧ P.cellsOf f1.type = 1) (o2 : f2.offset = 3 ∧ P.cellsOf f2.type = 1)
    (hv : Value.okWide P w r b0 t v) (h : DataW.Trod enc P w base (fun _ => true) held t v d ps) (hw : (DataW.weightsEach P ts ds).all (· ≤ reachBytes) = true) (hj : ts[j]? = some t) (hd : ds[j]? = some d) :
    ∃ (δ : BitVec 64 × BitVec 64) (zs : List (BitVec 64 × BitVec 64)) (za : Option Addr) (zc : Nat) (first : BitVec 64), v = .agg #[u64 δ.1, u64 δ.2, .slice za zs.length zc, u64 first] ∧ Rd ELb w za zs ∧ zs.length ≤ zc ∧ zs.length * 16 ≤ 140737488351232 := by
  obtain ⟨cs, rfl, hsz⟩ := okWide_struct hs hv
  obtain ⟨fuel, hf⟩ := h
  obtain ⟨y0, y1, y2, n, hx, hl, g0, g1, g2⟩ := trod_struct3 hs hf
  obtain ⟨cs⟩ := cs
  have hl4 : cs.length = 4 := by have := hsz; simp only [List.size_toArray] at this; omega
  match cs, hl4 with
  | [c0, c1, c2, c3], _ =>
    simp only [Value.cells, o0.1, o0.2, o1.1, o1.2, o2.1, o2.2, List.drop_zero, List.take_succ_cons, List.take_zero, List.drop_succ_cons] at g0 g1 g2
    obtain ⟨l, l1, l2, _⟩ := opens_cells h0 (opens64 hu hce) (by rw [o0.2, hce]) g0
    obtain ⟨a, b, rfl⟩ := two_ex l2
    obtain ⟨za, zs, zc, rfl, hR, _, hlc, hq⟩ := open_slC h1 hE g1
    obtain ⟨c, hcc, _⟩ := (opens64 h2 o2.2).2 _ _ _ _ _ _ _ _ _ g2
    have l3 : [c0, c1] = [u64 a, u64 b] := l1
    simp only [List.cons.injEq, and_true] at l3
    obtain ⟨rfl, rfl⟩ := l3
    refine ⟨(a, b), zs, za, zc, c, by rw [(List.cons.inj hcc).1]; rfl, hR, hlc, ?_⟩
    rcases hq with rfl | ⟨elems, sp, q1, q2⟩
    · simp
    · simp only [Prod.mk.injEq] at hx
      rw [hx.1, q1] at hd
      have := List.all_eq_true.1 hw _ (DataW.weights_mem_each hj hd ((elems.length + sp.length) * P.bytesOf e2) (by simp [DataW.weights, DataW.weightsEach, hs, h1]))
      have h5 : reachBytes = 140737488351232 := by decide
      simp only [decide_eq_true_eq] at this
      rw [hb] at this; omega
end
end Go.Proofs.YteofdmdpaejgaaaDoor.Vc
