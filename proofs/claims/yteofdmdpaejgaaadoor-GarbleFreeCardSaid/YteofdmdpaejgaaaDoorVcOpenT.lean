/- The calculus' two ends: an argument that is a slice of structs of words. -/
import Derived.Test.YteofdmdpaejgaaaDoorVcOpenN
import Derived.Test.YteofdmdpaejgaaaDoorVcTri
namespace Go.Proofs.YteofdmdpaejgaaaDoor.Vc
open Go Go.ChangeShapes Go.WideShapes Go.ChangeAt Go.RowKit Go.Deep

theorem three_ex {α : Type} {l : List α} (h : l.length = 3) : ∃ a b c, l = [a, b, c] := by
  match l, h with
  | [a, b, c], _ => exact ⟨a, b, c, rfl⟩
section
variable {P : Program} {t e e2 e4 : TypeId} {H : Type} {enc : TypeId × Value → H} {w : World} {base : Nat} {held : Bool} {r : Reach} {b0 : Nat} {v : Value} {d : DataW H} {ps : List MemPlace}
def QT {α : Type} {H : Type} (_ : World) (_ : DataW H) (_ : α) : Prop := True
theorem opd_tr {f0 f1 f2 : Field} (he : P.underlying e = some (.struct #[f0, f1, f2])) (hc : P.cellsOf e = 3)
    (i0 : P.underlying f0.type = some (.int .u64)) (i1 : P.underlying f1.type = some (.int .u64)) (i2 : P.underlying f2.type = some (.int .u64))
    (o0 : f0.offset = 0 ∧ P.cellsOf f0.type = 1) (o1 : f1.offset = 1 ∧ P.cellsOf f1.type = 1) (o2 : f2.offset = 2 ∧ P.cellsOf f2.type = 1) : OpD H enc P e ETr QT := by
  refine ⟨hc, fun w base held fuel cs x h => ?_⟩
  obtain ⟨xs, n, _, rfl, hl, hlen, hf⟩ := DataW.trod_struct he h
  rw [hc] at hl
  match xs, hlen, cs, hl with
  | [y0, y1, y2], _, [c0, c1, c2], _ =>
    have h0 := hf 0 f0 rfl
    have h1 := hf 1 f1 rfl
    have h2 := hf 2 f2 rfl
    simp only [o0.1, o0.2, o1.1, o1.2, o2.1, o2.2, List.drop_zero, List.take_succ_cons, List.take_zero, List.drop_succ_cons, List.getElem?_cons_zero, List.getElem?_cons_succ] at h0 h1 h2
    obtain ⟨a, ha, _⟩ := (opens64 i0 o0.2).2 _ _ _ _ _ _ _ _ _ h0
    obtain ⟨b, hb, _⟩ := (opens64 i1 o1.2).2 _ _ _ _ _ _ _ _ _ h1
    obtain ⟨c, hcc, _⟩ := (opens64 i2 o2.2).2 _ _ _ _ _ _ _ _ _ h2
    refine ⟨⟨a, b, c⟩, ?_, trivial⟩
    rw [(List.cons.inj ha).1, (List.cons.inj hb).1, (List.cons.inj hcc).1]
    rfl
theorem opensLb (h2 : P.underlying e2 = some (.array 2 e)) (hu : P.underlying e = some (.int .u64)) (hc : P.cellsOf e = 1) (hc2 : P.cellsOf e2 = 2) : Opens P e2 ELb fun _ => True := by
  refine ⟨hc2, fun H enc w base spare held fuel cs x h => ?_⟩
  obtain ⟨l, h3, h4, _⟩ := opens_cells h2 (opens64 hu hc) (by rw [hc2, hc]) h
  obtain ⟨a, b, rfl⟩ := two_ex h4
  exact ⟨(a, b), by rw [h3]; rfl, trivial⟩
theorem opd_ot {f0 f1 : Field} (he : P.underlying e4 = some (.struct #[f0, f1])) (hc : P.cellsOf e4 = 5) (hL : Opens P e2 ELb fun _ => True) (h0 : P.underlying f0.type = some (.array 2 e2)) (hc0 : P.cellsOf f0.type = 2 * P.cellsOf e2)
    (i1 : P.underlying f1.type = some .bool) (o0 : f0.offset = 0 ∧ P.cellsOf f0.type = 4) (o1 : f1.offset = 4 ∧ P.cellsOf f1.type = 1) : OpD H enc P e4 EOt QT := by
  refine ⟨hc, fun w base held fuel cs x h => ?_⟩
  obtain ⟨xs, n, _, rfl, hl, hlen, hf⟩ := DataW.trod_struct he h
  rw [hc] at hl
  match xs, hlen, cs, hl with
  | [y0, y1], _, [c0, c1, c2, c3, c4], _ =>
    have h1 := hf 0 f0 rfl
    have h2 := hf 1 f1 rfl
    simp only [o0.1, o0.2, o1.1, o1.2, List.drop_zero, List.take_succ_cons, List.take_zero, List.drop_succ_cons, List.getElem?_cons_zero, List.getElem?_cons_succ] at h1 h2
    obtain ⟨l, h3, h4, _⟩ := opens_cells h0 hL hc0 h1
    obtain ⟨⟨a1, a2⟩, ⟨b1, b2⟩, rfl⟩ := two_ex h4
    obtain ⟨c, hcc, _⟩ := (opensB i1 o1.2).2 _ _ _ _ _ _ _ _ _ h2
    have h5 : [c0, c1, c2, c3] = [u64 a1, u64 a2, u64 b1, u64 b2] := h3
    simp only [List.cons.injEq, and_true] at h5
    obtain ⟨rfl, rfl, rfl, rfl⟩ := h5
    exact ⟨⟨a1, a2, b1, b2, c⟩, by rw [(List.cons.inj hcc).1]; rfl, trivial⟩
/-- an argument that is such a slice -/
theorem open_slQ {α : Type} {E : Enc α} {ts : List TypeId} {ds : List (DataW H)} {j by' : Nat} (ht : P.underlying t = some (.slice e)) (hO : OpD H enc P e E QT) (hb : P.bytesOf e = by')
    (hv : Value.okWide P w r b0 t v) (h : DataW.Trod enc P w base (fun _ => true) held t v d ps) (hw : (DataW.weightsEach P ts ds).all (· ≤ reachBytes) = true) (hj : ts[j]? = some t) (hd : ds[j]? = some d) :
    ∃ a l c, v = .slice a l.length c ∧ Rd E w a l ∧ l.length ≤ c ∧ l.length * by' ≤ 140737488351232 := by
  obtain ⟨a, l, c, rfl, hR, hlc, hq⟩ := open_slD ht hO hv h
  exact ⟨a, l, c, rfl, hR, hlc, open_sized (l := l) hw ht hj hd hb (hq.imp id fun ⟨elems, sp, h1, h2, _⟩ => ⟨elems, sp, h1, h2⟩)⟩
end
end Go.Proofs.YteofdmdpaejgaaaDoor.Vc
