/- The calculus' two ends: an argument that is a slice of calls: three ints and a slice of bytes. -/
import Derived.Test.YtpmmhpgfbfehmaaDoorVcOpenN
import Derived.ChangeArms
namespace Go.Proofs.YtpmmhpgfbfehmaaDoor.Vc
open Go Go.ChangeShapes Go.WideShapes Go.ChangeAt Go.RowKit Go.Deep

structure OpQ where
  kd : Int
  i : Int
  bit : Int
  fr : SlV
def oq0 : OpQ := ⟨0, 0, 0, sv0⟩
def EQ : Enc OpQ := ⟨fun o => .agg #[i64 o.kd, i64 o.i, i64 o.bit, .slice o.fr.a o.fr.n o.fr.c], 4, by decide, fun _ => rfl, fun a u h => by
  simp [Value.cells] at h
  rcases h with rfl | rfl | rfl | rfl <;> rfl⟩
theorem fitsQ {P : Program} {T : TypeId} (h1 : siz P T = some 4) (h2 : isAgg' P T = true) : Fits P T EQ := ⟨h1, .inr ⟨h2, fun _ => rfl⟩⟩
section
variable {P : Program} {t e e4 e8 : TypeId} {H : Type} {enc : TypeId × Value → H} {w : World} {base : Nat} {held : Bool} {r : Reach} {b0 : Nat} {v : Value} {d : DataW H} {ps : List MemPlace}
def QQ {H : Type} (w : World) (d : DataW H) (o : OpQ) : Prop := o.bit ≤ 9223372036854775807 ∧ ∃ d0 d1 d2 d3, d = .agg [d0, d1, d2, d3] ∧ QS w d3 o.fr
theorem opd_opq {f0 f1 f2 f3 : Field} (he : P.underlying e = some (.struct #[f0, f1, f2, f3])) (hc : P.cellsOf e = 4)
    (i0 : P.underlying f0.type = some (.int .i64)) (i1 : P.underlying f1.type = some (.int .i64)) (i2 : P.underlying f2.type = some (.int .i64))
    (i3 : P.underlying f3.type = some (.slice e8)) (h8 : P.underlying e8 = some (.int .u8)) (hc8 : P.cellsOf e8 = 1)
    (o0 : f0.offset = 0 ∧ P.cellsOf f0.type = 1) (o1 : f1.offset = 1 ∧ P.cellsOf f1.type = 1) (o2 : f2.offset = 2 ∧ P.cellsOf f2.type = 1) (o3 : f3.offset = 3 ∧ P.cellsOf f3.type = 1) : OpD H enc P e EQ QQ := by
  refine ⟨hc, fun w base held fuel cs x h => ?_⟩
  obtain ⟨xs, n, _, rfl, hl, hlen, hf⟩ := DataW.trod_struct he h
  rw [hc] at hl
  match xs, hlen, cs, hl with
  | [y0, y1, y2, y3], _, [c0, c1, c2, c3], _ =>
    have h0 := hf 0 f0 rfl
    have h1 := hf 1 f1 rfl
    have h2 := hf 2 f2 rfl
    have h3 := hf 3 f3 rfl
    simp only [o0.1, o0.2, o1.1, o1.2, o2.1, o2.2, o3.1, o3.2, List.drop_zero, List.take_succ_cons, List.take_zero, List.drop_succ_cons, List.getElem?_cons_zero, List.getElem?_cons_succ] at h0 h1 h2 h3
    obtain ⟨n0, e0, _, _⟩ := DataW.trod_int i0 h0
    obtain ⟨n1, e1, _, _⟩ := DataW.trod_int i1 h1
    obtain ⟨n2, e2, _, w3⟩ := DataW.trod_int i2 h2
    obtain ⟨s4, e4, q4⟩ := (opd_bytes (H := H) (enc := enc) i3 h8 hc8 o3.2).2 _ _ _ _ _ _ h3
    have b3 := bounds_i64 w3
    cases e0; cases e1; cases e2
    obtain rfl := (List.cons.inj e4).1
    exact ⟨⟨n0, n1, n2, s4⟩, rfl, b3.2, y0.1, y1.1, y2.1, y3.1, rfl, q4⟩
/-- an argument that is a slice of calls -/
theorem open_opq {f0 f1 f2 f3 : Field} {ts : List TypeId} {ds : List (DataW H)} {j by' : Nat} (ht : P.underlying t = some (.slice e)) (he : P.underlying e = some (.struct #[f0, f1, f2, f3])) (hO : OpD H enc P e EQ QQ)
    (i3 : P.underlying f3.type = some (.slice e8)) (hb8 : P.bytesOf e8 = 1) (hb : P.bytesOf e = by') (hby : 0 < by')
    (hv : Value.okWide P w r b0 t v) (h : DataW.Trod enc P w base (fun _ => true) held t v d ps) (hw : (DataW.weightsEach P ts ds).all (· ≤ reachBytes) = true) (hj : ts[j]? = some t) (hd : ds[j]? = some d) :
    ∃ a sl c, ∃ cont : Nat → List (BitVec 8), v = .slice a sl.length c ∧ Rd EQ w a sl ∧ sl.length ≤ 140737488351232 ∧ ∀ i, i < sl.length → (sl.getD i oq0).bit ≤ 9223372036854775807 ∧ (sl.getD i oq0).fr.n = (cont i).length ∧ Rd E8 w (sl.getD i oq0).fr.a (cont i) ∧ (cont i).length ≤ 140737488351232 := by
  obtain ⟨a, l, c, rfl, hR, hlc, hq⟩ := open_slD ht hO hv h
  have hlen : l.length * by' ≤ 140737488351232 := open_sized (l := l) hw ht hj hd hb (hq.imp id fun ⟨elems, sp, h1, h2, _⟩ => ⟨elems, sp, h1, h2⟩)
  have hlen2 : l.length ≤ 140737488351232 := Nat.le_trans (Nat.le_mul_of_pos_right _ hby) hlen
  have hall : ∀ i, i < l.length → ∃ bs : List (BitVec 8), (l.getD i oq0).bit ≤ 9223372036854775807 ∧ (l.getD i oq0).fr.n = bs.length ∧ Rd E8 w (l.getD i oq0).fr.a bs ∧ bs.length ≤ 140737488351232 := by
    intro i hi
    rcases hq with rfl | ⟨elems, sp, rfl, he1, he2⟩
    · simp at hi
    · have hli : l[i]? = some (l.getD i oq0) := by simp [hi]
      obtain ⟨di, hdi, q0, d0, d1, d2, d3, rfl, bs, q1, q2, q3, q4⟩ := he2 i _ hli
      refine ⟨bs, q0, q1, q3, ?_⟩
      rcases q4 with rfl | ⟨el2, sp2, rfl, q5⟩
      · simp
      · have := sized_in (n := (el2.length + sp2.length) * P.bytesOf e8) hw ht hj hd hdi (by simp [DataW.weights, DataW.weightsEach, he, i3])
        rw [hb8] at this; omega
  obtain ⟨bl, hb1, hb2⟩ := list_of (p := fun i bs => (l.getD i oq0).bit ≤ 9223372036854775807 ∧ (l.getD i oq0).fr.n = bs.length ∧ Rd E8 w (l.getD i oq0).fr.a bs ∧ bs.length ≤ 140737488351232) l.length hall
  exact ⟨a, l, c, fun i => bl.getD i [], rfl, hR, hlen2, fun i hi => hb2 i _ (by simp [hb1, hi])⟩
end
end Go.Proofs.YtpmmhpgfbfehmaaDoor.Vc
