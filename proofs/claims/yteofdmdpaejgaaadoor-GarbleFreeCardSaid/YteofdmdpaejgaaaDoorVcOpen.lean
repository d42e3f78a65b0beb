/- The calculus' two ends: an argument is opened into plain values; where a law has returned true, what the row asks. -/
import Derived.Test.YteofdmdpaejgaaaDoorVcOps
import Derived.ProofKit
import Derived.OpenShut
import Derived.ShutString
import Derived.ChangeOld
import Derived.Below
namespace Go.Proofs.YteofdmdpaejgaaaDoor.Vc
open Go Go.ChangeShapes Go.WideShapes Go.ChangeAt Go.RowKit

/-- What reads at a type is of one encoding, and its value is of one kind. -/
def Opens {α : Type} (P : Program) (e : TypeId) (E : Enc α) (Q : α → Prop) : Prop :=
  P.cellsOf e = E.s ∧ ∀ (H : Type) (enc : TypeId × Value → H) (w : World) (base : Nat) (spare : Nat → Bool) (held : Bool) (fuel : Nat) (cs : List Value) (x : DataW H × List MemPlace),
    DataW.trod enc P w base spare held fuel e cs = some x → ∃ a, cs = E.f a ∧ Q a
theorem two_ex {α : Type} {l : List α} (h : l.length = 2) : ∃ a b, l = [a, b] := by
  match l, h with
  | [a, b], _ => exact ⟨a, b, rfl⟩
/-- bounds of an integer of 64 bits -/
def Fit64 (n : Int) : Prop := -9223372036854775808 ≤ n ∧ n ≤ 9223372036854775807
section
variable {P : Program} {e t : TypeId}
theorem opens8 (h : P.underlying e = some (.int .u8)) (hc : P.cellsOf e = 1) : Opens P e E8 fun _ => True := by
  refine ⟨hc, fun H enc w base spare held fuel cs x hx => ?_⟩
  obtain ⟨n, rfl, _, hw⟩ := DataW.trod_int h hx
  have := bounds_u8 hw
  refine ⟨BitVec.ofInt 8 n, ?_, trivial⟩
  show _ = [u8 _]
  rw [u8, BitVec.toNat_ofInt]; congr 2; omega
theorem opens32 (h : P.underlying e = some (.int .u32)) (hc : P.cellsOf e = 1) : Opens P e E32 fun _ => True := by
  refine ⟨hc, fun H enc w base spare held fuel cs x hx => ?_⟩
  obtain ⟨n, rfl, _, hw⟩ := DataW.trod_int h hx
  have := bounds_u32 hw
  refine ⟨BitVec.ofInt 32 n, ?_, trivial⟩
  show _ = [u32 _]
  rw [u32, BitVec.toNat_ofInt]; congr 2; omega
theorem opens64 (h : P.underlying e = some (.int .u64)) (hc : P.cellsOf e = 1) : Opens P e E64 fun _ => True := by
  refine ⟨hc, fun H enc w base spare held fuel cs x hx => ?_⟩
  obtain ⟨n, rfl, _, hw⟩ := DataW.trod_int h hx
  have := bounds_u64 hw
  refine ⟨BitVec.ofInt 64 n, ?_, trivial⟩
  show _ = [u64 _]
  rw [u64, BitVec.toNat_ofInt]; congr 2; omega
theorem opensI (h : P.underlying e = some (.int .i64)) (hc : P.cellsOf e = 1) : Opens P e EI Fit64 := by
  refine ⟨hc, fun H enc w base spare held fuel cs x hx => ?_⟩
  obtain ⟨n, rfl, _, hw⟩ := DataW.trod_int h hx
  exact ⟨n, rfl, bounds_i64 hw⟩
theorem opensB (h : P.underlying e = some .bool) (hc : P.cellsOf e = 1) : Opens P e EB fun _ => True := by
  refine ⟨hc, fun H enc w base spare held fuel cs x hx => ?_⟩
  obtain ⟨b, rfl, _⟩ := DataW.trod_bool h hx
  exact ⟨b, rfl, trivial⟩

theorem cel_chunks {α : Type} {E : Enc α} {Q : α → Prop} : ∀ (n : Nat) (cs : List Value), cs.length = n * E.s → (∀ i, i < n → ∃ a, (cs.drop (i * E.s)).take E.s = E.f a ∧ Q a) →
    ∃ l, cs = cel E l ∧ l.length = n ∧ ∀ a ∈ l, Q a
  | 0, cs, h, _ => ⟨[], by simpa using h, rfl, by simp⟩
  | n + 1, cs, h, hh => by
    obtain ⟨a, ha, qa⟩ := hh 0 (by omega)
    obtain ⟨l, h1, h2, h3⟩ := cel_chunks (E := E) (Q := Q) n (cs.drop E.s) (by rw [List.length_drop, h, Nat.add_mul]; omega) fun i hi => by
      obtain ⟨b, hb, qb⟩ := hh (i + 1) (by omega)
      exact ⟨b, by rw [List.drop_drop, ← hb]; congr 2; rw [Nat.add_mul]; omega, qb⟩
    refine ⟨a :: l, ?_, by simp [h2], ?_⟩
    · rw [cel_cons, ← h1, ← ha]; simp
    · intro x hx
      rcases List.mem_cons.1 hx with rfl | hx
      · exact qa
      · exact h3 x hx
/-- the cells of an array -/
theorem opens_cells {α : Type} {E : Enc α} {Q : α → Prop} {H : Type} {enc : TypeId × Value → H} {w : World} {base : Nat} {spare : Nat → Bool} {held : Bool} {fuel : Nat} {cs : List Value} {x : DataW H × List MemPlace} {n : Nat}
    (ht : P.underlying t = some (.array n e)) (hE : Opens P e E Q) (hz : P.cellsOf t = n * P.cellsOf e) (h : DataW.trod enc P w base spare held fuel t cs = some x) :
    ∃ l, cs = cel E l ∧ l.length = n ∧ ∀ a ∈ l, Q a := by
  obtain ⟨xs, m, _, _, hl, hx, hi⟩ := DataW.trod_array ht h
  refine cel_chunks n cs (by rw [hl, hz, hE.1]) fun i hi' => ?_
  have := hi i hi'
  rw [List.getElem?_eq_getElem (by omega), hE.1] at this
  exact hE.2 _ _ _ _ _ _ _ _ _ this
/-- an argument that is an array -/
theorem open_arr {α : Type} {E : Enc α} {Q : α → Prop} {H : Type} {enc : TypeId × Value → H} {w : World} {base : Nat} {spare : Nat → Bool} {held : Bool} {r : Reach} {b0 n : Nat} {v : Value} {d : DataW H} {ps : List MemPlace}
    (ht : P.underlying t = some (.array n e)) (hE : Opens P e E Q) (hz : P.cellsOf t = n * P.cellsOf e) (hv : Value.okWide P w r b0 t v) (h : DataW.Trod enc P w base spare held t v d ps) :
    ∃ l, v = .agg (cel E l).toArray ∧ l.length = n ∧ ∀ a ∈ l, Q a := by
  unfold Value.okWide at hv
  rw [ht] at hv
  obtain ⟨cs, rfl, _, _⟩ := hv
  obtain ⟨fuel, hf⟩ := h
  obtain ⟨l, h1, h2, h3⟩ := opens_cells ht hE hz hf
  exact ⟨l, by rw [← h1]; rfl, h2, h3⟩
/-- an argument of one cell -/
theorem open_one {α : Type} {E : Enc α} {Q : α → Prop} {H : Type} {enc : TypeId × Value → H} {w : World} {base : Nat} {spare : Nat → Bool} {held : Bool} {v : Value} {d : DataW H} {ps : List MemPlace}
    (hE : Opens P e E Q) (hv : v.cells.toList = [v]) (hf : ∀ a, E.f a = [E.val a]) (h : DataW.Trod enc P w base spare held e v d ps) : ∃ a, v = E.val a ∧ Q a := by
  obtain ⟨fuel, h⟩ := h
  rw [hv] at h
  obtain ⟨a, h1, h2⟩ := hE.2 _ _ _ _ _ _ _ _ _ h
  rw [hf] at h1
  exact ⟨a, (List.cons.inj h1).1, h2⟩
section
variable {H : Type} {enc : TypeId × Value → H} {w : World} {base : Nat} {spare : Nat → Bool} {held : Bool} {r : Reach} {b0 : Nat} {v : Value} {d : DataW H} {ps : List MemPlace}
theorem open_u8 (h : P.underlying e = some (.int .u8)) (hc : P.cellsOf e = 1) (hv : Value.okWide P w r b0 e v) (hd : DataW.Trod enc P w base spare held e v d ps) : ∃ a : BitVec 8, v = u8 a := by
  obtain ⟨n, rfl⟩ := okWide_int h hv
  obtain ⟨a, h1, _⟩ := open_one (opens8 h hc) rfl (fun _ => rfl) hd
  exact ⟨a, h1⟩
theorem open_u32 (h : P.underlying e = some (.int .u32)) (hc : P.cellsOf e = 1) (hv : Value.okWide P w r b0 e v) (hd : DataW.Trod enc P w base spare held e v d ps) : ∃ a : BitVec 32, v = u32 a := by
  obtain ⟨n, rfl⟩ := okWide_int h hv
  obtain ⟨a, h1, _⟩ := open_one (opens32 h hc) rfl (fun _ => rfl) hd
  exact ⟨a, h1⟩
theorem open_u64 (h : P.underlying e = some (.int .u64)) (hc : P.cellsOf e = 1) (hv : Value.okWide P w r b0 e v) (hd : DataW.Trod enc P w base spare held e v d ps) : ∃ a : BitVec 64, v = u64 a := by
  obtain ⟨n, rfl⟩ := okWide_int h hv
  obtain ⟨a, h1, _⟩ := open_one (opens64 h hc) rfl (fun _ => rfl) hd
  exact ⟨a, h1⟩
theorem open_i64 (h : P.underlying e = some (.int .i64)) (hc : P.cellsOf e = 1) (hv : Value.okWide P w r b0 e v) (hd : DataW.Trod enc P w base spare held e v d ps) : ∃ a : Int, v = i64 a ∧ Fit64 a := by
  obtain ⟨n, rfl⟩ := okWide_int h hv
  exact open_one (opensI h hc) rfl (fun _ => rfl) hd
theorem open_b (h : P.underlying e = some .bool) (hv : Value.okWide P w r b0 e v) : ∃ a : Bool, v = .bool a := okWide_bool h hv

/-- arguments read as they did -/
theorem trodAll_below {W W' : World} (hl : laidOutB P = true) (hb : Below W.heap.size W W') : ∀ (ts : List TypeId) (vs : List Value) (ds : List (DataW H)) (ps : List MemPlace),
    (∀ t ∈ ts, P.readableRec t = true ∧ t < P.types.size) → DataW.TrodAll enc P W 0 (fun _ => true) true ts vs ds ps → DataW.TrodAll enc P W' 0 (fun b => decide (b < W.heap.size)) true ts vs ds ps
  | [], vs, ds, ps, _, h => by cases vs <;> cases ds <;> simp_all [DataW.TrodAll]
  | t :: ts, vs, ds, ps, hr, h => by
    obtain ⟨v, vs', d, ds', p, q, rfl, rfl, rfl, h1, h2⟩ := trodAll_cons h
    have lt : ∀ x ∈ p, x.block < W.heap.size := by obtain ⟨m, hm⟩ := h1; exact DataW.trod_lt m _ _ _ hm
    exact trodAll_cons_mk (Below.trod hl (hr t (by simp)).1 (hr t (by simp)).2 h1 hb lt) (trodAll_below hl hb ts vs' ds' q (fun x hx => hr x (by simp [hx])) h2)
/-- the end of a law that returned true and wrote to no block that was there -/
theorem law_end {fn : Func} {s : ChangeSpec} {W W' : World} {args : Array Value} {ds gs : List (DataW H)} {before : List MemPlace} {tb : TypeId}
    (hl : laidOutB P = true) (hr0 : (fn.params.toList.all fun t => P.readableRec t && decide (t < P.types.size)) = true) (hres : fn.resultTypes.toList = [tb]) (hsz : fn.resultTypes.size = 1) (htb : P.underlying tb = some .bool) (hv : s.vars = [])
    (hW : DataW.Whole enc P fn.params.toList s.vars false W args.toList ds gs before) (h1 : (s.fn H (ds ++ gs)).results = [.lit (.bool true)]) (h2 : (s.fn H (ds ++ gs)).args = ds) (h3 : (s.fn H (ds ++ gs)).vars = [])
    (hb : Below W.heap.size W W') : s.post enc P fn false true false false W args (.bool true) W' := by
  have hr : ∀ t ∈ fn.params.toList, P.readableRec t = true ∧ t < P.types.size := fun t ht => by
    have := List.all_eq_true.1 hr0 t ht
    simpa using this
  have hW' := hW
  obtain ⟨p, q, hA, hV, rfl, hfz, hnd⟩ := hW
  refine ⟨ds, gs, _, [], p, [], hW', ?_, ?_, ?_, hb.frame _, fun h => by cases h⟩
  · rw [hres, hsz, h1]
    exact trodAll_mk1 (shut_bool htb _)
  · rw [h2]
    exact trodAll_below hl hb _ _ _ _ hr hA
  · rw [h3, hv]; rfl
end
end
end Go.Proofs.YteofdmdpaejgaaaDoor.Vc
