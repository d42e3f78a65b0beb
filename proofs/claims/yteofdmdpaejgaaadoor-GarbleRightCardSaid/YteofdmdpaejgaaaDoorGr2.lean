/- What the claim has need of: VcCopy, VcOpen, VcOpenS, VcOpenG, VcOpenT, VcOpenK. -/
import Derived.Test.YteofdmdpaejgaaaDoorGr1
import Derived.Laws.CopyRow
import Derived.Laws.IdiomCopy
import Derived.ProofKit
import Derived.OpenShut
import Derived.ShutString
import Derived.ChangeOld
import Derived.Deep.Slices
import Derived.SizedLaws
import Derived.Lib.SmallJoins
namespace Go.Proofs.YteofdmdpaejgaaaDoor.Vc
open Go
/-- what a row is behind a copy -/
def cpl {α : Type} (l l2 : List α) : List α := l2.take l.length ++ l.drop l2.length
theorem cpl_len {α : Type} (l l2 : List α) : (cpl l l2).length = l.length := by
  simp only [cpl, List.length_append, List.length_take, List.length_drop]; omega
section
variable {α : Type} {E : Enc α} {P : Program} {n : Nat} {ops : Array Oper} {Q : Exit → Act → World → Prop} {ρ : Env} {w w₀ : World} {d : Option Nat} {t S S' T : TypeId} {pos : String} {after : Array Edge} {x y : Operand}
  {M : Nat → Prop} {L : List (Option Nat × Obj)} {rest : List Oper} {k : Nat} {key : Option Nat} {l l2 : List α} {c c2 m m2 : Nat} {sp : List Value} {a2 : Option Addr}
theorem cel_drop1 (h : E.s = 1) (l : List α) (i : Nat) : cel E (l.drop i) = (cel E l).drop i := by
  have e : cel E l = cel E (l.take i) ++ cel E (l.drop i) := by rw [← cel_append, List.take_append_drop]
  by_cases hi : i ≤ l.length
  · have hl : (cel E (l.take i)).length = i := by rw [cel_length, List.length_take, h]; omega
    rw [e]
    calc cel E (l.drop i) = (cel E (l.take i) ++ cel E (l.drop i)).drop (cel E (l.take i)).length := by rw [List.drop_left]
      _ = _ := by rw [hl]
  · rw [List.drop_of_length_le (by omega), List.drop_of_length_le (by rw [cel_length, h]; omega)]; rfl
theorem sli1 (hT : sli P S = some (T, 1)) : P.underlying S = some (.slice T) ∧ (P.info? T).map (·.size) = some 1 := by
  unfold sli at hT
  split at hT
  · rename_i e hu
    simp only [Option.map_eq_some_iff, Prod.mk.injEq] at hT
    obtain ⟨z', h1, rfl, rfl⟩ := hT
    exact ⟨hu, h1⟩
  · cases hT
theorem r_copy (hE : E.s = 1) (hT : sli P S = some (T, 1)) (hS : Sl E key l c sp) (hk : ∀ g, key = some g → w.heap[g]? = some (sob E T l sp)) (hR : Rd E w a2 l2)
    (hx : ev n ρ x = .slice (ownA key) m c) (hm : m = l.length) (hy : ev n ρ y = .slice a2 m2 c2) (hm2 : m2 = l2.length) {gd : Option (Nat × Bool)} :
    ∃ w', Runs P n ρ ⟨d, .call ⟨.builtin .copy, #[x, y], #[S, S']⟩, t, pos, after, gd⟩ w (i64 ((min l2.length l.length : Nat))) w' ∧ Sl E key (cpl l l2) c sp ∧ Chg (fun i => key = some i) w w' ∧ ∀ g, key = some g → w'.heap[g]? = some (sob E T (cpl l l2) sp) := by
  subst hm hm2
  obtain ⟨hu, hs⟩ := sli1 hT
  by_cases h0 : Nat.min l2.length l.length = 0
  · have e : cpl l l2 = l := by
      simp only [cpl]
      rcases Nat.eq_zero_or_pos l2.length with h | h
      · rw [List.length_eq_zero_iff.1 h]; simp
      · have h' : l.length = 0 := by simp only [Nat.min_def] at h0; split at h0 <;> omega
        rw [List.length_eq_zero_iff.1 h']; simp
    refine ⟨w, ?_, by rw [e]; exact hS, Chg.refl _ _, fun g hg => by rw [e]; exact hk g hg⟩
    have := run_copy_none (P := P) w S S' t T (ownA key) a2 l.length c l2.length c2 hu hs h0
    have e2 : i64 ((min l2.length l.length : Nat) : Int) = goInt 0 := by rw [show min l2.length l.length = 0 from h0]; rfl
    rw [e2]
    simp [Runs, execOp, resolve, hx, hy, invoke, builtin, this]
  · have hl1 : 0 < l.length := (Nat.eq_zero_or_pos l.length).elim (fun h => absurd (by rw [h]; exact Nat.min_zero _) h0) id
    have hl2 : 0 < l2.length := (Nat.eq_zero_or_pos l2.length).elim (fun h => absurd (by rw [h]; exact Nat.zero_min _) h0) id
    obtain ⟨g, rfl⟩ := hS.some hl1
    obtain ⟨ad, rfl⟩ := hR.some hl2
    have hg := hk g rfl
    have hcl : (cel E (l2.take l.length)).length = Nat.min l2.length l.length := by rw [cel_length, List.length_take, hE, Nat.mul_one, Nat.min_comm]
    have hone : ∀ v ∈ cel E (l2.take l.length), v.oneCell' = true := by
      intro v hv
      obtain ⟨a, _, ha⟩ := List.mem_flatMap.1 hv
      exact E.one a v ha
    have hrun := run_copy_row (P := P) w S S' t T g 0 l.length c ad l2.length c2 (cel E l ++ sp).toArray T (cel E (l2.take l.length)) hu hs hg hcl
      ((hR.take l.length).cells rfl) (by rw [hcl]; simp [cel_length, hE]; exact Nat.le_trans (Nat.min_le_right _ _) (Nat.le_add_right _ _)) hone
    have hrow : (cel E l ++ sp).take 0 ++ cel E (l2.take l.length) ++ (cel E l ++ sp).drop (0 + (cel E (l2.take l.length)).length) = cel E (cpl l l2) ++ sp := by
      rw [hcl, List.take_zero, List.nil_append, Nat.zero_add, cpl, cel_append, cel_drop1 hE, List.append_assoc]
      congr 1
      have hlc : (cel E l).length = l.length := by rw [cel_length, hE, Nat.mul_one]
      rw [List.drop_append_of_le_length (by rw [hlc]; exact Nat.min_le_right _ _)]
      congr 1
      by_cases h : l2.length ≤ l.length
      · rw [show Nat.min l2.length l.length = l2.length from Nat.min_eq_left h]
      · rw [show Nat.min l2.length l.length = l.length from Nat.min_eq_right (by omega), List.drop_of_length_le (by omega), List.drop_of_length_le (by omega)]
    rw [show (cel E l ++ sp).toArray.toList = cel E l ++ sp from rfl, hrow] at hrun
    refine ⟨w.setRow g (cel E (cpl l l2) ++ sp).toArray, ?_, ⟨by rw [cpl_len]; exact hS.len, hS.max, fun h => by cases h⟩, ?_, ?_⟩
    · have e2 : i64 ((min l2.length l.length : Nat) : Int) = goInt (cel E (l2.take l.length)).length := by rw [hcl]; rfl
      rw [e2]
      simp only [ownA, Option.map_some] at hx
      simp only [Runs, execOp, resolve, hx, hy, invoke, builtin, Sem.run_bind, Sem.run_pure, Result.andThen_ok, List.map_toArray, List.map_cons, List.map_nil, hrun]
    · refine ⟨fun i o hn hi => ?_, by simp, rfl, rfl, rfl⟩
      rw [setRow_other _ _ _ _ (fun e => hn (by rw [e]))]; exact hi
    · intro g' hg'
      cases hg'
      rw [setRow_heap _ _ _ _ _ _ hg]
      rfl
theorem q_copy (H : Hp M w₀ w L) (hL : L[k]? = some (key, sob E T l sp)) (hS : Sl E key l c sp) (hE : E.s = 1) (hT : sli P S = some (T, 1)) (hR : Rd E w a2 l2)
    (hx : ev n ρ x = .slice (ownA key) m c) (hm : m = l.length) (hy : ev n ρ y = .slice a2 m2 c2) (hm2 : m2 = l2.length)
    (h : ∀ w', Sl E key (cpl l l2) c sp → Hp M w₀ w' (L.set k (key, sob E T (cpl l l2) sp)) → W P n ops Q rest (updo ρ d (i64 ((min l2.length l.length : Nat)))) w') :
    W P n ops Q (⟨d, .call ⟨.builtin .copy, #[x, y], #[S, S']⟩, t, pos, after, none⟩ :: rest) ρ w := by
  obtain ⟨w', h1, h2, h3, h4⟩ := r_copy (d := d) (t := t) (pos := pos) (after := after) (gd := none) (S' := S') hE hT hS (fun g hg => H.has _ (List.mem_of_getElem? hL) g hg) hR hx hm hy hm2
  exact sq h1 (h w' h2 (H.turn hL h3 fun b hb => ⟨.inl hb, h4 b hb⟩))
end
end Go.Proofs.YteofdmdpaejgaaaDoor.Vc
namespace Go.Proofs.YteofdmdpaejgaaaDoor.Vc
open Go Go.ChangeShapes Go.WideShapes Go.ChangeAt Go.RowKit
/-- What reads at a type is of one encoding, and its value is of one kind. -/
def Opens {α : Type} (P : Program) (e : TypeId) (E : Enc α) (Q : α → Prop) : Prop :=
  P.cellsOf e = E.s ∧ ∀ (H : Type) (enc : TypeId × Value → H) (w : World) (base : Nat) (spare : Nat → Bool) (held : Bool) (fuel : Nat) (cs : List Value) (x : DataW H × List MemPlace),
    DataW.trod enc P w base spare held fuel e cs = some x → ∃ a, cs = E.f a ∧ Q a
theorem two_ex {α : Type} {l : List α} (h : l.length = 2) : ∃ a b, l = [a, b] := by
  match l, h with
  | [a, b], _ => exact ⟨a, b, rfl⟩
/-- bounds of an integer of 64 bits -/
def Fit64 (n : Int) : Prop := -9223372036854775808 ≤ n ∧ n ≤ 9223372036854775807
section
variable {P : Program} {e t : TypeId}
theorem opens64 (h : P.underlying e = some (.int .u64)) (hc : P.cellsOf e = 1) : Opens P e E64 fun _ => True := by
  refine ⟨hc, fun H enc w base spare held fuel cs x hx => ?_⟩
  obtain ⟨n, rfl, _, hw⟩ := DataW.trod_int h hx
  have := bounds_u64 hw
  refine ⟨BitVec.ofInt 64 n, ?_, trivial⟩
  show _ = [u64 _]
  rw [u64, BitVec.toNat_ofInt]; congr 2; omega
theorem opensI (h : P.underlying e = some (.int .i64)) (hc : P.cellsOf e = 1) : Opens P e EI Fit64 := by
  refine ⟨hc, fun H enc w base spare held fuel cs x hx => ?_⟩
  obtain ⟨n, rfl, _, hw⟩ := DataW.trod_int h hx
  exact ⟨n, rfl, bounds_i64 hw⟩
theorem opensB (h : P.underlying e = some .bool) (hc : P.cellsOf e = 1) : Opens P e EB fun _ => True := by
  refine ⟨hc, fun H enc w base spare held fuel cs x hx => ?_⟩
  obtain ⟨b, rfl, _⟩ := DataW.trod_bool h hx
  exact ⟨b, rfl, trivial⟩
theorem cel_chunks {α : Type} {E : Enc α} {Q : α → Prop} : ∀ (n : Nat) (cs : List Value), cs.length = n * E.s → (∀ i, i < n → ∃ a, (cs.drop (i * E.s)).take E.s = E.f a ∧ Q a) →
    ∃ l, cs = cel E l ∧ l.length = n ∧ ∀ a ∈ l, Q a
  | 0, cs, h, _ => ⟨[], by simpa using h, rfl, by simp⟩
  | n + 1, cs, h, hh => by
    obtain ⟨a, ha, qa⟩ := hh 0 (by omega)
    obtain ⟨l, h1, h2, h3⟩ := cel_chunks (E := E) (Q := Q) n (cs.drop E.s) (by rw [List.length_drop, h, Nat.add_mul]; omega) fun i hi => by
      obtain ⟨b, hb, qb⟩ := hh (i + 1) (by omega)
      exact ⟨b, by rw [List.drop_drop, ← hb]; congr 2; rw [Nat.add_mul]; omega, qb⟩
    refine ⟨a :: l, ?_, by simp [h2], ?_⟩
    · rw [cel_cons, ← h1, ← ha]; simp
    · intro x hx
      rcases List.mem_cons.1 hx with rfl | hx
      · exact qa
      · exact h3 x hx
/-- the cells of an array -/
theorem opens_cells {α : Type} {E : Enc α} {Q : α → Prop} {H : Type} {enc : TypeId × Value → H} {w : World} {base : Nat} {spare : Nat → Bool} {held : Bool} {fuel : Nat} {cs : List Value} {x : DataW H × List MemPlace} {n : Nat}
    (ht : P.underlying t = some (.array n e)) (hE : Opens P e E Q) (hz : P.cellsOf t = n * P.cellsOf e) (h : DataW.trod enc P w base spare held fuel t cs = some x) :
    ∃ l, cs = cel E l ∧ l.length = n ∧ ∀ a ∈ l, Q a := by
  obtain ⟨xs, m, _, _, hl, hx, hi⟩ := DataW.trod_array ht h
  refine cel_chunks n cs (by rw [hl, hz, hE.1]) fun i hi' => ?_
  have := hi i hi'
  rw [List.getElem?_eq_getElem (by omega), hE.1] at this
  exact hE.2 _ _ _ _ _ _ _ _ _ this
section
variable {H : Type} {enc : TypeId × Value → H} {w : World} {base : Nat} {spare : Nat → Bool} {held : Bool} {r : Reach} {b0 : Nat} {v : Value} {d : DataW H} {ps : List MemPlace}
/-- arguments read as they did -/
theorem trodAll_below {W W' : World} (hl : laidOutB P = true) (hb : Below W.heap.size W W') : ∀ (ts : List TypeId) (vs : List Value) (ds : List (DataW H)) (ps : List MemPlace),
    (∀ t ∈ ts, P.readableRec t = true ∧ t < P.types.size) → DataW.TrodAll enc P W 0 (fun _ => true) true ts vs ds ps → DataW.TrodAll enc P W' 0 (fun b => decide (b < W.heap.size)) true ts vs ds ps
  | [], vs, ds, ps, _, h => by cases vs <;> cases ds <;> simp_all [DataW.TrodAll]
  | t :: ts, vs, ds, ps, hr, h => by
    obtain ⟨v, vs', d, ds', p, q, rfl, rfl, rfl, h1, h2⟩ := trodAll_cons h
    have lt : ∀ x ∈ p, x.block < W.heap.size := by obtain ⟨m, hm⟩ := h1; exact DataW.trod_lt m _ _ _ hm
    exact trodAll_cons_mk (Below.trod hl (hr t (by simp)).1 (hr t (by simp)).2 h1 hb lt) (trodAll_below hl hb ts vs' ds' q (fun x hx => hr x (by simp [hx])) h2)
/-- the end of a law that returned true and wrote to no block that was there -/
theorem law_end {fn : Func} {s : ChangeSpec} {W W' : World} {args : Array Value} {ds gs : List (DataW H)} {before : List MemPlace} {tb : TypeId}
    (hl : laidOutB P = true) (hr0 : (fn.params.toList.all fun t => P.readableRec t && decide (t < P.types.size)) = true) (hres : fn.resultTypes.toList = [tb]) (hsz : fn.resultTypes.size = 1) (htb : P.underlying tb = some .bool) (hv : s.vars = [])
    (hW : DataW.Whole enc P fn.params.toList s.vars false W args.toList ds gs before) (h1 : (s.fn H (ds ++ gs)).results = [.lit (.bool true)]) (h2 : (s.fn H (ds ++ gs)).args = ds) (h3 : (s.fn H (ds ++ gs)).vars = [])
    (hb : Below W.heap.size W W') : s.post enc P fn false true false false W args (.bool true) W' := by
  have hr : ∀ t ∈ fn.params.toList, P.readableRec t = true ∧ t < P.types.size := fun t ht => by
    have := List.all_eq_true.1 hr0 t ht
    simpa using this
  have hW' := hW
  obtain ⟨p, q, hA, hV, rfl, hfz, hnd⟩ := hW
  refine ⟨ds, gs, _, [], p, [], hW', ?_, ?_, ?_, hb.frame _, fun h => by cases h⟩
  · rw [hres, hsz, h1]
    exact trodAll_mk1 (shut_bool htb _)
  · rw [h2]
    exact trodAll_below hl hb _ _ _ _ hr hA
  · rw [h3, hv]; rfl
end
end
end Go.Proofs.YteofdmdpaejgaaaDoor.Vc
namespace Go.Proofs.YteofdmdpaejgaaaDoor.Vc
open Go Go.ChangeShapes Go.WideShapes Go.ChangeAt Go.RowKit Go.Deep
theorem cell_some {w : World} {b off : Nat} {v : Value} (h : w.cell? ⟨b, off, none⟩ = some v) : ∃ cs T fr, w.heap[b]? = some (.cells cs T fr) ∧ cs[off]? = some v := by
  unfold World.cell? at h
  split at h
  · rename_i cs T fr hc
    exact ⟨cs, T, fr, hc, h⟩
  · cases h
theorem list_of {α : Type} {p : Nat → α → Prop} : ∀ (n : Nat), (∀ i, i < n → ∃ a, p i a) → ∃ l : List α, l.length = n ∧ ∀ i a, l[i]? = some a → p i a
  | 0, _ => ⟨[], rfl, fun i a h => by simp at h⟩
  | n + 1, h => by
    obtain ⟨l, h1, h2⟩ := list_of n fun i hi => h i (by omega)
    obtain ⟨a, ha⟩ := h n (by omega)
    refine ⟨l ++ [a], by simp [h1], fun i x hx => ?_⟩
    by_cases hi : i < l.length
    · rw [List.getElem?_append_left hi] at hx; exact h2 i x hx
    · rw [List.getElem?_append_right (by omega)] at hx
      have := (List.getElem?_eq_some_iff.1 hx).1
      simp only [List.length_singleton] at this
      have e : i = n := by omega
      subst e
      rw [h1, Nat.sub_self] at hx
      simp at hx; subst hx; exact ha
section
variable {P : Program} {t e : TypeId} {α : Type} {E : Enc α} {Q : α → Prop} {H : Type} {enc : TypeId × Value → H} {w : World} {base : Nat} {held : Bool} {r : Reach} {b0 : Nat} {v : Value} {d : DataW H} {ps : List MemPlace}
theorem cel_one (h1 : ∀ a, E.f a = [E.val a]) : ∀ (l : List α) (i : Nat), (cel E l)[i]? = (l[i]?).map E.val
  | [], i => by simp [cel]
  | a :: l, i => by
    rw [cel_cons, h1]
    cases i with
    | zero => rfl
    | succ i => simpa using cel_one h1 l i
/-- an argument that is a slice of one kind of single cells -/
theorem open_sl (ht : P.underlying t = some (.slice e)) (hE : Opens P e E Q) (hs : E.s = 1) (hf : ∀ a, E.f a = [E.val a]) (hv : Value.okWide P w r b0 t v) (h : DataW.Trod enc P w base (fun _ => true) held t v d ps) :
    ∃ a l c, v = .slice a l.length c ∧ Rd E w a l ∧ (∀ x ∈ l, Q x) ∧ l.length ≤ c ∧ (l = [] ∨ ∃ elems sp, d = .slice elems sp ∧ elems.length = l.length) := by
  obtain ⟨a, len, cap, rfl⟩ := okWide_slice ht hv
  obtain ⟨fuel, h⟩ := h
  rcases open_slice1 ht (hE.1.trans hs) h with ⟨h1, _⟩ | ⟨x, len', cap', m, n, V, D, Pl, h1, _, hl, _, hm, hx, hi⟩
  · simp only [Value.cells, List.cons.injEq, Value.slice.injEq, and_true] at h1
    obtain ⟨rfl, rfl, rfl⟩ := h1
    exact ⟨none, [], 0, rfl, .inl rfl, by simp, by simp, .inl rfl⟩
  · simp only [Value.cells, List.cons.injEq, Value.slice.injEq, and_true] at h1
    obtain ⟨rfl, rfl, rfl⟩ := h1
    simp only [if_true] at hm
    obtain ⟨l, hl1, hl2⟩ := list_of (p := fun i b => V i = E.val b ∧ Q b) len fun i hi' => by
      obtain ⟨b, hb, hq⟩ := hE.2 _ _ _ _ _ _ _ _ _ (hi i (by omega)).2
      rw [hf] at hb
      exact ⟨b, (List.cons.inj hb).1, hq⟩
    refine ⟨some x, l, cap, by rw [hl1], ?_, fun y hy => ?_, by omega, ?_⟩
    · by_cases h0 : l = []
      · exact .inl h0
      · have hpos : 0 < len := by rw [← hl1]; exact List.length_pos_iff.2 h0
        obtain ⟨b, off, spot⟩ := x
        have hspot : spot = none := by simpa [Addr.add] using World.cell?_spot (hi 0 (by omega)).1
        subst hspot
        have h00 := (hi 0 (by omega)).1
        rw [Addr.add_lit] at h00
        obtain ⟨cs, T, fr, h2, _⟩ := cell_some h00
        refine .inr ⟨b, off, cs, T, fr, rfl, h2, fun i u hu => ?_⟩
        rw [cel_one hf] at hu
        cases hli : l[i]? with
        | none => rw [hli] at hu; cases hu
        | some y =>
          rw [hli] at hu
          have hil := (List.getElem?_eq_some_iff.1 hli).1
          have h3 := (hi i (by omega)).1
          rw [Addr.add_lit] at h3
          obtain ⟨cs', T', fr', h4, h5⟩ := cell_some h3
          rw [h2] at h4; cases h4
          rw [h5, (hl2 i y hli).1]; exact hu
    · obtain ⟨i, hi1, hi2⟩ := List.getElem_of_mem hy
      exact (hl2 i y (by rw [List.getElem?_eq_getElem hi1, hi2])).2
    · simp only [Prod.mk.injEq] at hx
      exact .inr ⟨_, _, hx.1, by simp [hl1]⟩
/-- .. and how long it may be -/
theorem open_sized {ts : List TypeId} {ds : List (DataW H)} {j by' : Nat} {l : List α} (hw : (DataW.weightsEach P ts ds).all (· ≤ reachBytes) = true) (ht : P.underlying t = some (.slice e)) (hj : ts[j]? = some t) (hd : ds[j]? = some d) (hby : P.bytesOf e = by')
    (h : l = [] ∨ ∃ elems sp, d = .slice elems sp ∧ elems.length = l.length) : l.length * by' ≤ 140737488351232 := by
  rcases h with rfl | ⟨elems, sp, rfl, h1⟩
  · simp
  · have := sized_slice hw hj hd ht
    rw [hby, Nat.add_mul, h1] at this
    have h2 : reachBytes = 140737488351232 := by decide
    omega
end
end Go.Proofs.YteofdmdpaejgaaaDoor.Vc
namespace Go.Proofs.YteofdmdpaejgaaaDoor.Vc
open Go Go.ChangeShapes Go.WideShapes Go.ChangeAt Go.RowKit Go.Deep Go.Joins
section
variable {P : Program} {t e : TypeId} {α : Type} {E : Enc α} {Q : α → Prop} {H : Type} {enc : TypeId × Value → H} {w : World} {base : Nat} {held : Bool}
theorem opensG {f0 f1 f2 : Field} (hs : P.underlying e = some (.struct #[f0, f1, f2])) (hone : oneCellFields P #[f0, f1, f2] = true) (hC : P.cellsOf e = 3)
    (i0 : P.underlying f0.type = some (.int .i64)) (i1 : P.underlying f1.type = some (.int .i64)) (i2 : P.underlying f2.type = some (.int .i64)) : Opens P e EG fun _ => True := by
  refine ⟨hC, fun H enc w base spare held fuel cs x h => ?_⟩
  obtain ⟨y0, y1, y2, n, _, hl, h0, h1, h2⟩ := trod_struct3 hs h
  rw [hC] at hl
  match cs, hl with
  | [c0, c1, c2], _ =>
    obtain ⟨o0, k0⟩ := hone_of hone 0 f0 rfl
    obtain ⟨o1, k1⟩ := hone_of hone 1 f1 rfl
    obtain ⟨o2, k2⟩ := hone_of hone 2 f2 rfl
    simp only [o0, k0, o1, k1, o2, k2, List.drop_zero, List.take_succ_cons, List.take_zero, List.drop_succ_cons] at h0 h1 h2
    obtain ⟨a, ha, _, _⟩ := DataW.trod_int i0 h0
    obtain ⟨b, hb, _, _⟩ := DataW.trod_int i1 h1
    obtain ⟨c, hc, _, _⟩ := DataW.trod_int i2 h2
    cases ha; cases hb; cases hc
    exact ⟨⟨a, b, c⟩, rfl, trivial⟩
/-- a slice, as one cell -/
theorem open_slT {m : Nat} {c : Value} {x : DataW H × List MemPlace} (ht : P.underlying t = some (.slice e)) (hE : Opens P e E Q) (h : DataW.trod enc P w base (fun _ => true) held m t [c] = some x) :
    ∃ a l cap, c = .slice a l.length cap ∧ Rd E w a l ∧ (∀ y ∈ l, Q y) ∧ l.length ≤ cap := by
  rcases open_slice ht h with ⟨h1, _⟩ | ⟨ad, len, cap, m', n, D, Pl, h1, _, hl, _, hm, _, hi⟩
  · cases h1
    exact ⟨none, [], 0, rfl, .inl rfl, by simp, by simp⟩
  · cases h1
    simp only [if_true] at hm
    obtain ⟨l, hl1, hl2⟩ := list_of (p := fun i b => (∀ j, j < E.s → w.cell? ((ad.add (i * E.s)).add j) = (E.f b)[j]?) ∧ Q b) len fun i hi' => by
      obtain ⟨cs', h2, h3⟩ := hi i (by omega)
      rw [hE.1] at h2
      obtain ⟨b, hb, hq⟩ := hE.2 _ _ _ _ _ _ _ _ _ h3
      obtain ⟨_, _, h4⟩ := World.cells?_some h2
      exact ⟨b, fun j hj => by rw [h4 j hj, hb], hq⟩
    refine ⟨some ad, l, cap, by rw [hl1], ?_, fun y hy => ?_, by omega⟩
    · by_cases h0 : l = []
      · exact .inl h0
      · have hpos : 0 < len := by rw [← hl1]; exact List.length_pos_iff.2 h0
        have hcell : ∀ i y, l[i]? = some y → ∀ j, j < E.s → w.cell? ((ad.add (i * E.s)).add j) = (E.f y)[j]? := fun i y hy => (hl2 i y hy).1
        obtain ⟨y0, hy0⟩ : ∃ y, l[0]? = some y := ⟨_, List.getElem?_eq_getElem (by omega)⟩
        have h00 := hcell 0 y0 hy0 0 E.pos
        have hv0 : ∃ u, (E.f y0)[0]? = some u := ⟨_, List.getElem?_eq_getElem (by rw [E.len]; exact E.pos)⟩
        obtain ⟨u0, hu0⟩ := hv0
        rw [hu0] at h00
        obtain ⟨b, off, spot⟩ := ad
        have hspot : spot = none := by
          have := World.cell?_spot h00
          cases spot with
          | none => rfl
          | some s => simp [Addr.add] at this
        subst hspot
        rw [Addr.add_lit, Addr.add_lit] at h00
        obtain ⟨cs, T, fr, h2, _⟩ := cell_some h00
        refine .inr ⟨b, off, cs, T, fr, rfl, h2, fun q u hu => ?_⟩
        have hq := (List.getElem?_eq_some_iff.1 hu).1
        rw [cel_length] at hq
        have hi' : q / E.s < l.length := Nat.div_lt_of_lt_mul (by rw [Nat.mul_comm]; exact hq)
        have hj' : q % E.s < E.s := Nat.mod_lt _ E.pos
        have hqe : q / E.s * E.s + q % E.s = q := by rw [Nat.mul_comm]; exact Nat.div_add_mod _ _
        have hy := List.getElem?_eq_getElem hi'
        have h5 := hcell _ _ hy _ hj'
        have h6 := cel_get (E := E) l (q / E.s) (q % E.s) _ hy hj'
        rw [hqe, hu] at h6
        rw [← h6, Addr.add_lit, Addr.add_lit, Nat.add_assoc, hqe] at h5
        obtain ⟨cs', T', fr', h7, h8⟩ := cell_some h5
        rw [h2] at h7; cases h7
        exact h8
    · obtain ⟨i, hi1, hi2⟩ := List.getElem_of_mem hy
      exact (hl2 i y (by rw [List.getElem?_eq_getElem hi1, hi2])).2
end
end Go.Proofs.YteofdmdpaejgaaaDoor.Vc
namespace Go.Proofs.YteofdmdpaejgaaaDoor.Vc
open Go Go.ChangeShapes Go.WideShapes Go.ChangeAt Go.RowKit Go.Deep
section
variable {P : Program} {t e e2 e4 : TypeId} {H : Type} {enc : TypeId × Value → H} {w : World} {base : Nat} {held : Bool} {r : Reach} {b0 : Nat} {v : Value} {d : DataW H} {ps : List MemPlace}
theorem opensLb (h2 : P.underlying e2 = some (.array 2 e)) (hu : P.underlying e = some (.int .u64)) (hc : P.cellsOf e = 1) (hc2 : P.cellsOf e2 = 2) : Opens P e2 ELb fun _ => True := by
  refine ⟨hc2, fun H enc w base spare held fuel cs x h => ?_⟩
  obtain ⟨l, h3, h4, _⟩ := opens_cells h2 (opens64 hu hc) (by rw [hc2, hc]) h
  obtain ⟨a, b, rfl⟩ := two_ex h4
  exact ⟨(a, b), by rw [h3]; rfl, trivial⟩
end
end Go.Proofs.YteofdmdpaejgaaaDoor.Vc
namespace Go.Proofs.YteofdmdpaejgaaaDoor.Vc
open Go Go.ChangeShapes Go.WideShapes Go.ChangeAt Go.RowKit Go.Deep Go.Joins
section
variable {P : Program} {t e : TypeId} {α : Type} {E : Enc α} {Q : α → Prop} {H : Type} {enc : TypeId × Value → H} {w : World} {base : Nat} {held : Bool}
/-- a slice, as one cell; and what was read of it -/
theorem open_slC {m : Nat} {c : Value} {x : DataW H × List MemPlace} (ht : P.underlying t = some (.slice e)) (hE : Opens P e E Q) (h : DataW.trod enc P w base (fun _ => true) held m t [c] = some x) :
    ∃ a l cap, c = .slice a l.length cap ∧ Rd E w a l ∧ (∀ y ∈ l, Q y) ∧ l.length ≤ cap ∧ (l = [] ∨ ∃ elems sp, x.1 = .slice elems sp ∧ elems.length = l.length) := by
  rcases open_slice ht h with ⟨h1, _⟩ | ⟨ad, len, cap, m', n, D, Pl, h1, _, hl, _, hm, hx, hi⟩
  · cases h1
    exact ⟨none, [], 0, rfl, .inl rfl, by simp, by simp, .inl rfl⟩
  · cases h1
    simp only [if_true] at hm
    obtain ⟨l, hl1, hl2⟩ := list_of (p := fun i b => (∀ j, j < E.s → w.cell? ((ad.add (i * E.s)).add j) = (E.f b)[j]?) ∧ Q b) len fun i hi' => by
      obtain ⟨cs', h2, h3⟩ := hi i (by omega)
      rw [hE.1] at h2
      obtain ⟨b, hb, hq⟩ := hE.2 _ _ _ _ _ _ _ _ _ h3
      obtain ⟨_, _, h4⟩ := World.cells?_some h2
      exact ⟨b, fun j hj => by rw [h4 j hj, hb], hq⟩
    refine ⟨some ad, l, cap, by rw [hl1], ?_, fun y hy => ?_, by omega, ?_⟩
    · by_cases h0 : l = []
      · exact .inl h0
      · have hpos : 0 < len := by rw [← hl1]; exact List.length_pos_iff.2 h0
        have hcell : ∀ i y, l[i]? = some y → ∀ j, j < E.s → w.cell? ((ad.add (i * E.s)).add j) = (E.f y)[j]? := fun i y hy => (hl2 i y hy).1
        obtain ⟨y0, hy0⟩ : ∃ y, l[0]? = some y := ⟨_, List.getElem?_eq_getElem (by omega)⟩
        have h00 := hcell 0 y0 hy0 0 E.pos
        have hv0 : ∃ u, (E.f y0)[0]? = some u := ⟨_, List.getElem?_eq_getElem (by rw [E.len]; exact E.pos)⟩
        obtain ⟨u0, hu0⟩ := hv0
        rw [hu0] at h00
        obtain ⟨b, off, spot⟩ := ad
        have hspot : spot = none := by
          have := World.cell?_spot h00
          cases spot with
          | none => rfl
          | some s => simp [Addr.add] at this
        subst hspot
        rw [Addr.add_lit, Addr.add_lit] at h00
        obtain ⟨cs, T, fr, h2, _⟩ := cell_some h00
        refine .inr ⟨b, off, cs, T, fr, rfl, h2, fun q u hu => ?_⟩
        have hq := (List.getElem?_eq_some_iff.1 hu).1
        rw [cel_length] at hq
        have hi' : q / E.s < l.length := Nat.div_lt_of_lt_mul (by rw [Nat.mul_comm]; exact hq)
        have hj' : q % E.s < E.s := Nat.mod_lt _ E.pos
        have hqe : q / E.s * E.s + q % E.s = q := by rw [Nat.mul_comm]; exact Nat.div_add_mod _ _
        have hy := List.getElem?_eq_getElem hi'
        have h5 := hcell _ _ hy _ hj'
        have h6 := cel_get (E := E) l (q / E.s) (q % E.s) _ hy hj'
        rw [hqe, hu] at h6
        rw [← h6, Addr.add_lit, Addr.add_lit, Nat.add_assoc, hqe] at h5
        obtain ⟨cs', T', fr', h7, h8⟩ := cell_some h5
        rw [h2] at h7; cases h7
        exact h8
    · obtain ⟨i, hi1, hi2⟩ := List.getElem_of_mem hy
      exact (hl2 i y (by rw [List.getElem?_eq_getElem hi1, hi2])).2
    · exact .inr ⟨_, _, by rw [hx], by simp [hl1]⟩
theorem open_keys {e2 : TypeId} {f0 f1 f2 : Field} {r : Reach} {b0 : Nat} {v : Value} {d : DataW H} {ps : List MemPlace} {ts : List TypeId} {ds : List (DataW H)} {j : Nat} (hs : P.underlying t = some (.struct #[f0, f1, f2])) (hC : P.cellsOf t = 4)
    (h0 : P.underlying f0.type = some (.array 2 e)) (hu : P.underlying e = some (.int .u64)) (hce : P.cellsOf e = 1) (h1 : P.underlying f1.type = some (.slice e2)) (hE : Opens P e2 ELb fun _ => True) (hb : P.bytesOf e2 = 16) (h2 : P.underlying f2.type = some (.int .u64))
    (o0 : f0.offset = 0 ∧ P.cellsOf f0.type = 2) (o1 : f1.offset = 2 ∧ P.cellsOf f1.type = 1) (o2 : f2.offset = 3 ∧ P.cellsOf f2.type = 1)
    (hv : Value.okWide P w r b0 t v) (h : DataW.Trod enc P w base (fun _ => true) held t v d ps) (hw : (DataW.weightsEach P ts ds).all (· ≤ reachBytes) = true) (hj : ts[j]? = some t) (hd : ds[j]? = some d) :
    ∃ (δ : BitVec 64 × BitVec 64) (zs : List (BitVec 64 × BitVec 64)) (za : Option Addr) (zc : Nat) (first : BitVec 64), v = .agg #[u64 δ.1, u64 δ.2, .slice za zs.length zc, u64 first] ∧ Rd ELb w za zs ∧ zs.length ≤ zc ∧ zs.length * 16 ≤ 140737488351232 := by
  obtain ⟨cs, rfl, hsz⟩ := okWide_struct hs hv
  obtain ⟨fuel, hf⟩ := h
  obtain ⟨y0, y1, y2, n, hx, hl, g0, g1, g2⟩ := trod_struct3 hs hf
  obtain ⟨cs⟩ := cs
  have hl4 : cs.length = 4 := by have := hsz; simp only [List.size_toArray] at this; omega
  match cs, hl4 with
  | [c0, c1, c2, c3], _ =>
    simp only [Value.cells, o0.1, o0.2, o1.1, o1.2, o2.1, o2.2, List.drop_zero, List.take_succ_cons, List.take_zero, List.drop_succ_cons] at g0 g1 g2
    obtain ⟨l, l1, l2, _⟩ := opens_cells h0 (opens64 hu hce) (by rw [o0.2, hce]) g0
    obtain ⟨a, b, rfl⟩ := two_ex l2
    obtain ⟨za, zs, zc, rfl, hR, _, hlc, hq⟩ := open_slC h1 hE g1
    obtain ⟨c, hcc, _⟩ := (opens64 h2 o2.2).2 _ _ _ _ _ _ _ _ _ g2
    have l3 : [c0, c1] = [u64 a, u64 b] := l1
    simp only [List.cons.injEq, and_true] at l3
    obtain ⟨rfl, rfl⟩ := l3
    refine ⟨(a, b), zs, za, zc, c, by rw [(List.cons.inj hcc).1]; rfl, hR, hlc, ?_⟩
    rcases hq with rfl | ⟨elems, sp, q1, q2⟩
    · simp
    · simp only [Prod.mk.injEq] at hx
      rw [hx.1, q1] at hd
      have := List.all_eq_true.1 hw _ (DataW.weights_mem_each hj hd ((elems.length + sp.length) * P.bytesOf e2) (by simp [DataW.weights, DataW.weightsEach, hs, h1]))
      have h5 : reachBytes = 140737488351232 := by decide
      simp only [decide_eq_true_eq] at this
      rw [hb] at this; omega
end
end Go.Proofs.YteofdmdpaejgaaaDoor.Vc
